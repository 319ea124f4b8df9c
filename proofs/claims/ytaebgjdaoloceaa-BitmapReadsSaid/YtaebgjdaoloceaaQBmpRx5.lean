/- Part of a proof: functions of the program as Lean functions, and that the machine's calls come to them. Made by a program of this session (wip/mp). -/
import Derived.Test.YtaebgjdaoloceaaQBmpRx0
import Derived.Test.YtaebgjdaoloceaaQBmpRx4
namespace Go.Proofs.Ytaebgjdaoloceaa.QBmpR
open Go.RowKit Go.Proofs.YtaebgjdaoloceaaV Go.Proofs.YtaebgjdaoloceaaW.PrintWords Go.Proofs.YtaebgjdaoloceaaW.PrintLast Go.Proofs.YtaebgjdaoloceaaW.PrintMore
attribute [local go_sem] max2_int min2_int max_two min_two max_three min_three max_four min_four   -- for this text's walks alone
set_option linter.unusedVariables false
set_option linter.unusedSimpArgs false

/-! ### dioramaref19_patch: function 62 -/
def dioramaref19_patch.f (k : Nat) (l0 : List Int) : Option (Int × Int × Int × Int × List Int × Int × Int) := if (l0.length : Int) < 8 then (some (0, 0, 0, 0, ([] : List Int), 0, 3)) else (if 0 < (l0.length : Int) then (if 1 < (l0.length : Int) then (if 2 < (l0.length : Int) then (if 3 < (l0.length : Int) then (if 4 < (l0.length : Int) then (if 5 < (l0.length : Int) then (if 6 < (l0.length : Int) then (if 7 < (l0.length : Int) then ((dioramaref19_place.f (wrap64 ((wrap64 ((wrap64 (rd l0 0)) * 256)) + (wrap64 (rd l0 1)))) (wrap64 ((wrap64 ((wrap64 (rd l0 2)) * 256)) + (wrap64 (rd l0 3)))) (wrap64 (rd l0 4)) (wrap64 (rd l0 5)) ([] : List Int)).bind fun t225 => (if t225 = 0 then (if (wrap64 ((wrap64 ((wrap64 (rd l0 6)) * 256)) + (wrap64 (rd l0 7)))) > (wrap64 ((l0.length : Int) - 8)) then (some (wrap64 ((wrap64 ((wrap64 (rd l0 0)) * 256)) + (wrap64 (rd l0 1))), wrap64 ((wrap64 ((wrap64 (rd l0 2)) * 256)) + (wrap64 (rd l0 3))), wrap64 (rd l0 4), wrap64 (rd l0 5), ([] : List Int), 0, 3)) else (if 8 ≤ (wrap64 (8 + (wrap64 ((wrap64 ((wrap64 (rd l0 6)) * 256)) + (wrap64 (rd l0 7)))))) then (if (wrap64 (8 + (wrap64 ((wrap64 ((wrap64 (rd l0 6)) * 256)) + (wrap64 (rd l0 7)))))) ≤ (l0.length : Int) then ((dioramaref19_Pixels.f k ((l0.take ((wrap64 (8 + (wrap64 ((wrap64 ((wrap64 (rd l0 6)) * 256)) + (wrap64 (rd l0 7)))))) : Int).toNat).drop 8) (wrap64 (rd l0 4)) (wrap64 (rd l0 5))).bind fun bt230 => (some (wrap64 ((wrap64 ((wrap64 (rd l0 0)) * 256)) + (wrap64 (rd l0 1))), wrap64 ((wrap64 ((wrap64 (rd l0 2)) * 256)) + (wrap64 (rd l0 3))), wrap64 (rd l0 4), wrap64 (rd l0 5), bt230.1, wrap64 (8 + (wrap64 ((wrap64 ((wrap64 (rd l0 6)) * 256)) + (wrap64 (rd l0 7))))), bt230.2))) else (none)) else (none))) else (some (wrap64 ((wrap64 ((wrap64 (rd l0 0)) * 256)) + (wrap64 (rd l0 1))), wrap64 ((wrap64 ((wrap64 (rd l0 2)) * 256)) + (wrap64 (rd l0 3))), wrap64 (rd l0 4), wrap64 (rd l0 5), ([] : List Int), 0, t225)))) else (none)) else (none)) else (none)) else (none)) else (none)) else (none)) else (none)) else (none))
theorem dioramaref19_patch.mono:∀ a0 k,LeO (dioramaref19_patch.f k a0) (dioramaref19_patch.f (k+1) a0):=by
 intro a0 k
 unfold dioramaref19_patch.f
 repeat' first
  | (with_reducible exact dioramaref19_Pixels.mono _ _ _ _)
  | (with_reducible exact LeO.refl _)
  | (with_reducible exact LeO.none _)
  | (with_reducible refine LeO.ite ?_ ?_)
  | (with_reducible refine LeO.bind ?_ (fun _=>?_))
  | exact LeO.none _
  | refine LeO.ite ?_ ?_
  | refine LeO.bind ?_ (fun _=>?_)
def dioramaref19_patch.T4 : Bool × List (List Nat × List Nat) := (true, [([], []), ([0], [0]), ([1], [1]), ([2], [2]), ([3], [3]), ([], []), ([5], [5]), ([6], [6]), ([7], [7]), ([4, 8], [4, 8]), ([0, 1, 2, 3, 4, 5, 6, 7, 8, 9], []), ([10, 9, 0, 1, 2, 3, 4, 5, 6, 7, 8, 9], [9, 10])])
def dioramaref19_patch.B4 : List Nat := [0, 1, 3, 7, 15, 0, 32, 96, 224, 511, 1023, 2047]
theorem dioramaref19_patch.tab4:rtab .any (opsOf Try.f62 4)=dioramaref19_patch.T4:=by kernel_rfl
theorem dioramaref19_patch.bits4:waitsOk dioramaref19_patch.T4.2 dioramaref19_patch.B4=true:=by kernel_rfl
def dioramaref19_patch.T5 : Bool × List (List Nat × List Nat) := (true, [([], []), ([0], [0]), ([1], [1]), ([2], [2]), ([3], [3]), ([], []), ([5], [5]), ([6], [6]), ([7], [7]), ([4, 8], [4, 8]), ([0, 1, 2, 3, 4, 5, 6, 7, 8, 9], []), ([10, 9, 0, 1, 2, 3, 4, 5, 6, 7, 8, 9], [9, 10])])
def dioramaref19_patch.B5 : List Nat := [0, 1, 3, 7, 15, 0, 32, 96, 224, 511, 1023, 2047]
theorem dioramaref19_patch.tab5:rtab .any (opsOf Try.f62 5)=dioramaref19_patch.T5:=by kernel_rfl
theorem dioramaref19_patch.bits5:waitsOk dioramaref19_patch.T5.2 dioramaref19_patch.B5=true:=by kernel_rfl
def dioramaref19_patch.T6 : Bool × List (List Nat × List Nat) := (true, [([], []), ([0], [0]), ([1], [1]), ([2], [2]), ([], []), ([4], [4]), ([5], [5]), ([6], [6]), ([0, 1, 2, 3], []), ([8, 3, 0, 1, 2, 3], [3, 8]), ([0, 1, 2, 3, 4, 5, 6, 7, 8, 9], []), ([10, 7, 9, 0, 1, 2, 3, 4, 5, 6, 7, 8, 9], [7, 10])])
def dioramaref19_patch.B6 : List Nat := [0, 1, 3, 7, 0, 16, 48, 112, 15, 271, 1023, 2047]
theorem dioramaref19_patch.tab6:rtab .any (opsOf Try.f62 6)=dioramaref19_patch.T6:=by kernel_rfl
theorem dioramaref19_patch.bits6:waitsOk dioramaref19_patch.T6.2 dioramaref19_patch.B6=true:=by kernel_rfl
def dioramaref19_patch.T7 : Bool × List (List Nat × List Nat) := (true, [([], []), ([0], [0]), ([1], [1]), ([2], [2]), ([3], [3]), ([], []), ([5], [5]), ([6], [6]), ([7], [7]), ([4, 8], [4, 8]), ([9, 0, 1, 2, 3, 4, 5, 6, 7, 8, 9], [9])])
def dioramaref19_patch.B7 : List Nat := [0, 1, 3, 7, 15, 0, 32, 96, 224, 511, 1023]
theorem dioramaref19_patch.tab7:rtab .any (opsOf Try.f62 7)=dioramaref19_patch.T7:=by kernel_rfl
theorem dioramaref19_patch.bits7:waitsOk dioramaref19_patch.T7.2 dioramaref19_patch.B7=true:=by kernel_rfl
def dioramaref19_patch.T13 : Bool × List (List Nat × List Nat) := (true, [([], []), ([], []), ([1], [1]), ([0, 2], [0, 2]), ([], []), ([4], [4]), ([], []), ([6], [6]), ([3, 5, 7], [3, 5, 7]), ([8], [8]), ([9], [9]), ([9], [9]), ([10, 8, 0, 1, 2, 3, 4, 5, 6, 7, 8, 9, 10], [10]), ([11, 12, 0, 1, 2, 3, 4, 5, 6, 7, 8, 9, 10, 11, 12], [11])])
def dioramaref19_patch.B13 : List Nat := [0, 0, 2, 7, 0, 16, 0, 64, 255, 511, 1023, 1023, 2047, 8191]
theorem dioramaref19_patch.tab13:rtab .any (opsOf Try.f62 13)=dioramaref19_patch.T13:=by kernel_rfl
theorem dioramaref19_patch.bits13:waitsOk dioramaref19_patch.T13.2 dioramaref19_patch.B13=true:=by kernel_rfl
set_option maxHeartbeats 8000000 in
set_option maxRecDepth 100000 in
theorem dioramaref19_patch.calls (k:Nat) (A0:Option Addr) (c0:Nat) (l0:List Int) (r1:Int) (r2:Int) (r3:Int) (r4:Int) (r5:List Int) (r6:Int) (r7:Int) (w:World) (hr0:Kd.C (Kd.int .u8) w A0 l0.length l0) (hc0:l0.length≤c0) (h:dioramaref19_patch.f k l0=some (r1,r2,r3,r4,r5,r6,r7)) :
 Calls Try.prog 62 #[.slice A0 l0.length c0] w fun e w'=>∃ v4_:Value,e=.returned (.tuple #[.agg #[.int .i64 r1,.int .i64 r2,.int .i64 r3,.int .i64 r4,v4_],.int .i64 r6,.int .i64 r7])∧Kd.R (Kd.int .i64) 3 w' w.heap.size (fun _=>True) v4_ r5∧Below w.heap.size w w':=by
 have hu91:=Try.underlying91
 have HR0:=Aside0.mk hr0
 have HC0:=Aside0.mk hc0;clear hr0 hc0;have HB:=Aside0.mk (Below.refl w.heap.size w)
 have H:(if (l0.length:Int) < 8 then (some (0,0,0,0,([]:List Int),0,3)) else (if 0 < (l0.length:Int) then (if 1 < (l0.length:Int) then (if 2 < (l0.length:Int) then (if 3 < (l0.length:Int) then (if 4 < (l0.length:Int) then (if 5 < (l0.length:Int) then (if 6 < (l0.length:Int) then (if 7 < (l0.length:Int) then ((dioramaref19_place.f (wrap64 ((wrap64 ((wrap64 (rd l0 0))*256))+(wrap64 (rd l0 1)))) (wrap64 ((wrap64 ((wrap64 (rd l0 2))*256))+(wrap64 (rd l0 3)))) (wrap64 (rd l0 4)) (wrap64 (rd l0 5)) ([]:List Int)).bind fun t225=>(if t225=0 then (if (wrap64 ((wrap64 ((wrap64 (rd l0 6))*256))+(wrap64 (rd l0 7)))) > (wrap64 ((l0.length:Int) - 8)) then (some (wrap64 ((wrap64 ((wrap64 (rd l0 0))*256))+(wrap64 (rd l0 1))),wrap64 ((wrap64 ((wrap64 (rd l0 2))*256))+(wrap64 (rd l0 3))),wrap64 (rd l0 4),wrap64 (rd l0 5),([]:List Int),0,3)) else (if 8≤(wrap64 (8+(wrap64 ((wrap64 ((wrap64 (rd l0 6))*256))+(wrap64 (rd l0 7)))))) then (if (wrap64 (8+(wrap64 ((wrap64 ((wrap64 (rd l0 6))*256))+(wrap64 (rd l0 7))))))≤(l0.length:Int) then ((dioramaref19_Pixels.f k ((l0.take ((wrap64 (8+(wrap64 ((wrap64 ((wrap64 (rd l0 6))*256))+(wrap64 (rd l0 7)))))):Int).toNat).drop 8) (wrap64 (rd l0 4)) (wrap64 (rd l0 5))).bind fun bt230=>(some (wrap64 ((wrap64 ((wrap64 (rd l0 0))*256))+(wrap64 (rd l0 1))),wrap64 ((wrap64 ((wrap64 (rd l0 2))*256))+(wrap64 (rd l0 3))),wrap64 (rd l0 4),wrap64 (rd l0 5),bt230.1,wrap64 (8+(wrap64 ((wrap64 ((wrap64 (rd l0 6))*256))+(wrap64 (rd l0 7))))),bt230.2))) else (none)) else (none))) else (some (wrap64 ((wrap64 ((wrap64 (rd l0 0))*256))+(wrap64 (rd l0 1))),wrap64 ((wrap64 ((wrap64 (rd l0 2))*256))+(wrap64 (rd l0 3))),wrap64 (rd l0 4),wrap64 (rd l0 5),([]:List Int),0,t225)))) else (none)) else (none)) else (none)) else (none)) else (none)) else (none)) else (none)) else (none)))=some (r1,r2,r3,r4,r5,r6,r7):=h
 clear h
 by_cases c2:(l0.length:Int) < 8
 · rw [if_pos c2] at H
   have c2b0:decide ((l0.length:Int) < 8)=true:=decide_eq_true c2
   have c2b1:decide (l0.length < 8)=true:=decide_eq_true (by omega);clear c2
   simp only [Option.some.injEq,Prod.mk.injEq] at H
   obtain ⟨rfl,rfl,rfl,rfl,rfl,rfl,rfl⟩:=H
   go_enter Try.func62,Try.ntmps62
   go_wp2_with (first|((with_reducible refine gate_dst (N:=2) rfl ?_);refine box_event ?hg (N:=2) ?hd (cs:=#[.int .i64 0,.int .i64 0,.int .i64 0,.int .i64 0,.slice none 0 0]) (t:=91) ?hr ?_;(case hd=>rfl);(case hg=>rfl);(case hr=>first|(go_simp;done)|(go_simp;rfl));intro gb215 hg w3 hbox hb;have n0_:=Aside0.mk (below_step (belV HB.out) hb);have n1_:=Aside0.mk (hbox);have n2_:=Aside0.mk ((by rw [hg];exact (below_size (belV HB.out)):w.heap.size≤gb215));have n3_:=Aside0.mk ((by rw [hg];exact (below_size (belV HB.out)):w.heap.size≤gb215));clear HB;have HB:=n0_;have BK215:=n1_;have GW215:=n2_;have GE215:=n3_;clear n0_ n1_ n2_ n3_;clear hb hbox hg)|((with_reducible refine gate_dst (N:=5) rfl ?_);refine box_event ?hg (N:=5) ?hd (cs:=#[.int .i64 0,.int .i64 0,.int .i64 0,.int .i64 0,.slice none 0 0]) (t:=91) ?hr ?_;(case hd=>rfl);(case hg=>rfl);(case hr=>first|(go_simp;done)|(go_simp;rfl));intro gb216 hg w4 hbox hb;have n0_:=Aside0.mk (blk_below (g:=gb215) (blkV BK215.out) hb);have n1_:=Aside0.mk (below_step (belV1 HB.out GE215.out) hb);have n2_:=Aside0.mk (hbox);have n3_:=Aside0.mk ((by rw [hg];exact (below_size (belV1 HB.out GE215.out)):w.heap.size≤gb216));have n4_:=Aside0.mk ((by rw [hg];exact (below_size (belV1 HB.out GE215.out)):w.heap.size≤gb216));have n5_:=Aside0.mk ((by rw [hg];exact Nat.ne_of_lt (blk_lt (g:=gb215) (blkV BK215.out)):gb215≠gb216));have n6_:=Aside0.mk ((by rw [hg];exact Nat.ne_of_gt (blk_lt (g:=gb215) (blkV BK215.out)):gb216≠gb215));clear BK215;clear HB;have BK215:=n0_;have HB:=n1_;have BK216:=n2_;have GW216:=n3_;have GE216:=n4_;have NB215_216:=n5_;have NB216_215:=n6_;clear n0_ n1_ n2_ n3_ n4_ n5_ n6_;clear hb hbox hg;have hnb5:=NB216_215.out;have hnc5:=NB215_216.out;obtain ⟨hcz6_0,hcz6_1,hcz6_2,hcz6_3,hcz6_4,hfz6_0,hfz6_1,hfz6_2,hfz6_3,hfz6_4⟩:=bcells5 BK216.out;obtain ⟨hcz7_0,hcz7_1,hcz7_2,hcz7_3,hcz7_4,hfz7_0,hfz7_1,hfz7_2,hfz7_3,hfz7_4⟩:=bcells5 BK215.out))
   refine bodyPost_ret (results_ctt rfl _ _ gb215 91 #[.int .i64 0,.int .i64 0,.int .i64 0,.int .i64 0,.slice none 0 0] (0,0) _ rfl (by (with_reducible repeat (first|refine blk_drewN ?_ _|refine blk_drew ?_|refine blk_alloc ?_ _));refine blk_put (cs:=#[.int .i64 0,.int .i64 0,.int .i64 0,.int .i64 0,.slice none 0 0]) ?_ 4 _ rfl;(with_reducible repeat (first|refine blk_drewN ?_ _|refine blk_drew ?_|refine blk_alloc ?_ _));refine blk_put (cs:=#[.int .i64 0,.int .i64 0,.int .i64 0,.int .i64 0,.slice none 0 0]) ?_ 3 _ rfl;(with_reducible repeat (first|refine blk_drewN ?_ _|refine blk_drew ?_|refine blk_alloc ?_ _));refine blk_put (cs:=#[.int .i64 0,.int .i64 0,.int .i64 0,.int .i64 0,.slice none 0 0]) ?_ 2 _ rfl;(with_reducible repeat (first|refine blk_drewN ?_ _|refine blk_drew ?_|refine blk_alloc ?_ _));refine blk_put (cs:=#[.int .i64 0,.int .i64 0,.int .i64 0,.int .i64 0,.slice none 0 0]) ?_ 1 _ rfl;(with_reducible repeat (first|refine blk_drewN ?_ _|refine blk_drew ?_|refine blk_alloc ?_ _));refine blk_put (cs:=#[.int .i64 0,.int .i64 0,.int .i64 0,.int .i64 0,.slice none 0 0]) ?_ 0 _ rfl;(with_reducible repeat (first|refine blk_drewN ?_ _|refine blk_drew ?_|refine blk_alloc ?_ _));exact BK215.out) Try.underlying91 rfl (by kernel_rfl)) rfl ?_
   exact ⟨_,by first|rfl|(simp [errW_none,errW_some] <;> rfl)|(simp [*,errW_none,errW_some] <;> rfl),by first|exact Kd.R_nil _ _ _ _ _|exact Kd.N_nil _ _ _ _ _|exact Kd.V_nil _ _ _ _ _|exact Kd.Q_nil _ _ _ _ _|exact Kd.S_nil _ _ _ _ _,by repeat (first|(with_reducible first|exact HB.out|apply below_alloc|apply pw_below_drewN|apply below_drew1|refine below_set ?_ GE215.out|refine below_set ?_ GE216.out)|exact HB.out)⟩
 rw [if_neg c2] at H
 have c2b0:decide ((l0.length:Int) < 8)=false:=decide_eq_false c2
 have c2b1:decide (l0.length < 8)=false:=decide_eq_false (by omega);clear c2
 by_cases c8:0 < (l0.length:Int)
 · rw [if_pos c8] at H
   have c8b0:decide (0 < (l0.length:Int))=true:=decide_eq_true c8
   have c8b1:decide (0 < l0.length)=true:=decide_eq_true (by omega);clear c8
   by_cases c9:1 < (l0.length:Int)
   · rw [if_pos c9] at H
     have c9b0:decide (1 < (l0.length:Int))=true:=decide_eq_true c9
     have c9b1:decide (1 < l0.length)=true:=decide_eq_true (by omega);clear c9
     by_cases c10:2 < (l0.length:Int)
     · rw [if_pos c10] at H
       have c10b0:decide (2 < (l0.length:Int))=true:=decide_eq_true c10
       have c10b1:decide (2 < l0.length)=true:=decide_eq_true (by omega);clear c10
       by_cases c11:3 < (l0.length:Int)
       · rw [if_pos c11] at H
         have c11b0:decide (3 < (l0.length:Int))=true:=decide_eq_true c11
         have c11b1:decide (3 < l0.length)=true:=decide_eq_true (by omega);clear c11
         by_cases c12:4 < (l0.length:Int)
         · rw [if_pos c12] at H
           have c12b0:decide (4 < (l0.length:Int))=true:=decide_eq_true c12
           have c12b1:decide (4 < l0.length)=true:=decide_eq_true (by omega);clear c12
           by_cases c13:5 < (l0.length:Int)
           · rw [if_pos c13] at H
             have c13b0:decide (5 < (l0.length:Int))=true:=decide_eq_true c13
             have c13b1:decide (5 < l0.length)=true:=decide_eq_true (by omega);clear c13
             by_cases c14:6 < (l0.length:Int)
             · rw [if_pos c14] at H
               have c14b0:decide (6 < (l0.length:Int))=true:=decide_eq_true c14
               have c14b1:decide (6 < l0.length)=true:=decide_eq_true (by omega);clear c14
               by_cases c15:7 < (l0.length:Int)
               · rw [if_pos c15] at H
                 have c15b0:decide (7 < (l0.length:Int))=true:=decide_eq_true c15
                 have c15b1:decide (7 < l0.length)=true:=decide_eq_true (by omega);clear c15
                 replace H:=Option.bind_eq_some_iff.mp H
                 obtain ⟨t225,A160,H⟩:=H
                 replace H:(if t225=0 then (if (wrap64 ((wrap64 ((wrap64 (rd l0 6))*256))+(wrap64 (rd l0 7)))) > (wrap64 ((l0.length:Int) - 8)) then (some (wrap64 ((wrap64 ((wrap64 (rd l0 0))*256))+(wrap64 (rd l0 1))),wrap64 ((wrap64 ((wrap64 (rd l0 2))*256))+(wrap64 (rd l0 3))),wrap64 (rd l0 4),wrap64 (rd l0 5),([]:List Int),0,3)) else (if 8≤(wrap64 (8+(wrap64 ((wrap64 ((wrap64 (rd l0 6))*256))+(wrap64 (rd l0 7)))))) then (if (wrap64 (8+(wrap64 ((wrap64 ((wrap64 (rd l0 6))*256))+(wrap64 (rd l0 7))))))≤(l0.length:Int) then ((dioramaref19_Pixels.f k ((l0.take ((wrap64 (8+(wrap64 ((wrap64 ((wrap64 (rd l0 6))*256))+(wrap64 (rd l0 7)))))):Int).toNat).drop 8) (wrap64 (rd l0 4)) (wrap64 (rd l0 5))).bind fun bt230=>(some (wrap64 ((wrap64 ((wrap64 (rd l0 0))*256))+(wrap64 (rd l0 1))),wrap64 ((wrap64 ((wrap64 (rd l0 2))*256))+(wrap64 (rd l0 3))),wrap64 (rd l0 4),wrap64 (rd l0 5),bt230.1,wrap64 (8+(wrap64 ((wrap64 ((wrap64 (rd l0 6))*256))+(wrap64 (rd l0 7))))),bt230.2))) else (none)) else (none))) else (some (wrap64 ((wrap64 ((wrap64 (rd l0 0))*256))+(wrap64 (rd l0 1))),wrap64 ((wrap64 ((wrap64 (rd l0 2))*256))+(wrap64 (rd l0 3))),wrap64 (rd l0 4),wrap64 (rd l0 5),([]:List Int),0,t225)))=some (r1,r2,r3,r4,r5,r6,r7):=H
                 have A16:=Aside0.mk A160;clear A160
                 by_cases c17:t225=0
                 · rw [if_pos c17] at H
                   have c17b0:(t225 == 0)=true:=beq_iff_eq.mpr c17
                   have c17b1:(t225 != 0)=false:=bne_eq_false_iff_eq.mpr c17;clear c17
                   by_cases c18:(wrap64 ((wrap64 ((wrap64 (rd l0 6))*256))+(wrap64 (rd l0 7)))) > (wrap64 ((l0.length:Int) - 8))
                   · rw [if_pos c18] at H
                     have c18b0:decide ((wrap64 ((l0.length:Int) - 8)) < (wrap64 ((wrap64 ((wrap64 (rd l0 6))*256))+(wrap64 (rd l0 7)))))=true:=decide_eq_true c18;clear c18
                     simp only [Option.some.injEq,Prod.mk.injEq] at H
                     obtain ⟨rfl,rfl,rfl,rfl,rfl,rfl,rfl⟩:=H
                     go_enter Try.func62,Try.ntmps62
                     try go_wp2_with (first|((with_reducible refine gate_dst (N:=2) rfl ?_);refine box_event ?hg (N:=2) ?hd (cs:=#[.int .i64 0,.int .i64 0,.int .i64 0,.int .i64 0,.slice none 0 0]) (t:=91) ?hr ?_;(case hd=>rfl);(case hg=>rfl);(case hr=>first|(go_simp;done)|(go_simp;rfl));intro gb215 hg w19 hbox hb;have n0_:=Aside0.mk (below_step (belV HB.out) hb);have n1_:=Aside0.mk (hbox);have n2_:=Aside0.mk ((by rw [hg];exact (below_size (belV HB.out)):w.heap.size≤gb215));have n3_:=Aside0.mk ((by rw [hg];exact (below_size (belV HB.out)):w.heap.size≤gb215));clear HB;have HB:=n0_;have BK215:=n1_;have GW215:=n2_;have GE215:=n3_;clear n0_ n1_ n2_ n3_;clear hb hbox hg)|((with_reducible refine gate_dst (N:=5) rfl ?_);refine box_event ?hg (N:=5) ?hd (cs:=#[.int .i64 0,.int .i64 0,.int .i64 0,.int .i64 0,.slice none 0 0]) (t:=91) ?hr ?_;(case hd=>rfl);(case hg=>rfl);(case hr=>first|(go_simp;done)|(go_simp;rfl));intro gb216 hg w20 hbox hb;have n0_:=Aside0.mk (blk_below (g:=gb215) (blkV BK215.out) hb);have n1_:=Aside0.mk (below_step (belV1 HB.out GE215.out) hb);have n2_:=Aside0.mk (hbox);have n3_:=Aside0.mk ((by rw [hg];exact (below_size (belV1 HB.out GE215.out)):w.heap.size≤gb216));have n4_:=Aside0.mk ((by rw [hg];exact (below_size (belV1 HB.out GE215.out)):w.heap.size≤gb216));have n5_:=Aside0.mk ((by rw [hg];exact Nat.ne_of_lt (blk_lt (g:=gb215) (blkV BK215.out)):gb215≠gb216));have n6_:=Aside0.mk ((by rw [hg];exact Nat.ne_of_gt (blk_lt (g:=gb215) (blkV BK215.out)):gb216≠gb215));clear BK215;clear HB;have BK215:=n0_;have HB:=n1_;have BK216:=n2_;have GW216:=n3_;have GE216:=n4_;have NB215_216:=n5_;have NB216_215:=n6_;clear n0_ n1_ n2_ n3_ n4_ n5_ n6_;clear hb hbox hg))
                     have n0_:=Aside0.mk (blk_drew BK215.out)
                     have n1_:=Aside0.mk (blk_drew BK216.out)
                     have n2_:=Aside0.mk (below_drew1 HB.out);clear BK215;clear BK216;clear HB;have BK215:=n0_;have BK216:=n1_;have HB:=n2_;clear n0_ n1_ n2_
                     have p217:0≤(0:Int):=(by omega)
                     have q217:0 < (l0.length:Int):=of_decide_eq_true asV
                     obtain ⟨ad217,e217,hx217_0⟩:=Kd.at_int HR0.out 0 p217 q217
                     have hw217_0:=hx217_0
                     (try rw [show ((0:Int)).toNat=0 from rfl] at hw217_0)
                     (try rw [show 0*1=0 from rfl] at hw217_0)
                     (try rw [Addr.add_zero'] at hw217_0)
                     cases e217
                     have qi217:(0 < l0.length)=True:=eq_true (by omega)
                     (try rw [show ((0:Int)).toNat=0 from rfl] at hx217_0)
                     (try rw [Addr.add_zero'] at hx217_0)
                     replace hx217_0:=(HB.out.cell (World.block_lt_of_cell? w _ hx217_0)).trans hx217_0
                     replace p217:=eq_true p217
                     replace q217:=eq_true q217
                     have p218:0≤(1:Int):=(by omega)
                     have q218:1 < (l0.length:Int):=of_decide_eq_true asV
                     obtain ⟨ad218,e218,hx218_0⟩:=Kd.at_int HR0.out 1 p218 q218
                     have hw218_0:=hx218_0
                     (try rw [show ((1:Int)).toNat=1 from rfl] at hw218_0)
                     (try rw [show 1*1=1 from rfl] at hw218_0)
                     (try simp only [Nat.reduceMul,Nat.reduceEqDiff,Go.Addr.add,↓reduceIte] at hw218_0)
                     obtain rfl:ad217=ad218:=(by injection e218)
                     (try simp only [show (1:Int).toNat=1 from rfl,Nat.reduceMul,Nat.reduceEqDiff,Go.Addr.add,↓reduceIte] at hx218_0)
                     have qi218:(1 < l0.length)=True:=eq_true (by omega)
                     (try rw [show ((1:Int)).toNat=1 from rfl] at hx218_0)
                     replace hx218_0:=(HB.out.cell (World.block_lt_of_cell? w _ hx218_0)).trans hx218_0
                     replace p218:=eq_true p218
                     replace q218:=eq_true q218
                     refine start_ (n:=12) (S:=fun w'=>w'.cell? ad217=some (.int .u8 (rd l0 0))∧w'.cell? ⟨ad217.block,ad217.off+1,none⟩=some (.int .u8 (rd l0 1))) (ds:=[]) ((bm false [12]).toArray) (by kernel_rfl) rfl rfl ⟨((HB.out.cell (World.block_lt_of_cell? w _ hw217_0)).trans hw217_0),((HB.out.cell (World.block_lt_of_cell? w _ hw218_0)).trans hw218_0)⟩ (fun hHeld=>?_);refine with_tabW dioramaref19_patch.tab4 dioramaref19_patch.bits4 (fun HT_ HW_=>?_)
                     generalize w20.drew=w21 at BK215 BK216 HB hx217_0 hx218_0 hHeld ⊢
                     refine pure_ (i:=0) (N:=some 13) (v:=?_) (a':=?_) ((bm true [1,11]).toArray) rfl rfl (any_of HT_.out (by kernel_rfl)) (fun _ _ _ h=>h) (Or.inl ⟨by rfl,?_⟩) ?_ ?_;rotate_left
                     · intro w';go_simp;with_reducible rfl
                     rotate_left
                     · simp only [Act.put,List.setIfInBounds_toArray,List.set_cons_zero,List.set_cons_succ,i64_w,i32_w];rfl
                     refine pure_ (i:=1) (N:=some 14) (v:=?_) (a':=?_) ((bm true [2,10]).toArray) rfl rfl (any_of HT_.out (by kernel_rfl)) (fun _ _ _ h=>h) (Or.inl ⟨by rfl,?_⟩) ?_ ?_;rotate_left
                     · intro w';go_simp;with_reducible rfl
                     rotate_left
                     · simp only [Act.put,List.setIfInBounds_toArray,List.set_cons_zero,List.set_cons_succ,i64_w,i32_w];rfl
                     refine pure_ (i:=5) (N:=some 18) (v:=?_) (a':=?_) ((bm true [2,3,1,6]).toArray) rfl rfl (any_of HT_.out (by kernel_rfl)) (fun _ _ _ h=>h) (Or.inl ⟨by rfl,?_⟩) ?_ ?_;rotate_left
                     · intro w';go_simp;with_reducible rfl
                     rotate_left
                     · simp only [Act.put,List.setIfInBounds_toArray,List.set_cons_zero,List.set_cons_succ,i64_w,i32_w];rfl
                     refine pure_ (i:=6) (N:=some 19) (v:=?_) (a':=?_) ((bm true [2,3,2,5]).toArray) rfl rfl (any_of HT_.out (by kernel_rfl)) (fun _ _ _ h=>h) (Or.inl ⟨by rfl,?_⟩) ?_ ?_;rotate_left
                     · intro w';go_simp;with_reducible rfl
                     rotate_left
                     · simp only [Act.put,List.setIfInBounds_toArray,List.set_cons_zero,List.set_cons_succ,i64_w,i32_w];rfl
                     refine take_ (i:=2) (N:=some 15) (v:=?_) (a':=?_) ((bm true [3,2,2,5]).toArray) rfl rfl (take_ofW HT_.out HW_.out (by kernel_rfl)) (fun _ _ _ h=>h) (Or.inl ⟨by rfl,?_⟩) hHeld ?_ ?_;rotate_left
                     · rintro w' ⟨s0,s1⟩
                       go_simp;with_reducible rfl
                     rotate_left
                     · simp only [Act.put,List.setIfInBounds_toArray,List.set_cons_zero,List.set_cons_succ,i64_w,i32_w];rfl
                     refine pure_ (i:=3) (N:=some 16) (v:=?_) (a':=?_) ((bm true [4,1,2,5]).toArray) rfl rfl (any_of HT_.out (by kernel_rfl)) (fun _ _ _ h=>h) (Or.inl ⟨by rfl,?_⟩) ?_ ?_;rotate_left
                     · intro w';go_simp;with_reducible rfl
                     rotate_left
                     · simp only [Act.put,List.setIfInBounds_toArray,List.set_cons_zero,List.set_cons_succ,i64_w,i32_w];rfl
                     refine pure_ (i:=4) (N:=some 17) (v:=?_) (a':=?_) ((bm true [7,5]).toArray) rfl rfl (any_of HT_.out (by kernel_rfl)) (fun _ _ _ h=>h) (Or.inl ⟨by rfl,?_⟩) ?_ ?_;rotate_left
                     · intro w';go_simp;with_reducible rfl
                     rotate_left
                     · simp only [Act.put,List.setIfInBounds_toArray,List.set_cons_zero,List.set_cons_succ,i64_w,i32_w];rfl
                     refine take_ (i:=7) (N:=some 20) (v:=?_) (a':=?_) ((bm true [8,4]).toArray) rfl rfl (take_ofW HT_.out HW_.out (by kernel_rfl)) (fun _ _ _ h=>h) (Or.inl ⟨by rfl,?_⟩) hHeld ?_ ?_;rotate_left
                     · rintro w' ⟨s0,s1⟩
                       go_simp;with_reducible rfl
                     rotate_left
                     · simp only [Act.put,List.setIfInBounds_toArray,List.set_cons_zero,List.set_cons_succ,i64_w,i32_w];rfl
                     refine pure_ (i:=8) (N:=some 21) (v:=?_) (a':=?_) ((bm true [9,3]).toArray) rfl rfl (any_of HT_.out (by kernel_rfl)) (fun _ _ _ h=>h) (Or.inl ⟨by rfl,?_⟩) ?_ ?_;rotate_left
                     · intro w';go_simp;with_reducible rfl
                     rotate_left
                     · simp only [Act.put,List.setIfInBounds_toArray,List.set_cons_zero,List.set_cons_succ,i64_w,i32_w];rfl
                     refine pure_ (i:=9) (N:=some 22) (v:=?_) (a':=?_) ((bm true [10,2]).toArray) rfl rfl (any_of HT_.out (by kernel_rfl)) (fun _ _ _ h=>h) (Or.inl ⟨by rfl,?_⟩) ?_ ?_;rotate_left
                     · intro w';go_simp;with_reducible rfl
                     rotate_left
                     · simp only [Act.put,List.setIfInBounds_toArray,List.set_cons_zero,List.set_cons_succ,i64_w,i32_w];rfl
                     refine pure_ (i:=10) (N:=some 23) (v:=?_) (a':=?_) ((bm true [11,1]).toArray) rfl rfl (any_of HT_.out (by kernel_rfl)) (fun _ _ _ h=>h) (Or.inl ⟨by rfl,?_⟩) ?_ ?_;rotate_left
                     · intro w';go_simp;with_reducible rfl
                     rotate_left
                     · simp only [Act.put,List.setIfInBounds_toArray,List.set_cons_zero,List.set_cons_succ,i64_w,i32_w];rfl
                     refine one_ (i:=11) (N:=none) ((bm true [12]).toArray) rfl rfl (one_of HT_.out (by kernel_rfl)) (by decide) (fun K hK=>?_)
                     have hs22:w21.cell? ⟨gb216,0,none⟩=some (.int .i64 0):=(blk_cell BK216.out 0).trans rfl
                     have hfs22:=blk_frozen BK216.out 0
                     have hns22_0:=NB215_216.out
                     have hms22_0:=NB216_215.out
                     refine skip_ (w1:=?_) (by rfl) rfl ?_ ?_;rotate_left
                     · go_simp;rfl
                     refine hK.out _ _ ⟨((cell_far (p:=⟨gb216,_,none⟩) (by first|exact Nat.ne_of_lt (Nat.lt_of_lt_of_le (by have:=World.block_lt_of_cell? _ _ hw217_0;first|rwa [add_block] at this|exact this) GW216.out)|(rw [add_block];exact Nat.ne_of_lt (Nat.lt_of_lt_of_le (by have:=World.block_lt_of_cell? _ _ hw217_0;first|rwa [add_block] at this|exact this) GW216.out))|(show (Addr.add _ _).block≠_;rw [add_block];exact Nat.ne_of_lt (Nat.lt_of_lt_of_le (by have:=World.block_lt_of_cell? _ _ hw217_0;first|rwa [add_block] at this|exact this) GW216.out))|(dsimp only;exact Nat.ne_of_lt (Nat.lt_of_lt_of_le (by have:=World.block_lt_of_cell? _ _ hw217_0;first|rwa [add_block] at this|exact this) GW216.out))) _).trans (hHeld.1)),((cell_far (p:=⟨gb216,_,none⟩) (by first|exact Nat.ne_of_lt (Nat.lt_of_lt_of_le (by have:=World.block_lt_of_cell? _ _ hw218_0;first|rwa [add_block] at this|exact this) GW216.out)|(rw [add_block];exact Nat.ne_of_lt (Nat.lt_of_lt_of_le (by have:=World.block_lt_of_cell? _ _ hw218_0;first|rwa [add_block] at this|exact this) GW216.out))|(show (Addr.add _ _).block≠_;rw [add_block];exact Nat.ne_of_lt (Nat.lt_of_lt_of_le (by have:=World.block_lt_of_cell? _ _ hw218_0;first|rwa [add_block] at this|exact this) GW216.out))|(dsimp only;exact Nat.ne_of_lt (Nat.lt_of_lt_of_le (by have:=World.block_lt_of_cell? _ _ hw218_0;first|rwa [add_block] at this|exact this) GW216.out))) _).trans (hHeld.2))⟩ (fun hHeld=>?_)
                     clear hK K
                     refine done_ (done_of HT_.out (by kernel_rfl)) ?_
                     try go_wp2_with fail
                     have n0_:Aside0 ((w21.setCell ⟨gb216,0,none⟩ (.int .i64 (wrap64 ((wrap64 ((wrap64 (rd l0 0))*256))+(wrap64 (rd l0 1)))))).heap[gb215]?=some (.cells #[.int .i64 0,.int .i64 0,.int .i64 0,.int .i64 0,.slice none 0 0] 91 (0,0))):=⟨blkW BK215.out NB215_216.out⟩
                     have n1_:Aside0 ((w21.setCell ⟨gb216,0,none⟩ (.int .i64 (wrap64 ((wrap64 ((wrap64 (rd l0 0))*256))+(wrap64 (rd l0 1)))))).heap[gb216]?=some (.cells #[.int .i64 (wrap64 ((wrap64 ((wrap64 (rd l0 0))*256))+(wrap64 (rd l0 1)))),.int .i64 0,.int .i64 0,.int .i64 0,.slice none 0 0] 91 (0,0))):=⟨by (with_reducible repeat (first|refine blk_drewN ?_ _|refine blk_drew ?_|refine blk_alloc ?_ _));refine blk_put (cs:=#[.int .i64 0,.int .i64 0,.int .i64 0,.int .i64 0,.slice none 0 0]) ?_ 0 _ rfl;(with_reducible repeat (first|refine blk_drewN ?_ _|refine blk_drew ?_|refine blk_alloc ?_ _));exact BK216.out⟩
                     have n2_:Aside0 (Below w.heap.size w (w21.setCell ⟨gb216,0,none⟩ (.int .i64 (wrap64 ((wrap64 ((wrap64 (rd l0 0))*256))+(wrap64 (rd l0 1))))))):=⟨belV2 HB.out GE215.out GE216.out⟩
                     (try clear BK215)
                     (try clear BK216)
                     (try clear HB)
                     generalize (w21.setCell ⟨gb216,0,none⟩ (.int .i64 (wrap64 ((wrap64 ((wrap64 (rd l0 0))*256))+(wrap64 (rd l0 1))))))=w23 at n0_ n1_ n2_ ⊢
                     have BK215:=n0_;have BK216:=n1_;have HB:=n2_;clear n0_ n1_ n2_
                     have n0_:=Aside0.mk (blk_drew BK215.out)
                     have n1_:=Aside0.mk (blk_drew BK216.out)
                     have n2_:=Aside0.mk (below_drew1 HB.out);clear BK215;clear BK216;clear HB;have BK215:=n0_;have BK216:=n1_;have HB:=n2_;clear n0_ n1_ n2_
                     have p219:0≤(2:Int):=(by omega)
                     have q219:2 < (l0.length:Int):=of_decide_eq_true asV
                     obtain ⟨ad219,e219,hx219_0⟩:=Kd.at_int HR0.out 2 p219 q219
                     have hw219_0:=hx219_0
                     (try rw [show ((2:Int)).toNat=2 from rfl] at hw219_0)
                     (try rw [show 2*1=2 from rfl] at hw219_0)
                     (try simp only [Nat.reduceMul,Nat.reduceEqDiff,Go.Addr.add,↓reduceIte] at hw219_0)
                     obtain rfl:ad217=ad219:=(by injection e219)
                     (try simp only [show (2:Int).toNat=2 from rfl,Nat.reduceMul,Nat.reduceEqDiff,Go.Addr.add,↓reduceIte] at hx219_0)
                     have qi219:(2 < l0.length)=True:=eq_true (by omega)
                     (try rw [show ((2:Int)).toNat=2 from rfl] at hx219_0)
                     replace hx219_0:=(HB.out.cell (World.block_lt_of_cell? w _ hx219_0)).trans hx219_0
                     replace p219:=eq_true p219
                     replace q219:=eq_true q219
                     have p220:0≤(3:Int):=(by omega)
                     have q220:3 < (l0.length:Int):=of_decide_eq_true asV
                     obtain ⟨ad220,e220,hx220_0⟩:=Kd.at_int HR0.out 3 p220 q220
                     have hw220_0:=hx220_0
                     (try rw [show ((3:Int)).toNat=3 from rfl] at hw220_0)
                     (try rw [show 3*1=3 from rfl] at hw220_0)
                     (try simp only [Nat.reduceMul,Nat.reduceEqDiff,Go.Addr.add,↓reduceIte] at hw220_0)
                     obtain rfl:ad217=ad220:=(by injection e220)
                     (try simp only [show (3:Int).toNat=3 from rfl,Nat.reduceMul,Nat.reduceEqDiff,Go.Addr.add,↓reduceIte] at hx220_0)
                     have qi220:(3 < l0.length)=True:=eq_true (by omega)
                     (try rw [show ((3:Int)).toNat=3 from rfl] at hx220_0)
                     replace hx220_0:=(HB.out.cell (World.block_lt_of_cell? w _ hx220_0)).trans hx220_0
                     replace p220:=eq_true p220
                     replace q220:=eq_true q220
                     refine start_ (n:=12) (S:=fun w'=>w'.cell? ⟨ad217.block,ad217.off+2,none⟩=some (.int .u8 (rd l0 2))∧w'.cell? ⟨ad217.block,ad217.off+3,none⟩=some (.int .u8 (rd l0 3))) (ds:=[]) ((bm false [12]).toArray) (by kernel_rfl) rfl rfl ⟨((HB.out.cell (World.block_lt_of_cell? w _ hw219_0)).trans hw219_0),((HB.out.cell (World.block_lt_of_cell? w _ hw220_0)).trans hw220_0)⟩ (fun hHeld=>?_);refine with_tabW dioramaref19_patch.tab5 dioramaref19_patch.bits5 (fun HT_ HW_=>?_)
                     generalize w23.drew=w24 at BK215 BK216 HB hx219_0 hx220_0 hHeld ⊢
                     refine pure_ (i:=0) (N:=some 24) (v:=?_) (a':=?_) ((bm true [1,11]).toArray) rfl rfl (any_of HT_.out (by kernel_rfl)) (fun _ _ _ h=>h) (Or.inl ⟨by rfl,?_⟩) ?_ ?_;rotate_left
                     · intro w';go_simp;with_reducible rfl
                     rotate_left
                     · simp only [Act.put,List.setIfInBounds_toArray,List.set_cons_zero,List.set_cons_succ,i64_w,i32_w];rfl
                     refine pure_ (i:=1) (N:=some 25) (v:=?_) (a':=?_) ((bm true [2,10]).toArray) rfl rfl (any_of HT_.out (by kernel_rfl)) (fun _ _ _ h=>h) (Or.inl ⟨by rfl,?_⟩) ?_ ?_;rotate_left
                     · intro w';go_simp;with_reducible rfl
                     rotate_left
                     · simp only [Act.put,List.setIfInBounds_toArray,List.set_cons_zero,List.set_cons_succ,i64_w,i32_w];rfl
                     refine pure_ (i:=5) (N:=some 29) (v:=?_) (a':=?_) ((bm true [2,3,1,6]).toArray) rfl rfl (any_of HT_.out (by kernel_rfl)) (fun _ _ _ h=>h) (Or.inl ⟨by rfl,?_⟩) ?_ ?_;rotate_left
                     · intro w';go_simp;with_reducible rfl
                     rotate_left
                     · simp only [Act.put,List.setIfInBounds_toArray,List.set_cons_zero,List.set_cons_succ,i64_w,i32_w];rfl
                     refine pure_ (i:=6) (N:=some 30) (v:=?_) (a':=?_) ((bm true [2,3,2,5]).toArray) rfl rfl (any_of HT_.out (by kernel_rfl)) (fun _ _ _ h=>h) (Or.inl ⟨by rfl,?_⟩) ?_ ?_;rotate_left
                     · intro w';go_simp;with_reducible rfl
                     rotate_left
                     · simp only [Act.put,List.setIfInBounds_toArray,List.set_cons_zero,List.set_cons_succ,i64_w,i32_w];rfl
                     refine take_ (i:=2) (N:=some 26) (v:=?_) (a':=?_) ((bm true [3,2,2,5]).toArray) rfl rfl (take_ofW HT_.out HW_.out (by kernel_rfl)) (fun _ _ _ h=>h) (Or.inl ⟨by rfl,?_⟩) hHeld ?_ ?_;rotate_left
                     · rintro w' ⟨s0,s1⟩
                       go_simp;with_reducible rfl
                     rotate_left
                     · simp only [Act.put,List.setIfInBounds_toArray,List.set_cons_zero,List.set_cons_succ,i64_w,i32_w];rfl
                     refine pure_ (i:=3) (N:=some 27) (v:=?_) (a':=?_) ((bm true [4,1,2,5]).toArray) rfl rfl (any_of HT_.out (by kernel_rfl)) (fun _ _ _ h=>h) (Or.inl ⟨by rfl,?_⟩) ?_ ?_;rotate_left
                     · intro w';go_simp;with_reducible rfl
                     rotate_left
                     · simp only [Act.put,List.setIfInBounds_toArray,List.set_cons_zero,List.set_cons_succ,i64_w,i32_w];rfl
                     refine pure_ (i:=4) (N:=some 28) (v:=?_) (a':=?_) ((bm true [7,5]).toArray) rfl rfl (any_of HT_.out (by kernel_rfl)) (fun _ _ _ h=>h) (Or.inl ⟨by rfl,?_⟩) ?_ ?_;rotate_left
                     · intro w';go_simp;with_reducible rfl
                     rotate_left
                     · simp only [Act.put,List.setIfInBounds_toArray,List.set_cons_zero,List.set_cons_succ,i64_w,i32_w];rfl
                     refine take_ (i:=7) (N:=some 31) (v:=?_) (a':=?_) ((bm true [8,4]).toArray) rfl rfl (take_ofW HT_.out HW_.out (by kernel_rfl)) (fun _ _ _ h=>h) (Or.inl ⟨by rfl,?_⟩) hHeld ?_ ?_;rotate_left
                     · rintro w' ⟨s0,s1⟩
                       go_simp;with_reducible rfl
                     rotate_left
                     · simp only [Act.put,List.setIfInBounds_toArray,List.set_cons_zero,List.set_cons_succ,i64_w,i32_w];rfl
                     refine pure_ (i:=8) (N:=some 32) (v:=?_) (a':=?_) ((bm true [9,3]).toArray) rfl rfl (any_of HT_.out (by kernel_rfl)) (fun _ _ _ h=>h) (Or.inl ⟨by rfl,?_⟩) ?_ ?_;rotate_left
                     · intro w';go_simp;with_reducible rfl
                     rotate_left
                     · simp only [Act.put,List.setIfInBounds_toArray,List.set_cons_zero,List.set_cons_succ,i64_w,i32_w];rfl
                     refine pure_ (i:=9) (N:=some 33) (v:=?_) (a':=?_) ((bm true [10,2]).toArray) rfl rfl (any_of HT_.out (by kernel_rfl)) (fun _ _ _ h=>h) (Or.inl ⟨by rfl,?_⟩) ?_ ?_;rotate_left
                     · intro w';go_simp;with_reducible rfl
                     rotate_left
                     · simp only [Act.put,List.setIfInBounds_toArray,List.set_cons_zero,List.set_cons_succ,i64_w,i32_w];rfl
                     refine pure_ (i:=10) (N:=some 34) (v:=?_) (a':=?_) ((bm true [11,1]).toArray) rfl rfl (any_of HT_.out (by kernel_rfl)) (fun _ _ _ h=>h) (Or.inl ⟨by rfl,?_⟩) ?_ ?_;rotate_left
                     · intro w';go_simp;with_reducible rfl
                     rotate_left
                     · simp only [Act.put,List.setIfInBounds_toArray,List.set_cons_zero,List.set_cons_succ,i64_w,i32_w];rfl
                     refine one_ (i:=11) (N:=none) ((bm true [12]).toArray) rfl rfl (one_of HT_.out (by kernel_rfl)) (by decide) (fun K hK=>?_)
                     have hs25:w24.cell? ⟨gb216,1,none⟩=some (.int .i64 0):=(blk_cell BK216.out 1).trans rfl
                     have hfs25:=blk_frozen BK216.out 1
                     have hns25_0:=NB215_216.out
                     have hms25_0:=NB216_215.out
                     refine skip_ (w1:=?_) (by rfl) rfl ?_ ?_;rotate_left
                     · go_simp;rfl
                     refine hK.out _ _ ⟨((cell_far (p:=⟨gb216,_,none⟩) (by first|exact Nat.ne_of_lt (Nat.lt_of_lt_of_le (by have:=World.block_lt_of_cell? _ _ hw219_0;first|rwa [add_block] at this|exact this) GW216.out)|(rw [add_block];exact Nat.ne_of_lt (Nat.lt_of_lt_of_le (by have:=World.block_lt_of_cell? _ _ hw219_0;first|rwa [add_block] at this|exact this) GW216.out))|(show (Addr.add _ _).block≠_;rw [add_block];exact Nat.ne_of_lt (Nat.lt_of_lt_of_le (by have:=World.block_lt_of_cell? _ _ hw219_0;first|rwa [add_block] at this|exact this) GW216.out))|(dsimp only;exact Nat.ne_of_lt (Nat.lt_of_lt_of_le (by have:=World.block_lt_of_cell? _ _ hw219_0;first|rwa [add_block] at this|exact this) GW216.out))) _).trans (hHeld.1)),((cell_far (p:=⟨gb216,_,none⟩) (by first|exact Nat.ne_of_lt (Nat.lt_of_lt_of_le (by have:=World.block_lt_of_cell? _ _ hw220_0;first|rwa [add_block] at this|exact this) GW216.out)|(rw [add_block];exact Nat.ne_of_lt (Nat.lt_of_lt_of_le (by have:=World.block_lt_of_cell? _ _ hw220_0;first|rwa [add_block] at this|exact this) GW216.out))|(show (Addr.add _ _).block≠_;rw [add_block];exact Nat.ne_of_lt (Nat.lt_of_lt_of_le (by have:=World.block_lt_of_cell? _ _ hw220_0;first|rwa [add_block] at this|exact this) GW216.out))|(dsimp only;exact Nat.ne_of_lt (Nat.lt_of_lt_of_le (by have:=World.block_lt_of_cell? _ _ hw220_0;first|rwa [add_block] at this|exact this) GW216.out))) _).trans (hHeld.2))⟩ (fun hHeld=>?_)
                     clear hK K
                     refine done_ (done_of HT_.out (by kernel_rfl)) ?_
                     try go_wp2_with fail
                     have n0_:Aside0 ((w24.setCell ⟨gb216,1,none⟩ (.int .i64 (wrap64 ((wrap64 ((wrap64 (rd l0 2))*256))+(wrap64 (rd l0 3)))))).heap[gb215]?=some (.cells #[.int .i64 0,.int .i64 0,.int .i64 0,.int .i64 0,.slice none 0 0] 91 (0,0))):=⟨blkW BK215.out NB215_216.out⟩
                     have n1_:Aside0 ((w24.setCell ⟨gb216,1,none⟩ (.int .i64 (wrap64 ((wrap64 ((wrap64 (rd l0 2))*256))+(wrap64 (rd l0 3)))))).heap[gb216]?=some (.cells #[.int .i64 (wrap64 ((wrap64 ((wrap64 (rd l0 0))*256))+(wrap64 (rd l0 1)))),.int .i64 (wrap64 ((wrap64 ((wrap64 (rd l0 2))*256))+(wrap64 (rd l0 3)))),.int .i64 0,.int .i64 0,.slice none 0 0] 91 (0,0))):=⟨by (with_reducible repeat (first|refine blk_drewN ?_ _|refine blk_drew ?_|refine blk_alloc ?_ _));refine blk_put (cs:=#[.int .i64 (wrap64 ((wrap64 ((wrap64 (rd l0 0))*256))+(wrap64 (rd l0 1)))),.int .i64 0,.int .i64 0,.int .i64 0,.slice none 0 0]) ?_ 1 _ rfl;(with_reducible repeat (first|refine blk_drewN ?_ _|refine blk_drew ?_|refine blk_alloc ?_ _));exact BK216.out⟩
                     have n2_:Aside0 (Below w.heap.size w (w24.setCell ⟨gb216,1,none⟩ (.int .i64 (wrap64 ((wrap64 ((wrap64 (rd l0 2))*256))+(wrap64 (rd l0 3))))))):=⟨belV2 HB.out GE215.out GE216.out⟩
                     (try clear BK215)
                     (try clear BK216)
                     (try clear HB)
                     generalize (w24.setCell ⟨gb216,1,none⟩ (.int .i64 (wrap64 ((wrap64 ((wrap64 (rd l0 2))*256))+(wrap64 (rd l0 3))))))=w26 at n0_ n1_ n2_ ⊢
                     have BK215:=n0_;have BK216:=n1_;have HB:=n2_;clear n0_ n1_ n2_
                     have n0_:=Aside0.mk (blk_drew BK215.out)
                     have n1_:=Aside0.mk (blk_drew BK216.out)
                     have n2_:=Aside0.mk (below_drew1 HB.out);clear BK215;clear BK216;clear HB;have BK215:=n0_;have BK216:=n1_;have HB:=n2_;clear n0_ n1_ n2_
                     have p221:0≤(4:Int):=(by omega)
                     have q221:4 < (l0.length:Int):=of_decide_eq_true asV
                     obtain ⟨ad221,e221,hx221_0⟩:=Kd.at_int HR0.out 4 p221 q221
                     have hw221_0:=hx221_0
                     (try rw [show ((4:Int)).toNat=4 from rfl] at hw221_0)
                     (try rw [show 4*1=4 from rfl] at hw221_0)
                     (try simp only [Nat.reduceMul,Nat.reduceEqDiff,Go.Addr.add,↓reduceIte] at hw221_0)
                     obtain rfl:ad217=ad221:=(by injection e221)
                     (try simp only [show (4:Int).toNat=4 from rfl,Nat.reduceMul,Nat.reduceEqDiff,Go.Addr.add,↓reduceIte] at hx221_0)
                     have qi221:(4 < l0.length)=True:=eq_true (by omega)
                     (try rw [show ((4:Int)).toNat=4 from rfl] at hx221_0)
                     replace hx221_0:=(HB.out.cell (World.block_lt_of_cell? w _ hx221_0)).trans hx221_0
                     replace p221:=eq_true p221
                     replace q221:=eq_true q221
                     have p222:0≤(5:Int):=(by omega)
                     have q222:5 < (l0.length:Int):=of_decide_eq_true asV
                     obtain ⟨ad222,e222,hx222_0⟩:=Kd.at_int HR0.out 5 p222 q222
                     have hw222_0:=hx222_0
                     (try rw [show ((5:Int)).toNat=5 from rfl] at hw222_0)
                     (try rw [show 5*1=5 from rfl] at hw222_0)
                     (try simp only [Nat.reduceMul,Nat.reduceEqDiff,Go.Addr.add,↓reduceIte] at hw222_0)
                     obtain rfl:ad217=ad222:=(by injection e222)
                     (try simp only [show (5:Int).toNat=5 from rfl,Nat.reduceMul,Nat.reduceEqDiff,Go.Addr.add,↓reduceIte] at hx222_0)
                     have qi222:(5 < l0.length)=True:=eq_true (by omega)
                     (try rw [show ((5:Int)).toNat=5 from rfl] at hx222_0)
                     replace hx222_0:=(HB.out.cell (World.block_lt_of_cell? w _ hx222_0)).trans hx222_0
                     replace p222:=eq_true p222
                     replace q222:=eq_true q222
                     refine start_ (n:=12) (S:=fun w'=>w'.cell? ⟨ad217.block,ad217.off+4,none⟩=some (.int .u8 (rd l0 4))∧w'.cell? ⟨ad217.block,ad217.off+5,none⟩=some (.int .u8 (rd l0 5))) (ds:=[]) ((bm false [12]).toArray) (by kernel_rfl) rfl rfl ⟨((HB.out.cell (World.block_lt_of_cell? w _ hw221_0)).trans hw221_0),((HB.out.cell (World.block_lt_of_cell? w _ hw222_0)).trans hw222_0)⟩ (fun hHeld=>?_);refine with_tabW dioramaref19_patch.tab6 dioramaref19_patch.bits6 (fun HT_ HW_=>?_)
                     generalize w26.drew=w27 at BK215 BK216 HB hx221_0 hx222_0 hHeld ⊢
                     refine pure_ (i:=0) (N:=some 35) (v:=?_) (a':=?_) ((bm true [1,11]).toArray) rfl rfl (any_of HT_.out (by kernel_rfl)) (fun _ _ _ h=>h) (Or.inl ⟨by rfl,?_⟩) ?_ ?_;rotate_left
                     · intro w';go_simp;with_reducible rfl
                     rotate_left
                     · simp only [Act.put,List.setIfInBounds_toArray,List.set_cons_zero,List.set_cons_succ,i64_w,i32_w];rfl
                     refine pure_ (i:=1) (N:=some 36) (v:=?_) (a':=?_) ((bm true [2,10]).toArray) rfl rfl (any_of HT_.out (by kernel_rfl)) (fun _ _ _ h=>h) (Or.inl ⟨by rfl,?_⟩) ?_ ?_;rotate_left
                     · intro w';go_simp;with_reducible rfl
                     rotate_left
                     · simp only [Act.put,List.setIfInBounds_toArray,List.set_cons_zero,List.set_cons_succ,i64_w,i32_w];rfl
                     refine pure_ (i:=4) (N:=some 39) (v:=?_) (a':=?_) ((bm true [2,2,1,7]).toArray) rfl rfl (any_of HT_.out (by kernel_rfl)) (fun _ _ _ h=>h) (Or.inl ⟨by rfl,?_⟩) ?_ ?_;rotate_left
                     · intro w';go_simp;with_reducible rfl
                     rotate_left
                     · simp only [Act.put,List.setIfInBounds_toArray,List.set_cons_zero,List.set_cons_succ,i64_w,i32_w];rfl
                     refine pure_ (i:=5) (N:=some 40) (v:=?_) (a':=?_) ((bm true [2,2,2,6]).toArray) rfl rfl (any_of HT_.out (by kernel_rfl)) (fun _ _ _ h=>h) (Or.inl ⟨by rfl,?_⟩) ?_ ?_;rotate_left
                     · intro w';go_simp;with_reducible rfl
                     rotate_left
                     · simp only [Act.put,List.setIfInBounds_toArray,List.set_cons_zero,List.set_cons_succ,i64_w,i32_w];rfl
                     refine take_ (i:=2) (N:=some 37) (v:=?_) (a':=?_) ((bm true [3,1,2,6]).toArray) rfl rfl (take_ofW HT_.out HW_.out (by kernel_rfl)) (fun _ _ _ h=>h) (Or.inl ⟨by rfl,?_⟩) hHeld ?_ ?_;rotate_left
                     · rintro w' ⟨s0,s1⟩
                       go_simp;with_reducible rfl
                     rotate_left
                     · simp only [Act.put,List.setIfInBounds_toArray,List.set_cons_zero,List.set_cons_succ,i64_w,i32_w];rfl
                     refine pure_ (i:=3) (N:=some 38) (v:=?_) (a':=?_) ((bm true [6,6]).toArray) rfl rfl (any_of HT_.out (by kernel_rfl)) (fun _ _ _ h=>h) (Or.inl ⟨by rfl,?_⟩) ?_ ?_;rotate_left
                     · intro w';go_simp;with_reducible rfl
                     rotate_left
                     · simp only [Act.put,List.setIfInBounds_toArray,List.set_cons_zero,List.set_cons_succ,i64_w,i32_w];rfl
                     refine pure_ (i:=8) (N:=some 43) (v:=?_) (a':=?_) ((bm true [6,2,1,3]).toArray) rfl rfl (any_of HT_.out (by kernel_rfl)) (fun _ _ _ h=>h) (Or.inl ⟨by rfl,?_⟩) ?_ ?_;rotate_left
                     · intro w';go_simp;with_reducible rfl
                     rotate_left
                     · simp only [Act.put,List.setIfInBounds_toArray,List.set_cons_zero,List.set_cons_succ,i64_w,i32_w];rfl
                     refine take_ (i:=6) (N:=some 41) (v:=?_) (a':=?_) ((bm true [7,1,1,3]).toArray) rfl rfl (take_ofW HT_.out HW_.out (by kernel_rfl)) (fun _ _ _ h=>h) (Or.inl ⟨by rfl,?_⟩) hHeld ?_ ?_;rotate_left
                     · rintro w' ⟨s0,s1⟩
                       go_simp;with_reducible rfl
                     rotate_left
                     · simp only [Act.put,List.setIfInBounds_toArray,List.set_cons_zero,List.set_cons_succ,i64_w,i32_w];rfl
                     refine pure_ (i:=7) (N:=some 42) (v:=?_) (a':=?_) ((bm true [9,3]).toArray) rfl rfl (any_of HT_.out (by kernel_rfl)) (fun _ _ _ h=>h) (Or.inl ⟨by rfl,?_⟩) ?_ ?_;rotate_left
                     · intro w';go_simp;with_reducible rfl
                     rotate_left
                     · simp only [Act.put,List.setIfInBounds_toArray,List.set_cons_zero,List.set_cons_succ,i64_w,i32_w];rfl
                     refine one_ (i:=9) (N:=none) ((bm true [10,2]).toArray) rfl rfl (one_of HT_.out (by kernel_rfl)) (by decide) (fun K hK=>?_)
                     have hs28:w27.cell? ⟨gb216,2,none⟩=some (.int .i64 0):=(blk_cell BK216.out 2).trans rfl
                     have hfs28:=blk_frozen BK216.out 2
                     have hns28_0:=NB215_216.out
                     have hms28_0:=NB216_215.out
                     refine skip_ (w1:=?_) (by rfl) rfl ?_ ?_;rotate_left
                     · go_simp;rfl
                     refine hK.out _ _ ⟨((cell_far (p:=⟨gb216,_,none⟩) (by first|exact Nat.ne_of_lt (Nat.lt_of_lt_of_le (by have:=World.block_lt_of_cell? _ _ hw221_0;first|rwa [add_block] at this|exact this) GW216.out)|(rw [add_block];exact Nat.ne_of_lt (Nat.lt_of_lt_of_le (by have:=World.block_lt_of_cell? _ _ hw221_0;first|rwa [add_block] at this|exact this) GW216.out))|(show (Addr.add _ _).block≠_;rw [add_block];exact Nat.ne_of_lt (Nat.lt_of_lt_of_le (by have:=World.block_lt_of_cell? _ _ hw221_0;first|rwa [add_block] at this|exact this) GW216.out))|(dsimp only;exact Nat.ne_of_lt (Nat.lt_of_lt_of_le (by have:=World.block_lt_of_cell? _ _ hw221_0;first|rwa [add_block] at this|exact this) GW216.out))) _).trans (hHeld.1)),((cell_far (p:=⟨gb216,_,none⟩) (by first|exact Nat.ne_of_lt (Nat.lt_of_lt_of_le (by have:=World.block_lt_of_cell? _ _ hw222_0;first|rwa [add_block] at this|exact this) GW216.out)|(rw [add_block];exact Nat.ne_of_lt (Nat.lt_of_lt_of_le (by have:=World.block_lt_of_cell? _ _ hw222_0;first|rwa [add_block] at this|exact this) GW216.out))|(show (Addr.add _ _).block≠_;rw [add_block];exact Nat.ne_of_lt (Nat.lt_of_lt_of_le (by have:=World.block_lt_of_cell? _ _ hw222_0;first|rwa [add_block] at this|exact this) GW216.out))|(dsimp only;exact Nat.ne_of_lt (Nat.lt_of_lt_of_le (by have:=World.block_lt_of_cell? _ _ hw222_0;first|rwa [add_block] at this|exact this) GW216.out))) _).trans (hHeld.2))⟩ (fun hHeld=>?_)
                     clear hK K
                     refine pure_ (i:=10) (N:=some 44) (v:=?_) (a':=?_) ((bm true [11,1]).toArray) rfl rfl (any_of HT_.out (by kernel_rfl)) (fun _ _ _ h=>h) (Or.inl ⟨by rfl,?_⟩) ?_ ?_;rotate_left
                     · intro w';go_simp;with_reducible rfl
                     rotate_left
                     · simp only [Act.put,List.setIfInBounds_toArray,List.set_cons_zero,List.set_cons_succ,i64_w,i32_w];rfl
                     refine one_ (i:=11) (N:=none) ((bm true [12]).toArray) rfl rfl (one_of HT_.out (by kernel_rfl)) (by decide) (fun K hK=>?_)
                     have hs29:w27.cell? ⟨gb216,3,none⟩=some (.int .i64 0):=(blk_cell BK216.out 3).trans rfl
                     have hfs29:=blk_frozen BK216.out 3
                     have hns29_0:=NB215_216.out
                     have hms29_0:=NB216_215.out
                     refine skip_ (w1:=?_) (by rfl) rfl ?_ ?_;rotate_left
                     · go_simp;rfl
                     refine hK.out _ _ ⟨((cell_far (p:=⟨gb216,_,none⟩) (by first|exact Nat.ne_of_lt (Nat.lt_of_lt_of_le (by have:=World.block_lt_of_cell? _ _ hw221_0;first|rwa [add_block] at this|exact this) GW216.out)|(rw [add_block];exact Nat.ne_of_lt (Nat.lt_of_lt_of_le (by have:=World.block_lt_of_cell? _ _ hw221_0;first|rwa [add_block] at this|exact this) GW216.out))|(show (Addr.add _ _).block≠_;rw [add_block];exact Nat.ne_of_lt (Nat.lt_of_lt_of_le (by have:=World.block_lt_of_cell? _ _ hw221_0;first|rwa [add_block] at this|exact this) GW216.out))|(dsimp only;exact Nat.ne_of_lt (Nat.lt_of_lt_of_le (by have:=World.block_lt_of_cell? _ _ hw221_0;first|rwa [add_block] at this|exact this) GW216.out))) _).trans (hHeld.1)),((cell_far (p:=⟨gb216,_,none⟩) (by first|exact Nat.ne_of_lt (Nat.lt_of_lt_of_le (by have:=World.block_lt_of_cell? _ _ hw222_0;first|rwa [add_block] at this|exact this) GW216.out)|(rw [add_block];exact Nat.ne_of_lt (Nat.lt_of_lt_of_le (by have:=World.block_lt_of_cell? _ _ hw222_0;first|rwa [add_block] at this|exact this) GW216.out))|(show (Addr.add _ _).block≠_;rw [add_block];exact Nat.ne_of_lt (Nat.lt_of_lt_of_le (by have:=World.block_lt_of_cell? _ _ hw222_0;first|rwa [add_block] at this|exact this) GW216.out))|(dsimp only;exact Nat.ne_of_lt (Nat.lt_of_lt_of_le (by have:=World.block_lt_of_cell? _ _ hw222_0;first|rwa [add_block] at this|exact this) GW216.out))) _).trans (hHeld.2))⟩ (fun hHeld=>?_)
                     clear hK K
                     refine done_ (done_of HT_.out (by kernel_rfl)) ?_
                     try go_wp2_with fail
                     have n0_:Aside0 (((w27.setCell ⟨gb216,2,none⟩ (.int .i64 (wrap64 (rd l0 4)))).setCell ⟨gb216,3,none⟩ (.int .i64 (wrap64 (rd l0 5)))).heap[gb215]?=some (.cells #[.int .i64 0,.int .i64 0,.int .i64 0,.int .i64 0,.slice none 0 0] 91 (0,0))):=⟨blkW BK215.out NB215_216.out⟩
                     have n1_:Aside0 (((w27.setCell ⟨gb216,2,none⟩ (.int .i64 (wrap64 (rd l0 4)))).setCell ⟨gb216,3,none⟩ (.int .i64 (wrap64 (rd l0 5)))).heap[gb216]?=some (.cells #[.int .i64 (wrap64 ((wrap64 ((wrap64 (rd l0 0))*256))+(wrap64 (rd l0 1)))),.int .i64 (wrap64 ((wrap64 ((wrap64 (rd l0 2))*256))+(wrap64 (rd l0 3)))),.int .i64 (wrap64 (rd l0 4)),.int .i64 (wrap64 (rd l0 5)),.slice none 0 0] 91 (0,0))):=⟨by (with_reducible repeat (first|refine blk_drewN ?_ _|refine blk_drew ?_|refine blk_alloc ?_ _));refine blk_put (cs:=#[.int .i64 (wrap64 ((wrap64 ((wrap64 (rd l0 0))*256))+(wrap64 (rd l0 1)))),.int .i64 (wrap64 ((wrap64 ((wrap64 (rd l0 2))*256))+(wrap64 (rd l0 3)))),.int .i64 (wrap64 (rd l0 4)),.int .i64 0,.slice none 0 0]) ?_ 3 _ rfl;(with_reducible repeat (first|refine blk_drewN ?_ _|refine blk_drew ?_|refine blk_alloc ?_ _));refine blk_put (cs:=#[.int .i64 (wrap64 ((wrap64 ((wrap64 (rd l0 0))*256))+(wrap64 (rd l0 1)))),.int .i64 (wrap64 ((wrap64 ((wrap64 (rd l0 2))*256))+(wrap64 (rd l0 3)))),.int .i64 0,.int .i64 0,.slice none 0 0]) ?_ 2 _ rfl;(with_reducible repeat (first|refine blk_drewN ?_ _|refine blk_drew ?_|refine blk_alloc ?_ _));exact BK216.out⟩
                     have n2_:Aside0 (Below w.heap.size w ((w27.setCell ⟨gb216,2,none⟩ (.int .i64 (wrap64 (rd l0 4)))).setCell ⟨gb216,3,none⟩ (.int .i64 (wrap64 (rd l0 5))))):=⟨belV2 HB.out GE215.out GE216.out⟩
                     (try clear BK215)
                     (try clear BK216)
                     (try clear HB)
                     generalize ((w27.setCell ⟨gb216,2,none⟩ (.int .i64 (wrap64 (rd l0 4)))).setCell ⟨gb216,3,none⟩ (.int .i64 (wrap64 (rd l0 5))))=w30 at n0_ n1_ n2_ ⊢
                     have BK215:=n0_;have BK216:=n1_;have HB:=n2_;clear n0_ n1_ n2_
                     have n0_:=Aside0.mk (blk_drew BK215.out)
                     have n1_:=Aside0.mk (blk_drew BK216.out)
                     have n2_:=Aside0.mk (below_drew1 HB.out);clear BK215;clear BK216;clear HB;have BK215:=n0_;have BK216:=n1_;have HB:=n2_;clear n0_ n1_ n2_
                     have p223:0≤(6:Int):=(by omega)
                     have q223:6 < (l0.length:Int):=of_decide_eq_true asV
                     obtain ⟨ad223,e223,hx223_0⟩:=Kd.at_int HR0.out 6 p223 q223
                     have hw223_0:=hx223_0
                     (try rw [show ((6:Int)).toNat=6 from rfl] at hw223_0)
                     (try rw [show 6*1=6 from rfl] at hw223_0)
                     (try simp only [Nat.reduceMul,Nat.reduceEqDiff,Go.Addr.add,↓reduceIte] at hw223_0)
                     obtain rfl:ad217=ad223:=(by injection e223)
                     (try simp only [show (6:Int).toNat=6 from rfl,Nat.reduceMul,Nat.reduceEqDiff,Go.Addr.add,↓reduceIte] at hx223_0)
                     have qi223:(6 < l0.length)=True:=eq_true (by omega)
                     (try rw [show ((6:Int)).toNat=6 from rfl] at hx223_0)
                     replace hx223_0:=(HB.out.cell (World.block_lt_of_cell? w _ hx223_0)).trans hx223_0
                     replace p223:=eq_true p223
                     replace q223:=eq_true q223
                     have p224:0≤(7:Int):=(by omega)
                     have q224:7 < (l0.length:Int):=of_decide_eq_true asV
                     obtain ⟨ad224,e224,hx224_0⟩:=Kd.at_int HR0.out 7 p224 q224
                     have hw224_0:=hx224_0
                     (try rw [show ((7:Int)).toNat=7 from rfl] at hw224_0)
                     (try rw [show 7*1=7 from rfl] at hw224_0)
                     (try simp only [Nat.reduceMul,Nat.reduceEqDiff,Go.Addr.add,↓reduceIte] at hw224_0)
                     obtain rfl:ad217=ad224:=(by injection e224)
                     (try simp only [show (7:Int).toNat=7 from rfl,Nat.reduceMul,Nat.reduceEqDiff,Go.Addr.add,↓reduceIte] at hx224_0)
                     have qi224:(7 < l0.length)=True:=eq_true (by omega)
                     (try rw [show ((7:Int)).toNat=7 from rfl] at hx224_0)
                     replace hx224_0:=(HB.out.cell (World.block_lt_of_cell? w _ hx224_0)).trans hx224_0
                     replace p224:=eq_true p224
                     replace q224:=eq_true q224
                     refine start_ (n:=11) (S:=fun w'=>w'.cell? ⟨ad217.block,ad217.off+6,none⟩=some (.int .u8 (rd l0 6))∧w'.cell? ⟨ad217.block,ad217.off+7,none⟩=some (.int .u8 (rd l0 7))) (ds:=[]) ((bm false [11]).toArray) (by kernel_rfl) rfl rfl ⟨((HB.out.cell (World.block_lt_of_cell? w _ hw223_0)).trans hw223_0),((HB.out.cell (World.block_lt_of_cell? w _ hw224_0)).trans hw224_0)⟩ (fun hHeld=>?_);refine with_tabW dioramaref19_patch.tab7 dioramaref19_patch.bits7 (fun HT_ HW_=>?_)
                     generalize w30.drew=w31 at BK215 BK216 HB hx223_0 hx224_0 hHeld ⊢
                     refine pure_ (i:=0) (N:=some 45) (v:=?_) (a':=?_) ((bm true [1,10]).toArray) rfl rfl (any_of HT_.out (by kernel_rfl)) (fun _ _ _ h=>h) (Or.inl ⟨by rfl,?_⟩) ?_ ?_;rotate_left
                     · intro w';go_simp;with_reducible rfl
                     rotate_left
                     · simp only [Act.put,List.setIfInBounds_toArray,List.set_cons_zero,List.set_cons_succ,i64_w,i32_w];rfl
                     refine pure_ (i:=1) (N:=some 46) (v:=?_) (a':=?_) ((bm true [2,9]).toArray) rfl rfl (any_of HT_.out (by kernel_rfl)) (fun _ _ _ h=>h) (Or.inl ⟨by rfl,?_⟩) ?_ ?_;rotate_left
                     · intro w';go_simp;with_reducible rfl
                     rotate_left
                     · simp only [Act.put,List.setIfInBounds_toArray,List.set_cons_zero,List.set_cons_succ,i64_w,i32_w];rfl
                     refine pure_ (i:=5) (N:=some 50) (v:=?_) (a':=?_) ((bm true [2,3,1,5]).toArray) rfl rfl (any_of HT_.out (by kernel_rfl)) (fun _ _ _ h=>h) (Or.inl ⟨by rfl,?_⟩) ?_ ?_;rotate_left
                     · intro w';go_simp;with_reducible rfl
                     rotate_left
                     · simp only [Act.put,List.setIfInBounds_toArray,List.set_cons_zero,List.set_cons_succ,i64_w,i32_w];rfl
                     refine pure_ (i:=6) (N:=some 51) (v:=?_) (a':=?_) ((bm true [2,3,2,4]).toArray) rfl rfl (any_of HT_.out (by kernel_rfl)) (fun _ _ _ h=>h) (Or.inl ⟨by rfl,?_⟩) ?_ ?_;rotate_left
                     · intro w';go_simp;with_reducible rfl
                     rotate_left
                     · simp only [Act.put,List.setIfInBounds_toArray,List.set_cons_zero,List.set_cons_succ,i64_w,i32_w];rfl
                     refine take_ (i:=2) (N:=some 47) (v:=?_) (a':=?_) ((bm true [3,2,2,4]).toArray) rfl rfl (take_ofW HT_.out HW_.out (by kernel_rfl)) (fun _ _ _ h=>h) (Or.inl ⟨by rfl,?_⟩) hHeld ?_ ?_;rotate_left
                     · rintro w' ⟨s0,s1⟩
                       go_simp;with_reducible rfl
                     rotate_left
                     · simp only [Act.put,List.setIfInBounds_toArray,List.set_cons_zero,List.set_cons_succ,i64_w,i32_w];rfl
                     refine pure_ (i:=3) (N:=some 48) (v:=?_) (a':=?_) ((bm true [4,1,2,4]).toArray) rfl rfl (any_of HT_.out (by kernel_rfl)) (fun _ _ _ h=>h) (Or.inl ⟨by rfl,?_⟩) ?_ ?_;rotate_left
                     · intro w';go_simp;with_reducible rfl
                     rotate_left
                     · simp only [Act.put,List.setIfInBounds_toArray,List.set_cons_zero,List.set_cons_succ,i64_w,i32_w];rfl
                     refine pure_ (i:=4) (N:=some 49) (v:=?_) (a':=?_) ((bm true [7,4]).toArray) rfl rfl (any_of HT_.out (by kernel_rfl)) (fun _ _ _ h=>h) (Or.inl ⟨by rfl,?_⟩) ?_ ?_;rotate_left
                     · intro w';go_simp;with_reducible rfl
                     rotate_left
                     · simp only [Act.put,List.setIfInBounds_toArray,List.set_cons_zero,List.set_cons_succ,i64_w,i32_w];rfl
                     refine take_ (i:=7) (N:=some 52) (v:=?_) (a':=?_) ((bm true [8,3]).toArray) rfl rfl (take_ofW HT_.out HW_.out (by kernel_rfl)) (fun _ _ _ h=>h) (Or.inl ⟨by rfl,?_⟩) hHeld ?_ ?_;rotate_left
                     · rintro w' ⟨s0,s1⟩
                       go_simp;with_reducible rfl
                     rotate_left
                     · simp only [Act.put,List.setIfInBounds_toArray,List.set_cons_zero,List.set_cons_succ,i64_w,i32_w];rfl
                     refine pure_ (i:=8) (N:=some 53) (v:=?_) (a':=?_) ((bm true [9,2]).toArray) rfl rfl (any_of HT_.out (by kernel_rfl)) (fun _ _ _ h=>h) (Or.inl ⟨by rfl,?_⟩) ?_ ?_;rotate_left
                     · intro w';go_simp;with_reducible rfl
                     rotate_left
                     · simp only [Act.put,List.setIfInBounds_toArray,List.set_cons_zero,List.set_cons_succ,i64_w,i32_w];rfl
                     refine pure_ (i:=9) (N:=some 54) (v:=?_) (a':=?_) ((bm true [10,1]).toArray) rfl rfl (any_of HT_.out (by kernel_rfl)) (fun _ _ _ h=>h) (Or.inl ⟨by rfl,?_⟩) ?_ ?_;rotate_left
                     · intro w';go_simp;with_reducible rfl
                     rotate_left
                     · simp only [Act.put,List.setIfInBounds_toArray,List.set_cons_zero,List.set_cons_succ,i64_w,i32_w];rfl
                     refine pure_ (i:=10) (N:=some 6) (v:=?_) (a':=?_) ((bm true [11]).toArray) rfl rfl (any_of HT_.out (by kernel_rfl)) (fun _ _ _ h=>h) (Or.inl ⟨by rfl,?_⟩) ?_ ?_;rotate_left
                     · intro w';go_simp;with_reducible rfl
                     rotate_left
                     · simp only [Act.put,List.setIfInBounds_toArray,List.set_cons_zero,List.set_cons_succ,i64_w,i32_w];rfl
                     refine done_ (done_of HT_.out (by kernel_rfl)) ?_
                     have hnb32:=NB216_215.out
                     have hnc32:=NB215_216.out
                     obtain ⟨hcz33_0,hcz33_1,hcz33_2,hcz33_3,hcz33_4,hfz33_0,hfz33_1,hfz33_2,hfz33_3,hfz33_4⟩:=bcells5 BK216.out
                     try go_wp2_with (first|((with_reducible refine gate_callee (f:=73) rfl ?_);refine goesL_ (some 56) rfl rfl Try.func73 (by kernel_rfl) rfl #[.agg #[.int .i64 (wrap64 ((wrap64 ((wrap64 (rd l0 0))*256))+(wrap64 (rd l0 1)))),.int .i64 (wrap64 ((wrap64 ((wrap64 (rd l0 2))*256))+(wrap64 (rd l0 3)))),.int .i64 (wrap64 (rd l0 4)),.int .i64 (wrap64 (rd l0 5)),.slice none 0 0]] rfl (by (try simp only [List.map_toArray,List.map_cons,List.map_nil]);first|done|rfl|(simp only [List.length_drop,List.length_take];rfl)) ?_;(refine (dioramaref19_place.calls (wrap64 ((wrap64 ((wrap64 (rd l0 0))*256))+(wrap64 (rd l0 1)))) (wrap64 ((wrap64 ((wrap64 (rd l0 2))*256))+(wrap64 (rd l0 3)))) (wrap64 (rd l0 4)) (wrap64 (rd l0 5)) _ _ ([]:List Int) t225 _ ?side1 ?side2 A16.out).mono ?_);(case side1=>exact Kd.C_nil _ _);(case side2=>exact Nat.le_refl _);rintro e w34 ⟨rfl,hb⟩;refine ⟨_,rfl,?_⟩;have n0_:=Aside0.mk (blk_below (g:=gb215) (blkV BK215.out) hb);have n1_:=Aside0.mk (blk_below (g:=gb216) (blkV BK216.out) hb);have n2_:=Aside0.mk (below_step (belV2 HB.out GE215.out GE216.out) hb);clear BK215;clear BK216;clear HB;have BK215:=n0_;have BK216:=n1_;have HB:=n2_;clear n0_ n1_ n2_;(try clear hb);(try clear hb2);(try clear hk);(try clear hi);obtain ⟨hcz35_0,hcz35_1,hcz35_2,hcz35_3,hcz35_4,hfz35_0,hfz35_1,hfz35_2,hfz35_3,hfz35_4⟩:=bcells5 BK216.out;obtain ⟨hcz36_0,hcz36_1,hcz36_2,hcz36_3,hcz36_4,hfz36_0,hfz36_1,hfz36_2,hfz36_3,hfz36_4⟩:=bcells5 BK215.out))
                     refine bodyPost_ret (results_ctt rfl _ _ gb215 91 #[.int .i64 (wrap64 ((wrap64 ((wrap64 (rd l0 0))*256))+(wrap64 (rd l0 1)))),.int .i64 (wrap64 ((wrap64 ((wrap64 (rd l0 2))*256))+(wrap64 (rd l0 3)))),.int .i64 (wrap64 (rd l0 4)),.int .i64 (wrap64 (rd l0 5)),.slice none 0 0] (0,0) _ rfl (by (with_reducible repeat (first|refine blk_drewN ?_ _|refine blk_drew ?_|refine blk_alloc ?_ _));refine blk_put (cs:=#[.int .i64 (wrap64 ((wrap64 ((wrap64 (rd l0 0))*256))+(wrap64 (rd l0 1)))),.int .i64 (wrap64 ((wrap64 ((wrap64 (rd l0 2))*256))+(wrap64 (rd l0 3)))),.int .i64 (wrap64 (rd l0 4)),.int .i64 (wrap64 (rd l0 5)),.slice none 0 0]) ?_ 4 _ rfl;(with_reducible repeat (first|refine blk_drewN ?_ _|refine blk_drew ?_|refine blk_alloc ?_ _));refine blk_put (cs:=#[.int .i64 (wrap64 ((wrap64 ((wrap64 (rd l0 0))*256))+(wrap64 (rd l0 1)))),.int .i64 (wrap64 ((wrap64 ((wrap64 (rd l0 2))*256))+(wrap64 (rd l0 3)))),.int .i64 (wrap64 (rd l0 4)),.int .i64 0,.slice none 0 0]) ?_ 3 _ rfl;(with_reducible repeat (first|refine blk_drewN ?_ _|refine blk_drew ?_|refine blk_alloc ?_ _));refine blk_put (cs:=#[.int .i64 (wrap64 ((wrap64 ((wrap64 (rd l0 0))*256))+(wrap64 (rd l0 1)))),.int .i64 (wrap64 ((wrap64 ((wrap64 (rd l0 2))*256))+(wrap64 (rd l0 3)))),.int .i64 0,.int .i64 0,.slice none 0 0]) ?_ 2 _ rfl;(with_reducible repeat (first|refine blk_drewN ?_ _|refine blk_drew ?_|refine blk_alloc ?_ _));refine blk_put (cs:=#[.int .i64 (wrap64 ((wrap64 ((wrap64 (rd l0 0))*256))+(wrap64 (rd l0 1)))),.int .i64 0,.int .i64 0,.int .i64 0,.slice none 0 0]) ?_ 1 _ rfl;(with_reducible repeat (first|refine blk_drewN ?_ _|refine blk_drew ?_|refine blk_alloc ?_ _));refine blk_put (cs:=#[.int .i64 0,.int .i64 0,.int .i64 0,.int .i64 0,.slice none 0 0]) ?_ 0 _ rfl;(with_reducible repeat (first|refine blk_drewN ?_ _|refine blk_drew ?_|refine blk_alloc ?_ _));exact BK215.out) Try.underlying91 rfl (by kernel_rfl)) rfl ?_
                     exact ⟨_,by first|rfl|(simp [errW_none,errW_some] <;> rfl)|(simp [*,errW_none,errW_some] <;> rfl),by first|exact Kd.R_nil _ _ _ _ _|exact Kd.N_nil _ _ _ _ _|exact Kd.V_nil _ _ _ _ _|exact Kd.Q_nil _ _ _ _ _|exact Kd.S_nil _ _ _ _ _,by repeat (first|(with_reducible first|exact HB.out|apply below_alloc|apply pw_below_drewN|apply below_drew1|refine below_set ?_ GE215.out|refine below_set ?_ GE216.out)|exact HB.out)⟩
                   rw [if_neg c18] at H
                   have c18b0:decide ((wrap64 ((l0.length:Int) - 8)) < (wrap64 ((wrap64 ((wrap64 (rd l0 6))*256))+(wrap64 (rd l0 7)))))=false:=decide_eq_false c18;clear c18
                   by_cases c37:8≤(wrap64 (8+(wrap64 ((wrap64 ((wrap64 (rd l0 6))*256))+(wrap64 (rd l0 7))))))
                   · rw [if_pos c37] at H
                     have c37b0:=eq_true c37
                     have c37b1:decide (8≤(wrap64 (8+(wrap64 ((wrap64 ((wrap64 (rd l0 6))*256))+(wrap64 (rd l0 7)))))))=true:=decide_eq_true c37
                     by_cases c38:(wrap64 (8+(wrap64 ((wrap64 ((wrap64 (rd l0 6))*256))+(wrap64 (rd l0 7))))))≤(l0.length:Int)
                     · rw [if_pos c38] at H
                       have c38b0:=eq_true c38
                       have c38b1:decide ((wrap64 (8+(wrap64 ((wrap64 ((wrap64 (rd l0 6))*256))+(wrap64 (rd l0 7))))))≤(l0.length:Int))=true:=decide_eq_true c38
                       obtain ⟨y226,hy226⟩:∃ y_:List Int,y_=((l0.take ((wrap64 (8+(wrap64 ((wrap64 ((wrap64 (rd l0 6))*256))+(wrap64 (rd l0 7)))))):Int).toNat).drop 8):=⟨_,rfl⟩
                       replace H:((dioramaref19_Pixels.f k y226 (wrap64 (rd l0 4)) (wrap64 (rd l0 5))).bind fun bt230=>(some (wrap64 ((wrap64 ((wrap64 (rd l0 0))*256))+(wrap64 (rd l0 1))),wrap64 ((wrap64 ((wrap64 (rd l0 2))*256))+(wrap64 (rd l0 3))),wrap64 (rd l0 4),wrap64 (rd l0 5),bt230.1,wrap64 (8+(wrap64 ((wrap64 ((wrap64 (rd l0 6))*256))+(wrap64 (rd l0 7))))),bt230.2)))=some (r1,r2,r3,r4,r5,r6,r7):=by first|(rw [hy226];with_reducible exact H)|(have H2_:=(Option.bind_some _ _).symm.trans H;rw [hy226];with_reducible exact H2_)|(have H2_:=(Option.bind_some _ _).symm.trans H;with_reducible exact H2_)|with_reducible exact H|(rw [hy226];exact H)|exact H
                       have Ny226:=Aside0.mk hy226;clear hy226
                       replace H:=Option.bind_eq_some_iff.mp H
                       obtain ⟨⟨t230,t231⟩,A390,H⟩:=H
                       replace H:(some (wrap64 ((wrap64 ((wrap64 (rd l0 0))*256))+(wrap64 (rd l0 1))),wrap64 ((wrap64 ((wrap64 (rd l0 2))*256))+(wrap64 (rd l0 3))),wrap64 (rd l0 4),wrap64 (rd l0 5),t230,wrap64 (8+(wrap64 ((wrap64 ((wrap64 (rd l0 6))*256))+(wrap64 (rd l0 7))))),t231))=some (r1,r2,r3,r4,r5,r6,r7):=H
                       have A39:=Aside0.mk A390;clear A390
                       simp only [Option.some.injEq,Prod.mk.injEq] at H
                       obtain ⟨rfl,rfl,rfl,rfl,rfl,rfl,rfl⟩:=H
                       go_enter Try.func62,Try.ntmps62
                       try go_wp2_with (first|((with_reducible refine gate_dst (N:=2) rfl ?_);refine box_event ?hg (N:=2) ?hd (cs:=#[.int .i64 0,.int .i64 0,.int .i64 0,.int .i64 0,.slice none 0 0]) (t:=91) ?hr ?_;(case hd=>rfl);(case hg=>rfl);(case hr=>first|(go_simp;done)|(go_simp;rfl));intro gb215 hg w40 hbox hb;have n0_:=Aside0.mk (below_step (belV HB.out) hb);have n1_:=Aside0.mk (hbox);have n2_:=Aside0.mk ((by rw [hg];exact (below_size (belV HB.out)):w.heap.size≤gb215));have n3_:=Aside0.mk ((by rw [hg];exact (below_size (belV HB.out)):w.heap.size≤gb215));clear HB;have HB:=n0_;have BK215:=n1_;have GW215:=n2_;have GE215:=n3_;clear n0_ n1_ n2_ n3_;clear hb hbox hg)|((with_reducible refine gate_dst (N:=5) rfl ?_);refine box_event ?hg (N:=5) ?hd (cs:=#[.int .i64 0,.int .i64 0,.int .i64 0,.int .i64 0,.slice none 0 0]) (t:=91) ?hr ?_;(case hd=>rfl);(case hg=>rfl);(case hr=>first|(go_simp;done)|(go_simp;rfl));intro gb216 hg w41 hbox hb;have n0_:=Aside0.mk (blk_below (g:=gb215) (blkV BK215.out) hb);have n1_:=Aside0.mk (below_step (belV1 HB.out GE215.out) hb);have n2_:=Aside0.mk (hbox);have n3_:=Aside0.mk ((by rw [hg];exact (below_size (belV1 HB.out GE215.out)):w.heap.size≤gb216));have n4_:=Aside0.mk ((by rw [hg];exact (below_size (belV1 HB.out GE215.out)):w.heap.size≤gb216));have n5_:=Aside0.mk ((by rw [hg];exact Nat.ne_of_lt (blk_lt (g:=gb215) (blkV BK215.out)):gb215≠gb216));have n6_:=Aside0.mk ((by rw [hg];exact Nat.ne_of_gt (blk_lt (g:=gb215) (blkV BK215.out)):gb216≠gb215));clear BK215;clear HB;have BK215:=n0_;have HB:=n1_;have BK216:=n2_;have GW216:=n3_;have GE216:=n4_;have NB215_216:=n5_;have NB216_215:=n6_;clear n0_ n1_ n2_ n3_ n4_ n5_ n6_;clear hb hbox hg))
                       have n0_:=Aside0.mk (blk_drew BK215.out)
                       have n1_:=Aside0.mk (blk_drew BK216.out)
                       have n2_:=Aside0.mk (below_drew1 HB.out);clear BK215;clear BK216;clear HB;have BK215:=n0_;have BK216:=n1_;have HB:=n2_;clear n0_ n1_ n2_
                       have p217:0≤(0:Int):=(by omega)
                       have q217:0 < (l0.length:Int):=of_decide_eq_true asV
                       obtain ⟨ad217,e217,hx217_0⟩:=Kd.at_int HR0.out 0 p217 q217
                       have hw217_0:=hx217_0
                       (try rw [show ((0:Int)).toNat=0 from rfl] at hw217_0)
                       (try rw [show 0*1=0 from rfl] at hw217_0)
                       (try rw [Addr.add_zero'] at hw217_0)
                       cases e217
                       have qi217:(0 < l0.length)=True:=eq_true (by omega)
                       (try rw [show ((0:Int)).toNat=0 from rfl] at hx217_0)
                       (try rw [Addr.add_zero'] at hx217_0)
                       replace hx217_0:=(HB.out.cell (World.block_lt_of_cell? w _ hx217_0)).trans hx217_0
                       replace p217:=eq_true p217
                       replace q217:=eq_true q217
                       have p218:0≤(1:Int):=(by omega)
                       have q218:1 < (l0.length:Int):=of_decide_eq_true asV
                       obtain ⟨ad218,e218,hx218_0⟩:=Kd.at_int HR0.out 1 p218 q218
                       have hw218_0:=hx218_0
                       (try rw [show ((1:Int)).toNat=1 from rfl] at hw218_0)
                       (try rw [show 1*1=1 from rfl] at hw218_0)
                       (try simp only [Nat.reduceMul,Nat.reduceEqDiff,Go.Addr.add,↓reduceIte] at hw218_0)
                       obtain rfl:ad217=ad218:=(by injection e218)
                       (try simp only [show (1:Int).toNat=1 from rfl,Nat.reduceMul,Nat.reduceEqDiff,Go.Addr.add,↓reduceIte] at hx218_0)
                       have qi218:(1 < l0.length)=True:=eq_true (by omega)
                       (try rw [show ((1:Int)).toNat=1 from rfl] at hx218_0)
                       replace hx218_0:=(HB.out.cell (World.block_lt_of_cell? w _ hx218_0)).trans hx218_0
                       replace p218:=eq_true p218
                       replace q218:=eq_true q218
                       refine start_ (n:=12) (S:=fun w'=>w'.cell? ad217=some (.int .u8 (rd l0 0))∧w'.cell? ⟨ad217.block,ad217.off+1,none⟩=some (.int .u8 (rd l0 1))) (ds:=[]) ((bm false [12]).toArray) (by kernel_rfl) rfl rfl ⟨((HB.out.cell (World.block_lt_of_cell? w _ hw217_0)).trans hw217_0),((HB.out.cell (World.block_lt_of_cell? w _ hw218_0)).trans hw218_0)⟩ (fun hHeld=>?_);refine with_tabW dioramaref19_patch.tab4 dioramaref19_patch.bits4 (fun HT_ HW_=>?_)
                       generalize w41.drew=w42 at BK215 BK216 HB hx217_0 hx218_0 hHeld ⊢
                       refine pure_ (i:=0) (N:=some 13) (v:=?_) (a':=?_) ((bm true [1,11]).toArray) rfl rfl (any_of HT_.out (by kernel_rfl)) (fun _ _ _ h=>h) (Or.inl ⟨by rfl,?_⟩) ?_ ?_;rotate_left
                       · intro w';go_simp;with_reducible rfl
                       rotate_left
                       · simp only [Act.put,List.setIfInBounds_toArray,List.set_cons_zero,List.set_cons_succ,i64_w,i32_w];rfl
                       refine pure_ (i:=1) (N:=some 14) (v:=?_) (a':=?_) ((bm true [2,10]).toArray) rfl rfl (any_of HT_.out (by kernel_rfl)) (fun _ _ _ h=>h) (Or.inl ⟨by rfl,?_⟩) ?_ ?_;rotate_left
                       · intro w';go_simp;with_reducible rfl
                       rotate_left
                       · simp only [Act.put,List.setIfInBounds_toArray,List.set_cons_zero,List.set_cons_succ,i64_w,i32_w];rfl
                       refine pure_ (i:=5) (N:=some 18) (v:=?_) (a':=?_) ((bm true [2,3,1,6]).toArray) rfl rfl (any_of HT_.out (by kernel_rfl)) (fun _ _ _ h=>h) (Or.inl ⟨by rfl,?_⟩) ?_ ?_;rotate_left
                       · intro w';go_simp;with_reducible rfl
                       rotate_left
                       · simp only [Act.put,List.setIfInBounds_toArray,List.set_cons_zero,List.set_cons_succ,i64_w,i32_w];rfl
                       refine pure_ (i:=6) (N:=some 19) (v:=?_) (a':=?_) ((bm true [2,3,2,5]).toArray) rfl rfl (any_of HT_.out (by kernel_rfl)) (fun _ _ _ h=>h) (Or.inl ⟨by rfl,?_⟩) ?_ ?_;rotate_left
                       · intro w';go_simp;with_reducible rfl
                       rotate_left
                       · simp only [Act.put,List.setIfInBounds_toArray,List.set_cons_zero,List.set_cons_succ,i64_w,i32_w];rfl
                       refine take_ (i:=2) (N:=some 15) (v:=?_) (a':=?_) ((bm true [3,2,2,5]).toArray) rfl rfl (take_ofW HT_.out HW_.out (by kernel_rfl)) (fun _ _ _ h=>h) (Or.inl ⟨by rfl,?_⟩) hHeld ?_ ?_;rotate_left
                       · rintro w' ⟨s0,s1⟩
                         go_simp;with_reducible rfl
                       rotate_left
                       · simp only [Act.put,List.setIfInBounds_toArray,List.set_cons_zero,List.set_cons_succ,i64_w,i32_w];rfl
                       refine pure_ (i:=3) (N:=some 16) (v:=?_) (a':=?_) ((bm true [4,1,2,5]).toArray) rfl rfl (any_of HT_.out (by kernel_rfl)) (fun _ _ _ h=>h) (Or.inl ⟨by rfl,?_⟩) ?_ ?_;rotate_left
                       · intro w';go_simp;with_reducible rfl
                       rotate_left
                       · simp only [Act.put,List.setIfInBounds_toArray,List.set_cons_zero,List.set_cons_succ,i64_w,i32_w];rfl
                       refine pure_ (i:=4) (N:=some 17) (v:=?_) (a':=?_) ((bm true [7,5]).toArray) rfl rfl (any_of HT_.out (by kernel_rfl)) (fun _ _ _ h=>h) (Or.inl ⟨by rfl,?_⟩) ?_ ?_;rotate_left
                       · intro w';go_simp;with_reducible rfl
                       rotate_left
                       · simp only [Act.put,List.setIfInBounds_toArray,List.set_cons_zero,List.set_cons_succ,i64_w,i32_w];rfl
                       refine take_ (i:=7) (N:=some 20) (v:=?_) (a':=?_) ((bm true [8,4]).toArray) rfl rfl (take_ofW HT_.out HW_.out (by kernel_rfl)) (fun _ _ _ h=>h) (Or.inl ⟨by rfl,?_⟩) hHeld ?_ ?_;rotate_left
                       · rintro w' ⟨s0,s1⟩
                         go_simp;with_reducible rfl
                       rotate_left
                       · simp only [Act.put,List.setIfInBounds_toArray,List.set_cons_zero,List.set_cons_succ,i64_w,i32_w];rfl
                       refine pure_ (i:=8) (N:=some 21) (v:=?_) (a':=?_) ((bm true [9,3]).toArray) rfl rfl (any_of HT_.out (by kernel_rfl)) (fun _ _ _ h=>h) (Or.inl ⟨by rfl,?_⟩) ?_ ?_;rotate_left
                       · intro w';go_simp;with_reducible rfl
                       rotate_left
                       · simp only [Act.put,List.setIfInBounds_toArray,List.set_cons_zero,List.set_cons_succ,i64_w,i32_w];rfl
                       refine pure_ (i:=9) (N:=some 22) (v:=?_) (a':=?_) ((bm true [10,2]).toArray) rfl rfl (any_of HT_.out (by kernel_rfl)) (fun _ _ _ h=>h) (Or.inl ⟨by rfl,?_⟩) ?_ ?_;rotate_left
                       · intro w';go_simp;with_reducible rfl
                       rotate_left
                       · simp only [Act.put,List.setIfInBounds_toArray,List.set_cons_zero,List.set_cons_succ,i64_w,i32_w];rfl
                       refine pure_ (i:=10) (N:=some 23) (v:=?_) (a':=?_) ((bm true [11,1]).toArray) rfl rfl (any_of HT_.out (by kernel_rfl)) (fun _ _ _ h=>h) (Or.inl ⟨by rfl,?_⟩) ?_ ?_;rotate_left
                       · intro w';go_simp;with_reducible rfl
                       rotate_left
                       · simp only [Act.put,List.setIfInBounds_toArray,List.set_cons_zero,List.set_cons_succ,i64_w,i32_w];rfl
                       refine one_ (i:=11) (N:=none) ((bm true [12]).toArray) rfl rfl (one_of HT_.out (by kernel_rfl)) (by decide) (fun K hK=>?_)
                       have hs43:w42.cell? ⟨gb216,0,none⟩=some (.int .i64 0):=(blk_cell BK216.out 0).trans rfl
                       have hfs43:=blk_frozen BK216.out 0
                       have hns43_0:=NB215_216.out
                       have hms43_0:=NB216_215.out
                       refine skip_ (w1:=?_) (by rfl) rfl ?_ ?_;rotate_left
                       · go_simp;rfl
                       refine hK.out _ _ ⟨((cell_far (p:=⟨gb216,_,none⟩) (by first|exact Nat.ne_of_lt (Nat.lt_of_lt_of_le (by have:=World.block_lt_of_cell? _ _ hw217_0;first|rwa [add_block] at this|exact this) GW216.out)|(rw [add_block];exact Nat.ne_of_lt (Nat.lt_of_lt_of_le (by have:=World.block_lt_of_cell? _ _ hw217_0;first|rwa [add_block] at this|exact this) GW216.out))|(show (Addr.add _ _).block≠_;rw [add_block];exact Nat.ne_of_lt (Nat.lt_of_lt_of_le (by have:=World.block_lt_of_cell? _ _ hw217_0;first|rwa [add_block] at this|exact this) GW216.out))|(dsimp only;exact Nat.ne_of_lt (Nat.lt_of_lt_of_le (by have:=World.block_lt_of_cell? _ _ hw217_0;first|rwa [add_block] at this|exact this) GW216.out))) _).trans (hHeld.1)),((cell_far (p:=⟨gb216,_,none⟩) (by first|exact Nat.ne_of_lt (Nat.lt_of_lt_of_le (by have:=World.block_lt_of_cell? _ _ hw218_0;first|rwa [add_block] at this|exact this) GW216.out)|(rw [add_block];exact Nat.ne_of_lt (Nat.lt_of_lt_of_le (by have:=World.block_lt_of_cell? _ _ hw218_0;first|rwa [add_block] at this|exact this) GW216.out))|(show (Addr.add _ _).block≠_;rw [add_block];exact Nat.ne_of_lt (Nat.lt_of_lt_of_le (by have:=World.block_lt_of_cell? _ _ hw218_0;first|rwa [add_block] at this|exact this) GW216.out))|(dsimp only;exact Nat.ne_of_lt (Nat.lt_of_lt_of_le (by have:=World.block_lt_of_cell? _ _ hw218_0;first|rwa [add_block] at this|exact this) GW216.out))) _).trans (hHeld.2))⟩ (fun hHeld=>?_)
                       clear hK K
                       refine done_ (done_of HT_.out (by kernel_rfl)) ?_
                       try go_wp2_with fail
                       have n0_:Aside0 ((w42.setCell ⟨gb216,0,none⟩ (.int .i64 (wrap64 ((wrap64 ((wrap64 (rd l0 0))*256))+(wrap64 (rd l0 1)))))).heap[gb215]?=some (.cells #[.int .i64 0,.int .i64 0,.int .i64 0,.int .i64 0,.slice none 0 0] 91 (0,0))):=⟨blkW BK215.out NB215_216.out⟩
                       have n1_:Aside0 ((w42.setCell ⟨gb216,0,none⟩ (.int .i64 (wrap64 ((wrap64 ((wrap64 (rd l0 0))*256))+(wrap64 (rd l0 1)))))).heap[gb216]?=some (.cells #[.int .i64 (wrap64 ((wrap64 ((wrap64 (rd l0 0))*256))+(wrap64 (rd l0 1)))),.int .i64 0,.int .i64 0,.int .i64 0,.slice none 0 0] 91 (0,0))):=⟨by (with_reducible repeat (first|refine blk_drewN ?_ _|refine blk_drew ?_|refine blk_alloc ?_ _));refine blk_put (cs:=#[.int .i64 0,.int .i64 0,.int .i64 0,.int .i64 0,.slice none 0 0]) ?_ 0 _ rfl;(with_reducible repeat (first|refine blk_drewN ?_ _|refine blk_drew ?_|refine blk_alloc ?_ _));exact BK216.out⟩
                       have n2_:Aside0 (Below w.heap.size w (w42.setCell ⟨gb216,0,none⟩ (.int .i64 (wrap64 ((wrap64 ((wrap64 (rd l0 0))*256))+(wrap64 (rd l0 1))))))):=⟨belV2 HB.out GE215.out GE216.out⟩
                       (try clear BK215)
                       (try clear BK216)
                       (try clear HB)
                       generalize (w42.setCell ⟨gb216,0,none⟩ (.int .i64 (wrap64 ((wrap64 ((wrap64 (rd l0 0))*256))+(wrap64 (rd l0 1))))))=w44 at n0_ n1_ n2_ ⊢
                       have BK215:=n0_;have BK216:=n1_;have HB:=n2_;clear n0_ n1_ n2_
                       have n0_:=Aside0.mk (blk_drew BK215.out)
                       have n1_:=Aside0.mk (blk_drew BK216.out)
                       have n2_:=Aside0.mk (below_drew1 HB.out);clear BK215;clear BK216;clear HB;have BK215:=n0_;have BK216:=n1_;have HB:=n2_;clear n0_ n1_ n2_
                       have p219:0≤(2:Int):=(by omega)
                       have q219:2 < (l0.length:Int):=of_decide_eq_true asV
                       obtain ⟨ad219,e219,hx219_0⟩:=Kd.at_int HR0.out 2 p219 q219
                       have hw219_0:=hx219_0
                       (try rw [show ((2:Int)).toNat=2 from rfl] at hw219_0)
                       (try rw [show 2*1=2 from rfl] at hw219_0)
                       (try simp only [Nat.reduceMul,Nat.reduceEqDiff,Go.Addr.add,↓reduceIte] at hw219_0)
                       obtain rfl:ad217=ad219:=(by injection e219)
                       (try simp only [show (2:Int).toNat=2 from rfl,Nat.reduceMul,Nat.reduceEqDiff,Go.Addr.add,↓reduceIte] at hx219_0)
                       have qi219:(2 < l0.length)=True:=eq_true (by omega)
                       (try rw [show ((2:Int)).toNat=2 from rfl] at hx219_0)
                       replace hx219_0:=(HB.out.cell (World.block_lt_of_cell? w _ hx219_0)).trans hx219_0
                       replace p219:=eq_true p219
                       replace q219:=eq_true q219
                       have p220:0≤(3:Int):=(by omega)
                       have q220:3 < (l0.length:Int):=of_decide_eq_true asV
                       obtain ⟨ad220,e220,hx220_0⟩:=Kd.at_int HR0.out 3 p220 q220
                       have hw220_0:=hx220_0
                       (try rw [show ((3:Int)).toNat=3 from rfl] at hw220_0)
                       (try rw [show 3*1=3 from rfl] at hw220_0)
                       (try simp only [Nat.reduceMul,Nat.reduceEqDiff,Go.Addr.add,↓reduceIte] at hw220_0)
                       obtain rfl:ad217=ad220:=(by injection e220)
                       (try simp only [show (3:Int).toNat=3 from rfl,Nat.reduceMul,Nat.reduceEqDiff,Go.Addr.add,↓reduceIte] at hx220_0)
                       have qi220:(3 < l0.length)=True:=eq_true (by omega)
                       (try rw [show ((3:Int)).toNat=3 from rfl] at hx220_0)
                       replace hx220_0:=(HB.out.cell (World.block_lt_of_cell? w _ hx220_0)).trans hx220_0
                       replace p220:=eq_true p220
                       replace q220:=eq_true q220
                       refine start_ (n:=12) (S:=fun w'=>w'.cell? ⟨ad217.block,ad217.off+2,none⟩=some (.int .u8 (rd l0 2))∧w'.cell? ⟨ad217.block,ad217.off+3,none⟩=some (.int .u8 (rd l0 3))) (ds:=[]) ((bm false [12]).toArray) (by kernel_rfl) rfl rfl ⟨((HB.out.cell (World.block_lt_of_cell? w _ hw219_0)).trans hw219_0),((HB.out.cell (World.block_lt_of_cell? w _ hw220_0)).trans hw220_0)⟩ (fun hHeld=>?_);refine with_tabW dioramaref19_patch.tab5 dioramaref19_patch.bits5 (fun HT_ HW_=>?_)
                       generalize w44.drew=w45 at BK215 BK216 HB hx219_0 hx220_0 hHeld ⊢
                       refine pure_ (i:=0) (N:=some 24) (v:=?_) (a':=?_) ((bm true [1,11]).toArray) rfl rfl (any_of HT_.out (by kernel_rfl)) (fun _ _ _ h=>h) (Or.inl ⟨by rfl,?_⟩) ?_ ?_;rotate_left
                       · intro w';go_simp;with_reducible rfl
                       rotate_left
                       · simp only [Act.put,List.setIfInBounds_toArray,List.set_cons_zero,List.set_cons_succ,i64_w,i32_w];rfl
                       refine pure_ (i:=1) (N:=some 25) (v:=?_) (a':=?_) ((bm true [2,10]).toArray) rfl rfl (any_of HT_.out (by kernel_rfl)) (fun _ _ _ h=>h) (Or.inl ⟨by rfl,?_⟩) ?_ ?_;rotate_left
                       · intro w';go_simp;with_reducible rfl
                       rotate_left
                       · simp only [Act.put,List.setIfInBounds_toArray,List.set_cons_zero,List.set_cons_succ,i64_w,i32_w];rfl
                       refine pure_ (i:=5) (N:=some 29) (v:=?_) (a':=?_) ((bm true [2,3,1,6]).toArray) rfl rfl (any_of HT_.out (by kernel_rfl)) (fun _ _ _ h=>h) (Or.inl ⟨by rfl,?_⟩) ?_ ?_;rotate_left
                       · intro w';go_simp;with_reducible rfl
                       rotate_left
                       · simp only [Act.put,List.setIfInBounds_toArray,List.set_cons_zero,List.set_cons_succ,i64_w,i32_w];rfl
                       refine pure_ (i:=6) (N:=some 30) (v:=?_) (a':=?_) ((bm true [2,3,2,5]).toArray) rfl rfl (any_of HT_.out (by kernel_rfl)) (fun _ _ _ h=>h) (Or.inl ⟨by rfl,?_⟩) ?_ ?_;rotate_left
                       · intro w';go_simp;with_reducible rfl
                       rotate_left
                       · simp only [Act.put,List.setIfInBounds_toArray,List.set_cons_zero,List.set_cons_succ,i64_w,i32_w];rfl
                       refine take_ (i:=2) (N:=some 26) (v:=?_) (a':=?_) ((bm true [3,2,2,5]).toArray) rfl rfl (take_ofW HT_.out HW_.out (by kernel_rfl)) (fun _ _ _ h=>h) (Or.inl ⟨by rfl,?_⟩) hHeld ?_ ?_;rotate_left
                       · rintro w' ⟨s0,s1⟩
                         go_simp;with_reducible rfl
                       rotate_left
                       · simp only [Act.put,List.setIfInBounds_toArray,List.set_cons_zero,List.set_cons_succ,i64_w,i32_w];rfl
                       refine pure_ (i:=3) (N:=some 27) (v:=?_) (a':=?_) ((bm true [4,1,2,5]).toArray) rfl rfl (any_of HT_.out (by kernel_rfl)) (fun _ _ _ h=>h) (Or.inl ⟨by rfl,?_⟩) ?_ ?_;rotate_left
                       · intro w';go_simp;with_reducible rfl
                       rotate_left
                       · simp only [Act.put,List.setIfInBounds_toArray,List.set_cons_zero,List.set_cons_succ,i64_w,i32_w];rfl
                       refine pure_ (i:=4) (N:=some 28) (v:=?_) (a':=?_) ((bm true [7,5]).toArray) rfl rfl (any_of HT_.out (by kernel_rfl)) (fun _ _ _ h=>h) (Or.inl ⟨by rfl,?_⟩) ?_ ?_;rotate_left
                       · intro w';go_simp;with_reducible rfl
                       rotate_left
                       · simp only [Act.put,List.setIfInBounds_toArray,List.set_cons_zero,List.set_cons_succ,i64_w,i32_w];rfl
                       refine take_ (i:=7) (N:=some 31) (v:=?_) (a':=?_) ((bm true [8,4]).toArray) rfl rfl (take_ofW HT_.out HW_.out (by kernel_rfl)) (fun _ _ _ h=>h) (Or.inl ⟨by rfl,?_⟩) hHeld ?_ ?_;rotate_left
                       · rintro w' ⟨s0,s1⟩
                         go_simp;with_reducible rfl
                       rotate_left
                       · simp only [Act.put,List.setIfInBounds_toArray,List.set_cons_zero,List.set_cons_succ,i64_w,i32_w];rfl
                       refine pure_ (i:=8) (N:=some 32) (v:=?_) (a':=?_) ((bm true [9,3]).toArray) rfl rfl (any_of HT_.out (by kernel_rfl)) (fun _ _ _ h=>h) (Or.inl ⟨by rfl,?_⟩) ?_ ?_;rotate_left
                       · intro w';go_simp;with_reducible rfl
                       rotate_left
                       · simp only [Act.put,List.setIfInBounds_toArray,List.set_cons_zero,List.set_cons_succ,i64_w,i32_w];rfl
                       refine pure_ (i:=9) (N:=some 33) (v:=?_) (a':=?_) ((bm true [10,2]).toArray) rfl rfl (any_of HT_.out (by kernel_rfl)) (fun _ _ _ h=>h) (Or.inl ⟨by rfl,?_⟩) ?_ ?_;rotate_left
                       · intro w';go_simp;with_reducible rfl
                       rotate_left
                       · simp only [Act.put,List.setIfInBounds_toArray,List.set_cons_zero,List.set_cons_succ,i64_w,i32_w];rfl
                       refine pure_ (i:=10) (N:=some 34) (v:=?_) (a':=?_) ((bm true [11,1]).toArray) rfl rfl (any_of HT_.out (by kernel_rfl)) (fun _ _ _ h=>h) (Or.inl ⟨by rfl,?_⟩) ?_ ?_;rotate_left
                       · intro w';go_simp;with_reducible rfl
                       rotate_left
                       · simp only [Act.put,List.setIfInBounds_toArray,List.set_cons_zero,List.set_cons_succ,i64_w,i32_w];rfl
                       refine one_ (i:=11) (N:=none) ((bm true [12]).toArray) rfl rfl (one_of HT_.out (by kernel_rfl)) (by decide) (fun K hK=>?_)
                       have hs46:w45.cell? ⟨gb216,1,none⟩=some (.int .i64 0):=(blk_cell BK216.out 1).trans rfl
                       have hfs46:=blk_frozen BK216.out 1
                       have hns46_0:=NB215_216.out
                       have hms46_0:=NB216_215.out
                       refine skip_ (w1:=?_) (by rfl) rfl ?_ ?_;rotate_left
                       · go_simp;rfl
                       refine hK.out _ _ ⟨((cell_far (p:=⟨gb216,_,none⟩) (by first|exact Nat.ne_of_lt (Nat.lt_of_lt_of_le (by have:=World.block_lt_of_cell? _ _ hw219_0;first|rwa [add_block] at this|exact this) GW216.out)|(rw [add_block];exact Nat.ne_of_lt (Nat.lt_of_lt_of_le (by have:=World.block_lt_of_cell? _ _ hw219_0;first|rwa [add_block] at this|exact this) GW216.out))|(show (Addr.add _ _).block≠_;rw [add_block];exact Nat.ne_of_lt (Nat.lt_of_lt_of_le (by have:=World.block_lt_of_cell? _ _ hw219_0;first|rwa [add_block] at this|exact this) GW216.out))|(dsimp only;exact Nat.ne_of_lt (Nat.lt_of_lt_of_le (by have:=World.block_lt_of_cell? _ _ hw219_0;first|rwa [add_block] at this|exact this) GW216.out))) _).trans (hHeld.1)),((cell_far (p:=⟨gb216,_,none⟩) (by first|exact Nat.ne_of_lt (Nat.lt_of_lt_of_le (by have:=World.block_lt_of_cell? _ _ hw220_0;first|rwa [add_block] at this|exact this) GW216.out)|(rw [add_block];exact Nat.ne_of_lt (Nat.lt_of_lt_of_le (by have:=World.block_lt_of_cell? _ _ hw220_0;first|rwa [add_block] at this|exact this) GW216.out))|(show (Addr.add _ _).block≠_;rw [add_block];exact Nat.ne_of_lt (Nat.lt_of_lt_of_le (by have:=World.block_lt_of_cell? _ _ hw220_0;first|rwa [add_block] at this|exact this) GW216.out))|(dsimp only;exact Nat.ne_of_lt (Nat.lt_of_lt_of_le (by have:=World.block_lt_of_cell? _ _ hw220_0;first|rwa [add_block] at this|exact this) GW216.out))) _).trans (hHeld.2))⟩ (fun hHeld=>?_)
                       clear hK K
                       refine done_ (done_of HT_.out (by kernel_rfl)) ?_
                       try go_wp2_with fail
                       have n0_:Aside0 ((w45.setCell ⟨gb216,1,none⟩ (.int .i64 (wrap64 ((wrap64 ((wrap64 (rd l0 2))*256))+(wrap64 (rd l0 3)))))).heap[gb215]?=some (.cells #[.int .i64 0,.int .i64 0,.int .i64 0,.int .i64 0,.slice none 0 0] 91 (0,0))):=⟨blkW BK215.out NB215_216.out⟩
                       have n1_:Aside0 ((w45.setCell ⟨gb216,1,none⟩ (.int .i64 (wrap64 ((wrap64 ((wrap64 (rd l0 2))*256))+(wrap64 (rd l0 3)))))).heap[gb216]?=some (.cells #[.int .i64 (wrap64 ((wrap64 ((wrap64 (rd l0 0))*256))+(wrap64 (rd l0 1)))),.int .i64 (wrap64 ((wrap64 ((wrap64 (rd l0 2))*256))+(wrap64 (rd l0 3)))),.int .i64 0,.int .i64 0,.slice none 0 0] 91 (0,0))):=⟨by (with_reducible repeat (first|refine blk_drewN ?_ _|refine blk_drew ?_|refine blk_alloc ?_ _));refine blk_put (cs:=#[.int .i64 (wrap64 ((wrap64 ((wrap64 (rd l0 0))*256))+(wrap64 (rd l0 1)))),.int .i64 0,.int .i64 0,.int .i64 0,.slice none 0 0]) ?_ 1 _ rfl;(with_reducible repeat (first|refine blk_drewN ?_ _|refine blk_drew ?_|refine blk_alloc ?_ _));exact BK216.out⟩
                       have n2_:Aside0 (Below w.heap.size w (w45.setCell ⟨gb216,1,none⟩ (.int .i64 (wrap64 ((wrap64 ((wrap64 (rd l0 2))*256))+(wrap64 (rd l0 3))))))):=⟨belV2 HB.out GE215.out GE216.out⟩
                       (try clear BK215)
                       (try clear BK216)
                       (try clear HB)
                       generalize (w45.setCell ⟨gb216,1,none⟩ (.int .i64 (wrap64 ((wrap64 ((wrap64 (rd l0 2))*256))+(wrap64 (rd l0 3))))))=w47 at n0_ n1_ n2_ ⊢
                       have BK215:=n0_;have BK216:=n1_;have HB:=n2_;clear n0_ n1_ n2_
                       have n0_:=Aside0.mk (blk_drew BK215.out)
                       have n1_:=Aside0.mk (blk_drew BK216.out)
                       have n2_:=Aside0.mk (below_drew1 HB.out);clear BK215;clear BK216;clear HB;have BK215:=n0_;have BK216:=n1_;have HB:=n2_;clear n0_ n1_ n2_
                       have p221:0≤(4:Int):=(by omega)
                       have q221:4 < (l0.length:Int):=of_decide_eq_true asV
                       obtain ⟨ad221,e221,hx221_0⟩:=Kd.at_int HR0.out 4 p221 q221
                       have hw221_0:=hx221_0
                       (try rw [show ((4:Int)).toNat=4 from rfl] at hw221_0)
                       (try rw [show 4*1=4 from rfl] at hw221_0)
                       (try simp only [Nat.reduceMul,Nat.reduceEqDiff,Go.Addr.add,↓reduceIte] at hw221_0)
                       obtain rfl:ad217=ad221:=(by injection e221)
                       (try simp only [show (4:Int).toNat=4 from rfl,Nat.reduceMul,Nat.reduceEqDiff,Go.Addr.add,↓reduceIte] at hx221_0)
                       have qi221:(4 < l0.length)=True:=eq_true (by omega)
                       (try rw [show ((4:Int)).toNat=4 from rfl] at hx221_0)
                       replace hx221_0:=(HB.out.cell (World.block_lt_of_cell? w _ hx221_0)).trans hx221_0
                       replace p221:=eq_true p221
                       replace q221:=eq_true q221
                       have p222:0≤(5:Int):=(by omega)
                       have q222:5 < (l0.length:Int):=of_decide_eq_true asV
                       obtain ⟨ad222,e222,hx222_0⟩:=Kd.at_int HR0.out 5 p222 q222
                       have hw222_0:=hx222_0
                       (try rw [show ((5:Int)).toNat=5 from rfl] at hw222_0)
                       (try rw [show 5*1=5 from rfl] at hw222_0)
                       (try simp only [Nat.reduceMul,Nat.reduceEqDiff,Go.Addr.add,↓reduceIte] at hw222_0)
                       obtain rfl:ad217=ad222:=(by injection e222)
                       (try simp only [show (5:Int).toNat=5 from rfl,Nat.reduceMul,Nat.reduceEqDiff,Go.Addr.add,↓reduceIte] at hx222_0)
                       have qi222:(5 < l0.length)=True:=eq_true (by omega)
                       (try rw [show ((5:Int)).toNat=5 from rfl] at hx222_0)
                       replace hx222_0:=(HB.out.cell (World.block_lt_of_cell? w _ hx222_0)).trans hx222_0
                       replace p222:=eq_true p222
                       replace q222:=eq_true q222
                       refine start_ (n:=12) (S:=fun w'=>w'.cell? ⟨ad217.block,ad217.off+4,none⟩=some (.int .u8 (rd l0 4))∧w'.cell? ⟨ad217.block,ad217.off+5,none⟩=some (.int .u8 (rd l0 5))) (ds:=[]) ((bm false [12]).toArray) (by kernel_rfl) rfl rfl ⟨((HB.out.cell (World.block_lt_of_cell? w _ hw221_0)).trans hw221_0),((HB.out.cell (World.block_lt_of_cell? w _ hw222_0)).trans hw222_0)⟩ (fun hHeld=>?_);refine with_tabW dioramaref19_patch.tab6 dioramaref19_patch.bits6 (fun HT_ HW_=>?_)
                       generalize w47.drew=w48 at BK215 BK216 HB hx221_0 hx222_0 hHeld ⊢
                       refine pure_ (i:=0) (N:=some 35) (v:=?_) (a':=?_) ((bm true [1,11]).toArray) rfl rfl (any_of HT_.out (by kernel_rfl)) (fun _ _ _ h=>h) (Or.inl ⟨by rfl,?_⟩) ?_ ?_;rotate_left
                       · intro w';go_simp;with_reducible rfl
                       rotate_left
                       · simp only [Act.put,List.setIfInBounds_toArray,List.set_cons_zero,List.set_cons_succ,i64_w,i32_w];rfl
                       refine pure_ (i:=1) (N:=some 36) (v:=?_) (a':=?_) ((bm true [2,10]).toArray) rfl rfl (any_of HT_.out (by kernel_rfl)) (fun _ _ _ h=>h) (Or.inl ⟨by rfl,?_⟩) ?_ ?_;rotate_left
                       · intro w';go_simp;with_reducible rfl
                       rotate_left
                       · simp only [Act.put,List.setIfInBounds_toArray,List.set_cons_zero,List.set_cons_succ,i64_w,i32_w];rfl
                       refine pure_ (i:=4) (N:=some 39) (v:=?_) (a':=?_) ((bm true [2,2,1,7]).toArray) rfl rfl (any_of HT_.out (by kernel_rfl)) (fun _ _ _ h=>h) (Or.inl ⟨by rfl,?_⟩) ?_ ?_;rotate_left
                       · intro w';go_simp;with_reducible rfl
                       rotate_left
                       · simp only [Act.put,List.setIfInBounds_toArray,List.set_cons_zero,List.set_cons_succ,i64_w,i32_w];rfl
                       refine pure_ (i:=5) (N:=some 40) (v:=?_) (a':=?_) ((bm true [2,2,2,6]).toArray) rfl rfl (any_of HT_.out (by kernel_rfl)) (fun _ _ _ h=>h) (Or.inl ⟨by rfl,?_⟩) ?_ ?_;rotate_left
                       · intro w';go_simp;with_reducible rfl
                       rotate_left
                       · simp only [Act.put,List.setIfInBounds_toArray,List.set_cons_zero,List.set_cons_succ,i64_w,i32_w];rfl
                       refine take_ (i:=2) (N:=some 37) (v:=?_) (a':=?_) ((bm true [3,1,2,6]).toArray) rfl rfl (take_ofW HT_.out HW_.out (by kernel_rfl)) (fun _ _ _ h=>h) (Or.inl ⟨by rfl,?_⟩) hHeld ?_ ?_;rotate_left
                       · rintro w' ⟨s0,s1⟩
                         go_simp;with_reducible rfl
                       rotate_left
                       · simp only [Act.put,List.setIfInBounds_toArray,List.set_cons_zero,List.set_cons_succ,i64_w,i32_w];rfl
                       refine pure_ (i:=3) (N:=some 38) (v:=?_) (a':=?_) ((bm true [6,6]).toArray) rfl rfl (any_of HT_.out (by kernel_rfl)) (fun _ _ _ h=>h) (Or.inl ⟨by rfl,?_⟩) ?_ ?_;rotate_left
                       · intro w';go_simp;with_reducible rfl
                       rotate_left
                       · simp only [Act.put,List.setIfInBounds_toArray,List.set_cons_zero,List.set_cons_succ,i64_w,i32_w];rfl
                       refine pure_ (i:=8) (N:=some 43) (v:=?_) (a':=?_) ((bm true [6,2,1,3]).toArray) rfl rfl (any_of HT_.out (by kernel_rfl)) (fun _ _ _ h=>h) (Or.inl ⟨by rfl,?_⟩) ?_ ?_;rotate_left
                       · intro w';go_simp;with_reducible rfl
                       rotate_left
                       · simp only [Act.put,List.setIfInBounds_toArray,List.set_cons_zero,List.set_cons_succ,i64_w,i32_w];rfl
                       refine take_ (i:=6) (N:=some 41) (v:=?_) (a':=?_) ((bm true [7,1,1,3]).toArray) rfl rfl (take_ofW HT_.out HW_.out (by kernel_rfl)) (fun _ _ _ h=>h) (Or.inl ⟨by rfl,?_⟩) hHeld ?_ ?_;rotate_left
                       · rintro w' ⟨s0,s1⟩
                         go_simp;with_reducible rfl
                       rotate_left
                       · simp only [Act.put,List.setIfInBounds_toArray,List.set_cons_zero,List.set_cons_succ,i64_w,i32_w];rfl
                       refine pure_ (i:=7) (N:=some 42) (v:=?_) (a':=?_) ((bm true [9,3]).toArray) rfl rfl (any_of HT_.out (by kernel_rfl)) (fun _ _ _ h=>h) (Or.inl ⟨by rfl,?_⟩) ?_ ?_;rotate_left
                       · intro w';go_simp;with_reducible rfl
                       rotate_left
                       · simp only [Act.put,List.setIfInBounds_toArray,List.set_cons_zero,List.set_cons_succ,i64_w,i32_w];rfl
                       refine one_ (i:=9) (N:=none) ((bm true [10,2]).toArray) rfl rfl (one_of HT_.out (by kernel_rfl)) (by decide) (fun K hK=>?_)
                       have hs49:w48.cell? ⟨gb216,2,none⟩=some (.int .i64 0):=(blk_cell BK216.out 2).trans rfl
                       have hfs49:=blk_frozen BK216.out 2
                       have hns49_0:=NB215_216.out
                       have hms49_0:=NB216_215.out
                       refine skip_ (w1:=?_) (by rfl) rfl ?_ ?_;rotate_left
                       · go_simp;rfl
                       refine hK.out _ _ ⟨((cell_far (p:=⟨gb216,_,none⟩) (by first|exact Nat.ne_of_lt (Nat.lt_of_lt_of_le (by have:=World.block_lt_of_cell? _ _ hw221_0;first|rwa [add_block] at this|exact this) GW216.out)|(rw [add_block];exact Nat.ne_of_lt (Nat.lt_of_lt_of_le (by have:=World.block_lt_of_cell? _ _ hw221_0;first|rwa [add_block] at this|exact this) GW216.out))|(show (Addr.add _ _).block≠_;rw [add_block];exact Nat.ne_of_lt (Nat.lt_of_lt_of_le (by have:=World.block_lt_of_cell? _ _ hw221_0;first|rwa [add_block] at this|exact this) GW216.out))|(dsimp only;exact Nat.ne_of_lt (Nat.lt_of_lt_of_le (by have:=World.block_lt_of_cell? _ _ hw221_0;first|rwa [add_block] at this|exact this) GW216.out))) _).trans (hHeld.1)),((cell_far (p:=⟨gb216,_,none⟩) (by first|exact Nat.ne_of_lt (Nat.lt_of_lt_of_le (by have:=World.block_lt_of_cell? _ _ hw222_0;first|rwa [add_block] at this|exact this) GW216.out)|(rw [add_block];exact Nat.ne_of_lt (Nat.lt_of_lt_of_le (by have:=World.block_lt_of_cell? _ _ hw222_0;first|rwa [add_block] at this|exact this) GW216.out))|(show (Addr.add _ _).block≠_;rw [add_block];exact Nat.ne_of_lt (Nat.lt_of_lt_of_le (by have:=World.block_lt_of_cell? _ _ hw222_0;first|rwa [add_block] at this|exact this) GW216.out))|(dsimp only;exact Nat.ne_of_lt (Nat.lt_of_lt_of_le (by have:=World.block_lt_of_cell? _ _ hw222_0;first|rwa [add_block] at this|exact this) GW216.out))) _).trans (hHeld.2))⟩ (fun hHeld=>?_)
                       clear hK K
                       refine pure_ (i:=10) (N:=some 44) (v:=?_) (a':=?_) ((bm true [11,1]).toArray) rfl rfl (any_of HT_.out (by kernel_rfl)) (fun _ _ _ h=>h) (Or.inl ⟨by rfl,?_⟩) ?_ ?_;rotate_left
                       · intro w';go_simp;with_reducible rfl
                       rotate_left
                       · simp only [Act.put,List.setIfInBounds_toArray,List.set_cons_zero,List.set_cons_succ,i64_w,i32_w];rfl
                       refine one_ (i:=11) (N:=none) ((bm true [12]).toArray) rfl rfl (one_of HT_.out (by kernel_rfl)) (by decide) (fun K hK=>?_)
                       have hs50:w48.cell? ⟨gb216,3,none⟩=some (.int .i64 0):=(blk_cell BK216.out 3).trans rfl
                       have hfs50:=blk_frozen BK216.out 3
                       have hns50_0:=NB215_216.out
                       have hms50_0:=NB216_215.out
                       refine skip_ (w1:=?_) (by rfl) rfl ?_ ?_;rotate_left
                       · go_simp;rfl
                       refine hK.out _ _ ⟨((cell_far (p:=⟨gb216,_,none⟩) (by first|exact Nat.ne_of_lt (Nat.lt_of_lt_of_le (by have:=World.block_lt_of_cell? _ _ hw221_0;first|rwa [add_block] at this|exact this) GW216.out)|(rw [add_block];exact Nat.ne_of_lt (Nat.lt_of_lt_of_le (by have:=World.block_lt_of_cell? _ _ hw221_0;first|rwa [add_block] at this|exact this) GW216.out))|(show (Addr.add _ _).block≠_;rw [add_block];exact Nat.ne_of_lt (Nat.lt_of_lt_of_le (by have:=World.block_lt_of_cell? _ _ hw221_0;first|rwa [add_block] at this|exact this) GW216.out))|(dsimp only;exact Nat.ne_of_lt (Nat.lt_of_lt_of_le (by have:=World.block_lt_of_cell? _ _ hw221_0;first|rwa [add_block] at this|exact this) GW216.out))) _).trans (hHeld.1)),((cell_far (p:=⟨gb216,_,none⟩) (by first|exact Nat.ne_of_lt (Nat.lt_of_lt_of_le (by have:=World.block_lt_of_cell? _ _ hw222_0;first|rwa [add_block] at this|exact this) GW216.out)|(rw [add_block];exact Nat.ne_of_lt (Nat.lt_of_lt_of_le (by have:=World.block_lt_of_cell? _ _ hw222_0;first|rwa [add_block] at this|exact this) GW216.out))|(show (Addr.add _ _).block≠_;rw [add_block];exact Nat.ne_of_lt (Nat.lt_of_lt_of_le (by have:=World.block_lt_of_cell? _ _ hw222_0;first|rwa [add_block] at this|exact this) GW216.out))|(dsimp only;exact Nat.ne_of_lt (Nat.lt_of_lt_of_le (by have:=World.block_lt_of_cell? _ _ hw222_0;first|rwa [add_block] at this|exact this) GW216.out))) _).trans (hHeld.2))⟩ (fun hHeld=>?_)
                       clear hK K
                       refine done_ (done_of HT_.out (by kernel_rfl)) ?_
                       try go_wp2_with fail
                       have n0_:Aside0 (((w48.setCell ⟨gb216,2,none⟩ (.int .i64 (wrap64 (rd l0 4)))).setCell ⟨gb216,3,none⟩ (.int .i64 (wrap64 (rd l0 5)))).heap[gb215]?=some (.cells #[.int .i64 0,.int .i64 0,.int .i64 0,.int .i64 0,.slice none 0 0] 91 (0,0))):=⟨blkW BK215.out NB215_216.out⟩
                       have n1_:Aside0 (((w48.setCell ⟨gb216,2,none⟩ (.int .i64 (wrap64 (rd l0 4)))).setCell ⟨gb216,3,none⟩ (.int .i64 (wrap64 (rd l0 5)))).heap[gb216]?=some (.cells #[.int .i64 (wrap64 ((wrap64 ((wrap64 (rd l0 0))*256))+(wrap64 (rd l0 1)))),.int .i64 (wrap64 ((wrap64 ((wrap64 (rd l0 2))*256))+(wrap64 (rd l0 3)))),.int .i64 (wrap64 (rd l0 4)),.int .i64 (wrap64 (rd l0 5)),.slice none 0 0] 91 (0,0))):=⟨by (with_reducible repeat (first|refine blk_drewN ?_ _|refine blk_drew ?_|refine blk_alloc ?_ _));refine blk_put (cs:=#[.int .i64 (wrap64 ((wrap64 ((wrap64 (rd l0 0))*256))+(wrap64 (rd l0 1)))),.int .i64 (wrap64 ((wrap64 ((wrap64 (rd l0 2))*256))+(wrap64 (rd l0 3)))),.int .i64 (wrap64 (rd l0 4)),.int .i64 0,.slice none 0 0]) ?_ 3 _ rfl;(with_reducible repeat (first|refine blk_drewN ?_ _|refine blk_drew ?_|refine blk_alloc ?_ _));refine blk_put (cs:=#[.int .i64 (wrap64 ((wrap64 ((wrap64 (rd l0 0))*256))+(wrap64 (rd l0 1)))),.int .i64 (wrap64 ((wrap64 ((wrap64 (rd l0 2))*256))+(wrap64 (rd l0 3)))),.int .i64 0,.int .i64 0,.slice none 0 0]) ?_ 2 _ rfl;(with_reducible repeat (first|refine blk_drewN ?_ _|refine blk_drew ?_|refine blk_alloc ?_ _));exact BK216.out⟩
                       have n2_:Aside0 (Below w.heap.size w ((w48.setCell ⟨gb216,2,none⟩ (.int .i64 (wrap64 (rd l0 4)))).setCell ⟨gb216,3,none⟩ (.int .i64 (wrap64 (rd l0 5))))):=⟨belV2 HB.out GE215.out GE216.out⟩
                       (try clear BK215)
                       (try clear BK216)
                       (try clear HB)
                       generalize ((w48.setCell ⟨gb216,2,none⟩ (.int .i64 (wrap64 (rd l0 4)))).setCell ⟨gb216,3,none⟩ (.int .i64 (wrap64 (rd l0 5))))=w51 at n0_ n1_ n2_ ⊢
                       have BK215:=n0_;have BK216:=n1_;have HB:=n2_;clear n0_ n1_ n2_
                       have n0_:=Aside0.mk (blk_drew BK215.out)
                       have n1_:=Aside0.mk (blk_drew BK216.out)
                       have n2_:=Aside0.mk (below_drew1 HB.out);clear BK215;clear BK216;clear HB;have BK215:=n0_;have BK216:=n1_;have HB:=n2_;clear n0_ n1_ n2_
                       have p223:0≤(6:Int):=(by omega)
                       have q223:6 < (l0.length:Int):=of_decide_eq_true asV
                       obtain ⟨ad223,e223,hx223_0⟩:=Kd.at_int HR0.out 6 p223 q223
                       have hw223_0:=hx223_0
                       (try rw [show ((6:Int)).toNat=6 from rfl] at hw223_0)
                       (try rw [show 6*1=6 from rfl] at hw223_0)
                       (try simp only [Nat.reduceMul,Nat.reduceEqDiff,Go.Addr.add,↓reduceIte] at hw223_0)
                       obtain rfl:ad217=ad223:=(by injection e223)
                       (try simp only [show (6:Int).toNat=6 from rfl,Nat.reduceMul,Nat.reduceEqDiff,Go.Addr.add,↓reduceIte] at hx223_0)
                       have qi223:(6 < l0.length)=True:=eq_true (by omega)
                       (try rw [show ((6:Int)).toNat=6 from rfl] at hx223_0)
                       replace hx223_0:=(HB.out.cell (World.block_lt_of_cell? w _ hx223_0)).trans hx223_0
                       replace p223:=eq_true p223
                       replace q223:=eq_true q223
                       have p224:0≤(7:Int):=(by omega)
                       have q224:7 < (l0.length:Int):=of_decide_eq_true asV
                       obtain ⟨ad224,e224,hx224_0⟩:=Kd.at_int HR0.out 7 p224 q224
                       have hw224_0:=hx224_0
                       (try rw [show ((7:Int)).toNat=7 from rfl] at hw224_0)
                       (try rw [show 7*1=7 from rfl] at hw224_0)
                       (try simp only [Nat.reduceMul,Nat.reduceEqDiff,Go.Addr.add,↓reduceIte] at hw224_0)
                       obtain rfl:ad217=ad224:=(by injection e224)
                       (try simp only [show (7:Int).toNat=7 from rfl,Nat.reduceMul,Nat.reduceEqDiff,Go.Addr.add,↓reduceIte] at hx224_0)
                       have qi224:(7 < l0.length)=True:=eq_true (by omega)
                       (try rw [show ((7:Int)).toNat=7 from rfl] at hx224_0)
                       replace hx224_0:=(HB.out.cell (World.block_lt_of_cell? w _ hx224_0)).trans hx224_0
                       replace p224:=eq_true p224
                       replace q224:=eq_true q224
                       refine start_ (n:=11) (S:=fun w'=>w'.cell? ⟨ad217.block,ad217.off+6,none⟩=some (.int .u8 (rd l0 6))∧w'.cell? ⟨ad217.block,ad217.off+7,none⟩=some (.int .u8 (rd l0 7))) (ds:=[]) ((bm false [11]).toArray) (by kernel_rfl) rfl rfl ⟨((HB.out.cell (World.block_lt_of_cell? w _ hw223_0)).trans hw223_0),((HB.out.cell (World.block_lt_of_cell? w _ hw224_0)).trans hw224_0)⟩ (fun hHeld=>?_);refine with_tabW dioramaref19_patch.tab7 dioramaref19_patch.bits7 (fun HT_ HW_=>?_)
                       generalize w51.drew=w52 at BK215 BK216 HB hx223_0 hx224_0 hHeld ⊢
                       refine pure_ (i:=0) (N:=some 45) (v:=?_) (a':=?_) ((bm true [1,10]).toArray) rfl rfl (any_of HT_.out (by kernel_rfl)) (fun _ _ _ h=>h) (Or.inl ⟨by rfl,?_⟩) ?_ ?_;rotate_left
                       · intro w';go_simp;with_reducible rfl
                       rotate_left
                       · simp only [Act.put,List.setIfInBounds_toArray,List.set_cons_zero,List.set_cons_succ,i64_w,i32_w];rfl
                       refine pure_ (i:=1) (N:=some 46) (v:=?_) (a':=?_) ((bm true [2,9]).toArray) rfl rfl (any_of HT_.out (by kernel_rfl)) (fun _ _ _ h=>h) (Or.inl ⟨by rfl,?_⟩) ?_ ?_;rotate_left
                       · intro w';go_simp;with_reducible rfl
                       rotate_left
                       · simp only [Act.put,List.setIfInBounds_toArray,List.set_cons_zero,List.set_cons_succ,i64_w,i32_w];rfl
                       refine pure_ (i:=5) (N:=some 50) (v:=?_) (a':=?_) ((bm true [2,3,1,5]).toArray) rfl rfl (any_of HT_.out (by kernel_rfl)) (fun _ _ _ h=>h) (Or.inl ⟨by rfl,?_⟩) ?_ ?_;rotate_left
                       · intro w';go_simp;with_reducible rfl
                       rotate_left
                       · simp only [Act.put,List.setIfInBounds_toArray,List.set_cons_zero,List.set_cons_succ,i64_w,i32_w];rfl
                       refine pure_ (i:=6) (N:=some 51) (v:=?_) (a':=?_) ((bm true [2,3,2,4]).toArray) rfl rfl (any_of HT_.out (by kernel_rfl)) (fun _ _ _ h=>h) (Or.inl ⟨by rfl,?_⟩) ?_ ?_;rotate_left
                       · intro w';go_simp;with_reducible rfl
                       rotate_left
                       · simp only [Act.put,List.setIfInBounds_toArray,List.set_cons_zero,List.set_cons_succ,i64_w,i32_w];rfl
                       refine take_ (i:=2) (N:=some 47) (v:=?_) (a':=?_) ((bm true [3,2,2,4]).toArray) rfl rfl (take_ofW HT_.out HW_.out (by kernel_rfl)) (fun _ _ _ h=>h) (Or.inl ⟨by rfl,?_⟩) hHeld ?_ ?_;rotate_left
                       · rintro w' ⟨s0,s1⟩
                         go_simp;with_reducible rfl
                       rotate_left
                       · simp only [Act.put,List.setIfInBounds_toArray,List.set_cons_zero,List.set_cons_succ,i64_w,i32_w];rfl
                       refine pure_ (i:=3) (N:=some 48) (v:=?_) (a':=?_) ((bm true [4,1,2,4]).toArray) rfl rfl (any_of HT_.out (by kernel_rfl)) (fun _ _ _ h=>h) (Or.inl ⟨by rfl,?_⟩) ?_ ?_;rotate_left
                       · intro w';go_simp;with_reducible rfl
                       rotate_left
                       · simp only [Act.put,List.setIfInBounds_toArray,List.set_cons_zero,List.set_cons_succ,i64_w,i32_w];rfl
                       refine pure_ (i:=4) (N:=some 49) (v:=?_) (a':=?_) ((bm true [7,4]).toArray) rfl rfl (any_of HT_.out (by kernel_rfl)) (fun _ _ _ h=>h) (Or.inl ⟨by rfl,?_⟩) ?_ ?_;rotate_left
                       · intro w';go_simp;with_reducible rfl
                       rotate_left
                       · simp only [Act.put,List.setIfInBounds_toArray,List.set_cons_zero,List.set_cons_succ,i64_w,i32_w];rfl
                       refine take_ (i:=7) (N:=some 52) (v:=?_) (a':=?_) ((bm true [8,3]).toArray) rfl rfl (take_ofW HT_.out HW_.out (by kernel_rfl)) (fun _ _ _ h=>h) (Or.inl ⟨by rfl,?_⟩) hHeld ?_ ?_;rotate_left
                       · rintro w' ⟨s0,s1⟩
                         go_simp;with_reducible rfl
                       rotate_left
                       · simp only [Act.put,List.setIfInBounds_toArray,List.set_cons_zero,List.set_cons_succ,i64_w,i32_w];rfl
                       refine pure_ (i:=8) (N:=some 53) (v:=?_) (a':=?_) ((bm true [9,2]).toArray) rfl rfl (any_of HT_.out (by kernel_rfl)) (fun _ _ _ h=>h) (Or.inl ⟨by rfl,?_⟩) ?_ ?_;rotate_left
                       · intro w';go_simp;with_reducible rfl
                       rotate_left
                       · simp only [Act.put,List.setIfInBounds_toArray,List.set_cons_zero,List.set_cons_succ,i64_w,i32_w];rfl
                       refine pure_ (i:=9) (N:=some 54) (v:=?_) (a':=?_) ((bm true [10,1]).toArray) rfl rfl (any_of HT_.out (by kernel_rfl)) (fun _ _ _ h=>h) (Or.inl ⟨by rfl,?_⟩) ?_ ?_;rotate_left
                       · intro w';go_simp;with_reducible rfl
                       rotate_left
                       · simp only [Act.put,List.setIfInBounds_toArray,List.set_cons_zero,List.set_cons_succ,i64_w,i32_w];rfl
                       refine pure_ (i:=10) (N:=some 6) (v:=?_) (a':=?_) ((bm true [11]).toArray) rfl rfl (any_of HT_.out (by kernel_rfl)) (fun _ _ _ h=>h) (Or.inl ⟨by rfl,?_⟩) ?_ ?_;rotate_left
                       · intro w';go_simp;with_reducible rfl
                       rotate_left
                       · simp only [Act.put,List.setIfInBounds_toArray,List.set_cons_zero,List.set_cons_succ,i64_w,i32_w];rfl
                       refine done_ (done_of HT_.out (by kernel_rfl)) ?_
                       have hnb53:=NB216_215.out
                       have hnc53:=NB215_216.out
                       obtain ⟨hcz54_0,hcz54_1,hcz54_2,hcz54_3,hcz54_4,hfz54_0,hfz54_1,hfz54_2,hfz54_3,hfz54_4⟩:=bcells5 BK216.out
                       try go_wp2_with (first|((with_reducible refine gate_callee (f:=73) rfl ?_);refine goesL_ (some 56) rfl rfl Try.func73 (by kernel_rfl) rfl #[.agg #[.int .i64 (wrap64 ((wrap64 ((wrap64 (rd l0 0))*256))+(wrap64 (rd l0 1)))),.int .i64 (wrap64 ((wrap64 ((wrap64 (rd l0 2))*256))+(wrap64 (rd l0 3)))),.int .i64 (wrap64 (rd l0 4)),.int .i64 (wrap64 (rd l0 5)),.slice none 0 0]] rfl (by (try simp only [List.map_toArray,List.map_cons,List.map_nil]);first|done|rfl|(simp only [List.length_drop,List.length_take];rfl)) ?_;(refine (dioramaref19_place.calls (wrap64 ((wrap64 ((wrap64 (rd l0 0))*256))+(wrap64 (rd l0 1)))) (wrap64 ((wrap64 ((wrap64 (rd l0 2))*256))+(wrap64 (rd l0 3)))) (wrap64 (rd l0 4)) (wrap64 (rd l0 5)) _ _ ([]:List Int) t225 _ ?side1 ?side2 A16.out).mono ?_);(case side1=>exact Kd.C_nil _ _);(case side2=>exact Nat.le_refl _);rintro e w55 ⟨rfl,hb⟩;refine ⟨_,rfl,?_⟩;have n0_:=Aside0.mk (blk_below (g:=gb215) (blkV BK215.out) hb);have n1_:=Aside0.mk (blk_below (g:=gb216) (blkV BK216.out) hb);have n2_:=Aside0.mk (below_step (belV2 HB.out GE215.out GE216.out) hb);clear BK215;clear BK216;clear HB;have BK215:=n0_;have BK216:=n1_;have HB:=n2_;clear n0_ n1_ n2_;(try clear hb);(try clear hb2);(try clear hk);(try clear hi)))
                       have n0_:=Aside0.mk (blk_drew BK215.out)
                       have n1_:=Aside0.mk (blk_drew BK216.out)
                       have n2_:=Aside0.mk (below_drew1 HB.out);clear BK215;clear BK216;clear HB;have BK215:=n0_;have BK216:=n1_;have HB:=n2_;clear n0_ n1_ n2_
                       have q57:((wrap64 (8+(wrap64 ((wrap64 ((wrap64 (rd l0 6))*256))+(wrap64 (rd l0 7)))))):Int)≤((l0.length:Int):Int):=of_decide_eq_true asV
                       obtain ⟨i057,hi057,_,hsz57,_⟩:=info_parts info5
                       have hroom57:l0.length≤c0:=HC0.out
                       have hC57:Kd.C (Kd.int .u8) _ (some ad217) l0.length l0:=HR0.out
                       have ql57:(8:Int)≤((wrap64 (8+(wrap64 ((wrap64 ((wrap64 (rd l0 6))*256))+(wrap64 (rd l0 7)))))):Int):=of_decide_eq_true asV
                       have hcut57:=cut_mid (P:=Try.prog) 23 5 .i64 .i64 Try.underlying23 hi057 1 hsz57 (some ad217) l0.length c0 8 (wrap64 (8+(wrap64 ((wrap64 ((wrap64 (rd l0 6))*256))+(wrap64 (rd l0 7)))))) (by omega) ql57 q57 hroom57
                       have hr57:=Kd.C_mid (lo:=(8:Int).toNat) (hi:=((wrap64 (8+(wrap64 ((wrap64 ((wrap64 (rd l0 6))*256))+(wrap64 (rd l0 7)))))):Int).toNat) (c:=c0) hC57 (by omega) (by omega) hroom57
                       obtain ⟨A57,hA57⟩:∃ A1,A1=(if c0=(8:Int).toNat then (some ad217) else ((some ad217):Option Addr).map (·.add ((8:Int).toNat*1))):=⟨_,rfl⟩
                       obtain ⟨c57,hc57⟩:∃ c1,c1=c0 - (8:Int).toNat:=⟨_,rfl⟩
                       have hy57:y226.length=((wrap64 (8+(wrap64 ((wrap64 ((wrap64 (rd l0 6))*256))+(wrap64 (rd l0 7)))))):Int).toNat - (8:Int).toNat:=(by rw [Ny226.out,List.length_drop,List.length_take] <;> omega)
                       rw [show ((l0).take ((wrap64 (8+(wrap64 ((wrap64 ((wrap64 (rd l0 6))*256))+(wrap64 (rd l0 7)))))):Int).toNat).drop (8:Int).toNat=y226 from Ny226.out.symm] at hr57
                       replace hr57:Kd.C (Kd.int .u8) _ A57 y226.length y226:=(by rw [hA57];exact hr57)
                       rw [← hy57,← hA57,← hc57] at hcut57
                       have HR229:=Aside0.mk hr57
                       have HC229:=Aside0.mk (show y226.length≤c57 from by rw [hy57,hc57];exact Nat.sub_le_sub_right (Nat.le_trans (by omega) hroom57) _);clear hr57 hC57 hroom57 hi057 hsz57 hc57
                       have KY57:=Aside0.mk hy57
                       have KA57:=Aside0.mk hA57;clear hy57 hA57
                       replace q57:=eq_true q57
                       refine start_ (n:=14) (S:=fun w'=>w'.cell? ⟨gb216,0,none⟩=some (.int .i64 (wrap64 ((wrap64 ((wrap64 (rd l0 0))*256))+(wrap64 (rd l0 1)))))∧w'.cell? ⟨gb216,1,none⟩=some (.int .i64 (wrap64 ((wrap64 ((wrap64 (rd l0 2))*256))+(wrap64 (rd l0 3)))))∧w'.cell? ⟨gb216,2,none⟩=some (.int .i64 (wrap64 (rd l0 4)))∧w'.cell? ⟨gb216,3,none⟩=some (.int .i64 (wrap64 (rd l0 5)))∧w'.cell? ⟨gb216,4,none⟩=some (.slice none 0 0)) (ds:=[]) ((bm false [14]).toArray) (by kernel_rfl) rfl rfl ⟨(blk_cell BK216.out 0).trans rfl,(blk_cell BK216.out 1).trans rfl,(blk_cell BK216.out 2).trans rfl,(blk_cell BK216.out 3).trans rfl,(blk_cell BK216.out 4).trans rfl⟩ (fun hHeld=>?_);refine with_tabW dioramaref19_patch.tab13 dioramaref19_patch.bits13 (fun HT_ HW_=>?_)
                       generalize w55.drew=w56 at BK215 BK216 HB HR229 hHeld ⊢
                       refine pure_ (i:=0) (N:=some 68) (v:=?_) (a':=?_) ((bm true [1,13]).toArray) rfl rfl (any_of HT_.out (by kernel_rfl)) (fun _ _ _ h=>h) (Or.inl ⟨by rfl,?_⟩) ?_ ?_;rotate_left
                       · intro w';go_simp;with_reducible rfl
                       rotate_left
                       · simp only [Act.put,List.setIfInBounds_toArray,List.set_cons_zero,List.set_cons_succ,i64_w,i32_w];rfl
                       refine pure_ (i:=1) (N:=some 69) (v:=?_) (a':=?_) ((bm true [2,12]).toArray) rfl rfl (any_of HT_.out (by kernel_rfl)) (fun _ _ _ h=>h) (Or.inl ⟨by rfl,?_⟩) ?_ ?_;rotate_left
                       · intro w';go_simp;with_reducible rfl
                       rotate_left
                       · simp only [Act.put,List.setIfInBounds_toArray,List.set_cons_zero,List.set_cons_succ,i64_w,i32_w];rfl
                       refine pure_ (i:=2) (N:=some 70) (v:=?_) (a':=?_) ((bm true [3,11]).toArray) rfl rfl (any_of HT_.out (by kernel_rfl)) (fun _ _ _ h=>h) (Or.inl ⟨by rfl,?_⟩) ?_ ?_;rotate_left
                       · intro w';go_simp;with_reducible rfl
                       rotate_left
                       · simp only [Act.put,List.setIfInBounds_toArray,List.set_cons_zero,List.set_cons_succ,i64_w,i32_w];rfl
                       refine pure_ (i:=3) (N:=some 71) (v:=?_) (a':=?_) ((bm true [4,10]).toArray) rfl rfl (any_of HT_.out (by kernel_rfl)) (fun _ _ _ h=>h) (Or.inl ⟨by rfl,?_⟩) ?_ ?_;rotate_left
                       · intro w';go_simp;with_reducible rfl
                       rotate_left
                       · simp only [Act.put,List.setIfInBounds_toArray,List.set_cons_zero,List.set_cons_succ,i64_w,i32_w];rfl
                       refine pure_ (i:=4) (N:=some 72) (v:=?_) (a':=?_) ((bm true [5,9]).toArray) rfl rfl (any_of HT_.out (by kernel_rfl)) (fun _ _ _ h=>h) (Or.inl ⟨by rfl,?_⟩) ?_ ?_;rotate_left
                       · intro w';go_simp;with_reducible rfl
                       rotate_left
                       · simp only [Act.put,List.setIfInBounds_toArray,List.set_cons_zero,List.set_cons_succ,i64_w,i32_w];rfl
                       refine pure_ (i:=6) (N:=some 74) (v:=?_) (a':=?_) ((bm true [5,1,1,7]).toArray) rfl rfl (any_of HT_.out (by kernel_rfl)) (fun _ _ _ h=>h) (Or.inl ⟨by rfl,?_⟩) ?_ ?_;rotate_left
                       · intro w';go_simp;with_reducible rfl
                       rotate_left
                       · simp only [Act.put,List.setIfInBounds_toArray,List.set_cons_zero,List.set_cons_succ,i64_w,i32_w];rfl
                       refine take_ (i:=5) (N:=some 73) (v:=?_) (a':=?_) ((bm true [7,7]).toArray) rfl rfl (take_ofW HT_.out HW_.out (by kernel_rfl)) (fun _ _ _ h=>h) (Or.inl ⟨by rfl,?_⟩) hHeld ?_ ?_;rotate_left
                       · rintro w' ⟨s0,s1,s2,s3,s4⟩
                         go_simp;with_reducible rfl
                       rotate_left
                       · simp only [Act.put,List.setIfInBounds_toArray,List.set_cons_zero,List.set_cons_succ,i64_w,i32_w];rfl
                       refine take_ (i:=7) (N:=some 75) (v:=?_) (a':=?_) ((bm true [8,6]).toArray) rfl rfl (take_ofW HT_.out HW_.out (by kernel_rfl)) (fun _ _ _ h=>h) (Or.inl ⟨by rfl,?_⟩) hHeld ?_ ?_;rotate_left
                       · rintro w' ⟨s0,s1,s2,s3,s4⟩
                         go_simp;with_reducible rfl
                       rotate_left
                       · simp only [Act.put,List.setIfInBounds_toArray,List.set_cons_zero,List.set_cons_succ,i64_w,i32_w];rfl
                       refine one_ (i:=8) (N:=some 76) ((bm true [9,5]).toArray) rfl rfl (one_of HT_.out (by kernel_rfl)) (by decide) (fun K hK=>?_)
                       refine goes_ Try.func16 (by kernel_rfl) rfl #[.slice A57 y226.length c57,.int .i64 (wrap64 (rd l0 4)),.int .i64 (wrap64 (rd l0 5))] (by rfl) rfl rfl (by (try simp only [List.map_toArray,List.map_cons,List.map_nil]);first|done|rfl|(simp only [List.length_drop,List.length_take];rfl)) ?_
                       with_reducible refine (dioramaref19_Pixels.calls k _ _ y226 (wrap64 (rd l0 4)) (wrap64 (rd l0 5)) t230 t231 _ ?side1 ?side2 A39.out).mono ?_
                       (case side1=>exact cV (Kd.C_below HR229.out HB.out))
                       (case side2=>exact HC229.out)
                       rintro e w58 ⟨v232,rfl,ho0,hb⟩
                       refine ⟨_,rfl,?_⟩
                       have n0_:=Aside0.mk (Kd.R_lower ho0 (below_size (belV2 HB.out GE215.out GE216.out)))
                       have n1_:=Aside0.mk (blk_below (g:=gb215) (blkV BK215.out) hb)
                       have n2_:=Aside0.mk (blk_below (g:=gb216) (blkV BK216.out) hb)
                       have n3_:=Aside0.mk (below_step (belV2 HB.out GE215.out GE216.out) hb);clear BK215;clear BK216;clear HB;have HO233:=n0_;have BK215:=n1_;have BK216:=n2_;have HB:=n3_;clear n0_ n1_ n2_ n3_
                       (try clear hb)
                       (try clear hb2)
                       (try clear hk)
                       (try clear hi)
                       (try clear ho0)
                       refine hK.out _ _ ⟨(blk_cell BK216.out 0).trans rfl,(blk_cell BK216.out 1).trans rfl,(blk_cell BK216.out 2).trans rfl,(blk_cell BK216.out 3).trans rfl,(blk_cell BK216.out 4).trans rfl⟩ (fun hHeld=>?_);clear hK K
                       refine norm_ (a':=?_) ?_ ?_;rotate_left
                       · show Act.put _ (some 76) _=_
                         simp only [Act.put,List.setIfInBounds_toArray,List.set_cons_zero,List.set_cons_succ,i64_w,i32_w];rfl
                       refine pure_ (i:=9) (N:=some 67) (v:=?_) (a':=?_) ((bm true [10,4]).toArray) rfl rfl (any_of HT_.out (by kernel_rfl)) (fun _ _ _ h=>h) (Or.inl ⟨by rfl,?_⟩) ?_ ?_;rotate_left
                       · intro w';go_simp;with_reducible rfl
                       rotate_left
                       · simp only [Act.put,List.setIfInBounds_toArray,List.set_cons_zero,List.set_cons_succ,i64_w,i32_w];rfl
                       refine pure_ (i:=10) (N:=some 77) (v:=?_) (a':=?_) ((bm true [11,3]).toArray) rfl rfl (any_of HT_.out (by kernel_rfl)) (fun _ _ _ h=>h) (Or.inl ⟨by rfl,?_⟩) ?_ ?_;rotate_left
                       · intro w';go_simp;with_reducible rfl
                       rotate_left
                       · simp only [Act.put,List.setIfInBounds_toArray,List.set_cons_zero,List.set_cons_succ,i64_w,i32_w];rfl
                       refine pure_ (i:=11) (N:=some 78) (v:=?_) (a':=?_) ((bm true [12,2]).toArray) rfl rfl (any_of HT_.out (by kernel_rfl)) (fun _ _ _ h=>h) (Or.inl ⟨by rfl,?_⟩) ?_ ?_;rotate_left
                       · intro w';go_simp;with_reducible rfl
                       rotate_left
                       · simp only [Act.put,List.setIfInBounds_toArray,List.set_cons_zero,List.set_cons_succ,i64_w,i32_w];rfl
                       refine pure_ (i:=12) (N:=some 8) (v:=?_) (a':=?_) ((bm true [13,1]).toArray) rfl rfl (any_of HT_.out (by kernel_rfl)) (fun _ _ _ h=>h) (Or.inl ⟨by rfl,?_⟩) ?_ ?_;rotate_left
                       · intro w';go_simp;with_reducible rfl
                       rotate_left
                       · simp only [Act.put,List.setIfInBounds_toArray,List.set_cons_zero,List.set_cons_succ,i64_w,i32_w];rfl
                       refine pure_ (i:=13) (N:=some 7) (v:=?_) (a':=?_) ((bm true [14]).toArray) rfl rfl (any_of HT_.out (by kernel_rfl)) (fun _ _ _ h=>h) (Or.inl ⟨by rfl,?_⟩) ?_ ?_;rotate_left
                       · intro w';go_simp;with_reducible rfl
                       rotate_left
                       · simp only [Act.put,List.setIfInBounds_toArray,List.set_cons_zero,List.set_cons_succ,i64_w,i32_w];rfl
                       refine done_ (done_of HT_.out (by kernel_rfl)) ?_
                       obtain ⟨Ao59,co59,eo59⟩:=Kd.R_slice HO233.out;subst eo59
                       obtain ⟨hcz60_0,hcz60_1,hcz60_2,hcz60_3,hcz60_4,hfz60_0,hfz60_1,hfz60_2,hfz60_3,hfz60_4⟩:=bcells5 BK216.out
                       obtain ⟨hcz61_0,hcz61_1,hcz61_2,hcz61_3,hcz61_4,hfz61_0,hfz61_1,hfz61_2,hfz61_3,hfz61_4⟩:=bcells5 BK215.out
                       try go_wp2
                       refine bodyPost_ret (results_ctt rfl _ _ gb215 91 #[.int .i64 (wrap64 ((wrap64 ((wrap64 (rd l0 0))*256))+(wrap64 (rd l0 1)))),.int .i64 (wrap64 ((wrap64 ((wrap64 (rd l0 2))*256))+(wrap64 (rd l0 3)))),.int .i64 (wrap64 (rd l0 4)),.int .i64 (wrap64 (rd l0 5)),.slice Ao59 t230.length co59] (0,0) _ rfl (by (with_reducible repeat (first|refine blk_drewN ?_ _|refine blk_drew ?_|refine blk_alloc ?_ _));refine blk_put (cs:=#[.int .i64 (wrap64 ((wrap64 ((wrap64 (rd l0 0))*256))+(wrap64 (rd l0 1)))),.int .i64 (wrap64 ((wrap64 ((wrap64 (rd l0 2))*256))+(wrap64 (rd l0 3)))),.int .i64 (wrap64 (rd l0 4)),.int .i64 (wrap64 (rd l0 5)),.slice none 0 0]) ?_ 4 _ rfl;(with_reducible repeat (first|refine blk_drewN ?_ _|refine blk_drew ?_|refine blk_alloc ?_ _));refine blk_put (cs:=#[.int .i64 (wrap64 ((wrap64 ((wrap64 (rd l0 0))*256))+(wrap64 (rd l0 1)))),.int .i64 (wrap64 ((wrap64 ((wrap64 (rd l0 2))*256))+(wrap64 (rd l0 3)))),.int .i64 (wrap64 (rd l0 4)),.int .i64 0,.slice none 0 0]) ?_ 3 _ rfl;(with_reducible repeat (first|refine blk_drewN ?_ _|refine blk_drew ?_|refine blk_alloc ?_ _));refine blk_put (cs:=#[.int .i64 (wrap64 ((wrap64 ((wrap64 (rd l0 0))*256))+(wrap64 (rd l0 1)))),.int .i64 (wrap64 ((wrap64 ((wrap64 (rd l0 2))*256))+(wrap64 (rd l0 3)))),.int .i64 0,.int .i64 0,.slice none 0 0]) ?_ 2 _ rfl;(with_reducible repeat (first|refine blk_drewN ?_ _|refine blk_drew ?_|refine blk_alloc ?_ _));refine blk_put (cs:=#[.int .i64 (wrap64 ((wrap64 ((wrap64 (rd l0 0))*256))+(wrap64 (rd l0 1)))),.int .i64 0,.int .i64 0,.int .i64 0,.slice none 0 0]) ?_ 1 _ rfl;(with_reducible repeat (first|refine blk_drewN ?_ _|refine blk_drew ?_|refine blk_alloc ?_ _));refine blk_put (cs:=#[.int .i64 0,.int .i64 0,.int .i64 0,.int .i64 0,.slice none 0 0]) ?_ 0 _ rfl;(with_reducible repeat (first|refine blk_drewN ?_ _|refine blk_drew ?_|refine blk_alloc ?_ _));refine blk_far ?_ NB215_216.out _;(with_reducible repeat (first|refine blk_drewN ?_ _|refine blk_drew ?_|refine blk_alloc ?_ _));exact BK215.out) Try.underlying91 rfl (by kernel_rfl)) rfl ?_
                       exact ⟨_,by first|rfl|(simp [errW_none,errW_some] <;> rfl)|(simp [*,errW_none,errW_some] <;> rfl),by (with_reducible repeat (first|apply Kd.R_alloc|apply Kd.R_drewN|apply Kd.R_drew));exact Kd.R_mono (Kd.R_far (p:=⟨gb215,4,none⟩) (Kd.R_far (p:=⟨gb215,3,none⟩) (Kd.R_far (p:=⟨gb215,2,none⟩) (Kd.R_far (p:=⟨gb215,1,none⟩) (Kd.R_far (p:=⟨gb215,0,none⟩) (Kd.R_far (p:=⟨gb216,4,none⟩) (Kd.R_types (Kd.R_types HO233.out BK216.out (by decide)) BK215.out (by decide)) (fun _ hk=>hk.1.2) (.slice Ao59 t230.length co59)) (fun _ hk=>hk.2) (.int .i64 (wrap64 ((wrap64 ((wrap64 (rd l0 0))*256))+(wrap64 (rd l0 1)))))) (fun _ hk=>hk.2) (.int .i64 (wrap64 ((wrap64 ((wrap64 (rd l0 2))*256))+(wrap64 (rd l0 3)))))) (fun _ hk=>hk.2) (.int .i64 (wrap64 (rd l0 4)))) (fun _ hk=>hk.2) (.int .i64 (wrap64 (rd l0 5)))) (fun _ hk=>hk.2) (.slice Ao59 t230.length co59)) (fun _ hk=>trivial),by repeat (first|(with_reducible first|exact HB.out|apply below_alloc|apply pw_below_drewN|apply below_drew1|refine below_set ?_ GE215.out|refine below_set ?_ GE216.out)|exact HB.out)⟩
                     rw [if_neg c38] at H
                     exact absurd H (by simp)
                   rw [if_neg c37] at H
                   exact absurd H (by simp)
                 rw [if_neg c17] at H
                 have c17b0:(t225 == 0)=false:=beq_eq_false_iff_ne.mpr c17
                 have c17b1:(t225 != 0)=true:=bne_iff_ne.mpr c17
                 simp only [Option.some.injEq,Prod.mk.injEq] at H
                 obtain ⟨rfl,rfl,rfl,rfl,rfl,rfl,rfl⟩:=H
                 go_enter Try.func62,Try.ntmps62
                 try go_wp2_with (first|((with_reducible refine gate_dst (N:=2) rfl ?_);refine box_event ?hg (N:=2) ?hd (cs:=#[.int .i64 0,.int .i64 0,.int .i64 0,.int .i64 0,.slice none 0 0]) (t:=91) ?hr ?_;(case hd=>rfl);(case hg=>rfl);(case hr=>first|(go_simp;done)|(go_simp;rfl));intro gb215 hg w62 hbox hb;have n0_:=Aside0.mk (below_step (belV HB.out) hb);have n1_:=Aside0.mk (hbox);have n2_:=Aside0.mk ((by rw [hg];exact (below_size (belV HB.out)):w.heap.size≤gb215));have n3_:=Aside0.mk ((by rw [hg];exact (below_size (belV HB.out)):w.heap.size≤gb215));clear HB;have HB:=n0_;have BK215:=n1_;have GW215:=n2_;have GE215:=n3_;clear n0_ n1_ n2_ n3_;clear hb hbox hg)|((with_reducible refine gate_dst (N:=5) rfl ?_);refine box_event ?hg (N:=5) ?hd (cs:=#[.int .i64 0,.int .i64 0,.int .i64 0,.int .i64 0,.slice none 0 0]) (t:=91) ?hr ?_;(case hd=>rfl);(case hg=>rfl);(case hr=>first|(go_simp;done)|(go_simp;rfl));intro gb216 hg w63 hbox hb;have n0_:=Aside0.mk (blk_below (g:=gb215) (blkV BK215.out) hb);have n1_:=Aside0.mk (below_step (belV1 HB.out GE215.out) hb);have n2_:=Aside0.mk (hbox);have n3_:=Aside0.mk ((by rw [hg];exact (below_size (belV1 HB.out GE215.out)):w.heap.size≤gb216));have n4_:=Aside0.mk ((by rw [hg];exact (below_size (belV1 HB.out GE215.out)):w.heap.size≤gb216));have n5_:=Aside0.mk ((by rw [hg];exact Nat.ne_of_lt (blk_lt (g:=gb215) (blkV BK215.out)):gb215≠gb216));have n6_:=Aside0.mk ((by rw [hg];exact Nat.ne_of_gt (blk_lt (g:=gb215) (blkV BK215.out)):gb216≠gb215));clear BK215;clear HB;have BK215:=n0_;have HB:=n1_;have BK216:=n2_;have GW216:=n3_;have GE216:=n4_;have NB215_216:=n5_;have NB216_215:=n6_;clear n0_ n1_ n2_ n3_ n4_ n5_ n6_;clear hb hbox hg))
                 have n0_:=Aside0.mk (blk_drew BK215.out)
                 have n1_:=Aside0.mk (blk_drew BK216.out)
                 have n2_:=Aside0.mk (below_drew1 HB.out);clear BK215;clear BK216;clear HB;have BK215:=n0_;have BK216:=n1_;have HB:=n2_;clear n0_ n1_ n2_
                 have p217:0≤(0:Int):=(by omega)
                 have q217:0 < (l0.length:Int):=of_decide_eq_true asV
                 obtain ⟨ad217,e217,hx217_0⟩:=Kd.at_int HR0.out 0 p217 q217
                 have hw217_0:=hx217_0
                 (try rw [show ((0:Int)).toNat=0 from rfl] at hw217_0)
                 (try rw [show 0*1=0 from rfl] at hw217_0)
                 (try rw [Addr.add_zero'] at hw217_0)
                 cases e217
                 have qi217:(0 < l0.length)=True:=eq_true (by omega)
                 (try rw [show ((0:Int)).toNat=0 from rfl] at hx217_0)
                 (try rw [Addr.add_zero'] at hx217_0)
                 replace hx217_0:=(HB.out.cell (World.block_lt_of_cell? w _ hx217_0)).trans hx217_0
                 replace p217:=eq_true p217
                 replace q217:=eq_true q217
                 have p218:0≤(1:Int):=(by omega)
                 have q218:1 < (l0.length:Int):=of_decide_eq_true asV
                 obtain ⟨ad218,e218,hx218_0⟩:=Kd.at_int HR0.out 1 p218 q218
                 have hw218_0:=hx218_0
                 (try rw [show ((1:Int)).toNat=1 from rfl] at hw218_0)
                 (try rw [show 1*1=1 from rfl] at hw218_0)
                 (try simp only [Nat.reduceMul,Nat.reduceEqDiff,Go.Addr.add,↓reduceIte] at hw218_0)
                 obtain rfl:ad217=ad218:=(by injection e218)
                 (try simp only [show (1:Int).toNat=1 from rfl,Nat.reduceMul,Nat.reduceEqDiff,Go.Addr.add,↓reduceIte] at hx218_0)
                 have qi218:(1 < l0.length)=True:=eq_true (by omega)
                 (try rw [show ((1:Int)).toNat=1 from rfl] at hx218_0)
                 replace hx218_0:=(HB.out.cell (World.block_lt_of_cell? w _ hx218_0)).trans hx218_0
                 replace p218:=eq_true p218
                 replace q218:=eq_true q218
                 refine start_ (n:=12) (S:=fun w'=>w'.cell? ad217=some (.int .u8 (rd l0 0))∧w'.cell? ⟨ad217.block,ad217.off+1,none⟩=some (.int .u8 (rd l0 1))) (ds:=[]) ((bm false [12]).toArray) (by kernel_rfl) rfl rfl ⟨((HB.out.cell (World.block_lt_of_cell? w _ hw217_0)).trans hw217_0),((HB.out.cell (World.block_lt_of_cell? w _ hw218_0)).trans hw218_0)⟩ (fun hHeld=>?_);refine with_tabW dioramaref19_patch.tab4 dioramaref19_patch.bits4 (fun HT_ HW_=>?_)
                 generalize w63.drew=w64 at BK215 BK216 HB hx217_0 hx218_0 hHeld ⊢
                 refine pure_ (i:=0) (N:=some 13) (v:=?_) (a':=?_) ((bm true [1,11]).toArray) rfl rfl (any_of HT_.out (by kernel_rfl)) (fun _ _ _ h=>h) (Or.inl ⟨by rfl,?_⟩) ?_ ?_;rotate_left
                 · intro w';go_simp;with_reducible rfl
                 rotate_left
                 · simp only [Act.put,List.setIfInBounds_toArray,List.set_cons_zero,List.set_cons_succ,i64_w,i32_w];rfl
                 refine pure_ (i:=1) (N:=some 14) (v:=?_) (a':=?_) ((bm true [2,10]).toArray) rfl rfl (any_of HT_.out (by kernel_rfl)) (fun _ _ _ h=>h) (Or.inl ⟨by rfl,?_⟩) ?_ ?_;rotate_left
                 · intro w';go_simp;with_reducible rfl
                 rotate_left
                 · simp only [Act.put,List.setIfInBounds_toArray,List.set_cons_zero,List.set_cons_succ,i64_w,i32_w];rfl
                 refine pure_ (i:=5) (N:=some 18) (v:=?_) (a':=?_) ((bm true [2,3,1,6]).toArray) rfl rfl (any_of HT_.out (by kernel_rfl)) (fun _ _ _ h=>h) (Or.inl ⟨by rfl,?_⟩) ?_ ?_;rotate_left
                 · intro w';go_simp;with_reducible rfl
                 rotate_left
                 · simp only [Act.put,List.setIfInBounds_toArray,List.set_cons_zero,List.set_cons_succ,i64_w,i32_w];rfl
                 refine pure_ (i:=6) (N:=some 19) (v:=?_) (a':=?_) ((bm true [2,3,2,5]).toArray) rfl rfl (any_of HT_.out (by kernel_rfl)) (fun _ _ _ h=>h) (Or.inl ⟨by rfl,?_⟩) ?_ ?_;rotate_left
                 · intro w';go_simp;with_reducible rfl
                 rotate_left
                 · simp only [Act.put,List.setIfInBounds_toArray,List.set_cons_zero,List.set_cons_succ,i64_w,i32_w];rfl
                 refine take_ (i:=2) (N:=some 15) (v:=?_) (a':=?_) ((bm true [3,2,2,5]).toArray) rfl rfl (take_ofW HT_.out HW_.out (by kernel_rfl)) (fun _ _ _ h=>h) (Or.inl ⟨by rfl,?_⟩) hHeld ?_ ?_;rotate_left
                 · rintro w' ⟨s0,s1⟩
                   go_simp;with_reducible rfl
                 rotate_left
                 · simp only [Act.put,List.setIfInBounds_toArray,List.set_cons_zero,List.set_cons_succ,i64_w,i32_w];rfl
                 refine pure_ (i:=3) (N:=some 16) (v:=?_) (a':=?_) ((bm true [4,1,2,5]).toArray) rfl rfl (any_of HT_.out (by kernel_rfl)) (fun _ _ _ h=>h) (Or.inl ⟨by rfl,?_⟩) ?_ ?_;rotate_left
                 · intro w';go_simp;with_reducible rfl
                 rotate_left
                 · simp only [Act.put,List.setIfInBounds_toArray,List.set_cons_zero,List.set_cons_succ,i64_w,i32_w];rfl
                 refine pure_ (i:=4) (N:=some 17) (v:=?_) (a':=?_) ((bm true [7,5]).toArray) rfl rfl (any_of HT_.out (by kernel_rfl)) (fun _ _ _ h=>h) (Or.inl ⟨by rfl,?_⟩) ?_ ?_;rotate_left
                 · intro w';go_simp;with_reducible rfl
                 rotate_left
                 · simp only [Act.put,List.setIfInBounds_toArray,List.set_cons_zero,List.set_cons_succ,i64_w,i32_w];rfl
                 refine take_ (i:=7) (N:=some 20) (v:=?_) (a':=?_) ((bm true [8,4]).toArray) rfl rfl (take_ofW HT_.out HW_.out (by kernel_rfl)) (fun _ _ _ h=>h) (Or.inl ⟨by rfl,?_⟩) hHeld ?_ ?_;rotate_left
                 · rintro w' ⟨s0,s1⟩
                   go_simp;with_reducible rfl
                 rotate_left
                 · simp only [Act.put,List.setIfInBounds_toArray,List.set_cons_zero,List.set_cons_succ,i64_w,i32_w];rfl
                 refine pure_ (i:=8) (N:=some 21) (v:=?_) (a':=?_) ((bm true [9,3]).toArray) rfl rfl (any_of HT_.out (by kernel_rfl)) (fun _ _ _ h=>h) (Or.inl ⟨by rfl,?_⟩) ?_ ?_;rotate_left
                 · intro w';go_simp;with_reducible rfl
                 rotate_left
                 · simp only [Act.put,List.setIfInBounds_toArray,List.set_cons_zero,List.set_cons_succ,i64_w,i32_w];rfl
                 refine pure_ (i:=9) (N:=some 22) (v:=?_) (a':=?_) ((bm true [10,2]).toArray) rfl rfl (any_of HT_.out (by kernel_rfl)) (fun _ _ _ h=>h) (Or.inl ⟨by rfl,?_⟩) ?_ ?_;rotate_left
                 · intro w';go_simp;with_reducible rfl
                 rotate_left
                 · simp only [Act.put,List.setIfInBounds_toArray,List.set_cons_zero,List.set_cons_succ,i64_w,i32_w];rfl
                 refine pure_ (i:=10) (N:=some 23) (v:=?_) (a':=?_) ((bm true [11,1]).toArray) rfl rfl (any_of HT_.out (by kernel_rfl)) (fun _ _ _ h=>h) (Or.inl ⟨by rfl,?_⟩) ?_ ?_;rotate_left
                 · intro w';go_simp;with_reducible rfl
                 rotate_left
                 · simp only [Act.put,List.setIfInBounds_toArray,List.set_cons_zero,List.set_cons_succ,i64_w,i32_w];rfl
                 refine one_ (i:=11) (N:=none) ((bm true [12]).toArray) rfl rfl (one_of HT_.out (by kernel_rfl)) (by decide) (fun K hK=>?_)
                 have hs65:w64.cell? ⟨gb216,0,none⟩=some (.int .i64 0):=(blk_cell BK216.out 0).trans rfl
                 have hfs65:=blk_frozen BK216.out 0
                 have hns65_0:=NB215_216.out
                 have hms65_0:=NB216_215.out
                 refine skip_ (w1:=?_) (by rfl) rfl ?_ ?_;rotate_left
                 · go_simp;rfl
                 refine hK.out _ _ ⟨((cell_far (p:=⟨gb216,_,none⟩) (by first|exact Nat.ne_of_lt (Nat.lt_of_lt_of_le (by have:=World.block_lt_of_cell? _ _ hw217_0;first|rwa [add_block] at this|exact this) GW216.out)|(rw [add_block];exact Nat.ne_of_lt (Nat.lt_of_lt_of_le (by have:=World.block_lt_of_cell? _ _ hw217_0;first|rwa [add_block] at this|exact this) GW216.out))|(show (Addr.add _ _).block≠_;rw [add_block];exact Nat.ne_of_lt (Nat.lt_of_lt_of_le (by have:=World.block_lt_of_cell? _ _ hw217_0;first|rwa [add_block] at this|exact this) GW216.out))|(dsimp only;exact Nat.ne_of_lt (Nat.lt_of_lt_of_le (by have:=World.block_lt_of_cell? _ _ hw217_0;first|rwa [add_block] at this|exact this) GW216.out))) _).trans (hHeld.1)),((cell_far (p:=⟨gb216,_,none⟩) (by first|exact Nat.ne_of_lt (Nat.lt_of_lt_of_le (by have:=World.block_lt_of_cell? _ _ hw218_0;first|rwa [add_block] at this|exact this) GW216.out)|(rw [add_block];exact Nat.ne_of_lt (Nat.lt_of_lt_of_le (by have:=World.block_lt_of_cell? _ _ hw218_0;first|rwa [add_block] at this|exact this) GW216.out))|(show (Addr.add _ _).block≠_;rw [add_block];exact Nat.ne_of_lt (Nat.lt_of_lt_of_le (by have:=World.block_lt_of_cell? _ _ hw218_0;first|rwa [add_block] at this|exact this) GW216.out))|(dsimp only;exact Nat.ne_of_lt (Nat.lt_of_lt_of_le (by have:=World.block_lt_of_cell? _ _ hw218_0;first|rwa [add_block] at this|exact this) GW216.out))) _).trans (hHeld.2))⟩ (fun hHeld=>?_)
                 clear hK K
                 refine done_ (done_of HT_.out (by kernel_rfl)) ?_
                 try go_wp2_with fail
                 have n0_:Aside0 ((w64.setCell ⟨gb216,0,none⟩ (.int .i64 (wrap64 ((wrap64 ((wrap64 (rd l0 0))*256))+(wrap64 (rd l0 1)))))).heap[gb215]?=some (.cells #[.int .i64 0,.int .i64 0,.int .i64 0,.int .i64 0,.slice none 0 0] 91 (0,0))):=⟨blkW BK215.out NB215_216.out⟩
                 have n1_:Aside0 ((w64.setCell ⟨gb216,0,none⟩ (.int .i64 (wrap64 ((wrap64 ((wrap64 (rd l0 0))*256))+(wrap64 (rd l0 1)))))).heap[gb216]?=some (.cells #[.int .i64 (wrap64 ((wrap64 ((wrap64 (rd l0 0))*256))+(wrap64 (rd l0 1)))),.int .i64 0,.int .i64 0,.int .i64 0,.slice none 0 0] 91 (0,0))):=⟨by (with_reducible repeat (first|refine blk_drewN ?_ _|refine blk_drew ?_|refine blk_alloc ?_ _));refine blk_put (cs:=#[.int .i64 0,.int .i64 0,.int .i64 0,.int .i64 0,.slice none 0 0]) ?_ 0 _ rfl;(with_reducible repeat (first|refine blk_drewN ?_ _|refine blk_drew ?_|refine blk_alloc ?_ _));exact BK216.out⟩
                 have n2_:Aside0 (Below w.heap.size w (w64.setCell ⟨gb216,0,none⟩ (.int .i64 (wrap64 ((wrap64 ((wrap64 (rd l0 0))*256))+(wrap64 (rd l0 1))))))):=⟨belV2 HB.out GE215.out GE216.out⟩
                 (try clear BK215)
                 (try clear BK216)
                 (try clear HB)
                 generalize (w64.setCell ⟨gb216,0,none⟩ (.int .i64 (wrap64 ((wrap64 ((wrap64 (rd l0 0))*256))+(wrap64 (rd l0 1))))))=w66 at n0_ n1_ n2_ ⊢
                 have BK215:=n0_;have BK216:=n1_;have HB:=n2_;clear n0_ n1_ n2_
                 have n0_:=Aside0.mk (blk_drew BK215.out)
                 have n1_:=Aside0.mk (blk_drew BK216.out)
                 have n2_:=Aside0.mk (below_drew1 HB.out);clear BK215;clear BK216;clear HB;have BK215:=n0_;have BK216:=n1_;have HB:=n2_;clear n0_ n1_ n2_
                 have p219:0≤(2:Int):=(by omega)
                 have q219:2 < (l0.length:Int):=of_decide_eq_true asV
                 obtain ⟨ad219,e219,hx219_0⟩:=Kd.at_int HR0.out 2 p219 q219
                 have hw219_0:=hx219_0
                 (try rw [show ((2:Int)).toNat=2 from rfl] at hw219_0)
                 (try rw [show 2*1=2 from rfl] at hw219_0)
                 (try simp only [Nat.reduceMul,Nat.reduceEqDiff,Go.Addr.add,↓reduceIte] at hw219_0)
                 obtain rfl:ad217=ad219:=(by injection e219)
                 (try simp only [show (2:Int).toNat=2 from rfl,Nat.reduceMul,Nat.reduceEqDiff,Go.Addr.add,↓reduceIte] at hx219_0)
                 have qi219:(2 < l0.length)=True:=eq_true (by omega)
                 (try rw [show ((2:Int)).toNat=2 from rfl] at hx219_0)
                 replace hx219_0:=(HB.out.cell (World.block_lt_of_cell? w _ hx219_0)).trans hx219_0
                 replace p219:=eq_true p219
                 replace q219:=eq_true q219
                 have p220:0≤(3:Int):=(by omega)
                 have q220:3 < (l0.length:Int):=of_decide_eq_true asV
                 obtain ⟨ad220,e220,hx220_0⟩:=Kd.at_int HR0.out 3 p220 q220
                 have hw220_0:=hx220_0
                 (try rw [show ((3:Int)).toNat=3 from rfl] at hw220_0)
                 (try rw [show 3*1=3 from rfl] at hw220_0)
                 (try simp only [Nat.reduceMul,Nat.reduceEqDiff,Go.Addr.add,↓reduceIte] at hw220_0)
                 obtain rfl:ad217=ad220:=(by injection e220)
                 (try simp only [show (3:Int).toNat=3 from rfl,Nat.reduceMul,Nat.reduceEqDiff,Go.Addr.add,↓reduceIte] at hx220_0)
                 have qi220:(3 < l0.length)=True:=eq_true (by omega)
                 (try rw [show ((3:Int)).toNat=3 from rfl] at hx220_0)
                 replace hx220_0:=(HB.out.cell (World.block_lt_of_cell? w _ hx220_0)).trans hx220_0
                 replace p220:=eq_true p220
                 replace q220:=eq_true q220
                 refine start_ (n:=12) (S:=fun w'=>w'.cell? ⟨ad217.block,ad217.off+2,none⟩=some (.int .u8 (rd l0 2))∧w'.cell? ⟨ad217.block,ad217.off+3,none⟩=some (.int .u8 (rd l0 3))) (ds:=[]) ((bm false [12]).toArray) (by kernel_rfl) rfl rfl ⟨((HB.out.cell (World.block_lt_of_cell? w _ hw219_0)).trans hw219_0),((HB.out.cell (World.block_lt_of_cell? w _ hw220_0)).trans hw220_0)⟩ (fun hHeld=>?_);refine with_tabW dioramaref19_patch.tab5 dioramaref19_patch.bits5 (fun HT_ HW_=>?_)
                 generalize w66.drew=w67 at BK215 BK216 HB hx219_0 hx220_0 hHeld ⊢
                 refine pure_ (i:=0) (N:=some 24) (v:=?_) (a':=?_) ((bm true [1,11]).toArray) rfl rfl (any_of HT_.out (by kernel_rfl)) (fun _ _ _ h=>h) (Or.inl ⟨by rfl,?_⟩) ?_ ?_;rotate_left
                 · intro w';go_simp;with_reducible rfl
                 rotate_left
                 · simp only [Act.put,List.setIfInBounds_toArray,List.set_cons_zero,List.set_cons_succ,i64_w,i32_w];rfl
                 refine pure_ (i:=1) (N:=some 25) (v:=?_) (a':=?_) ((bm true [2,10]).toArray) rfl rfl (any_of HT_.out (by kernel_rfl)) (fun _ _ _ h=>h) (Or.inl ⟨by rfl,?_⟩) ?_ ?_;rotate_left
                 · intro w';go_simp;with_reducible rfl
                 rotate_left
                 · simp only [Act.put,List.setIfInBounds_toArray,List.set_cons_zero,List.set_cons_succ,i64_w,i32_w];rfl
                 refine pure_ (i:=5) (N:=some 29) (v:=?_) (a':=?_) ((bm true [2,3,1,6]).toArray) rfl rfl (any_of HT_.out (by kernel_rfl)) (fun _ _ _ h=>h) (Or.inl ⟨by rfl,?_⟩) ?_ ?_;rotate_left
                 · intro w';go_simp;with_reducible rfl
                 rotate_left
                 · simp only [Act.put,List.setIfInBounds_toArray,List.set_cons_zero,List.set_cons_succ,i64_w,i32_w];rfl
                 refine pure_ (i:=6) (N:=some 30) (v:=?_) (a':=?_) ((bm true [2,3,2,5]).toArray) rfl rfl (any_of HT_.out (by kernel_rfl)) (fun _ _ _ h=>h) (Or.inl ⟨by rfl,?_⟩) ?_ ?_;rotate_left
                 · intro w';go_simp;with_reducible rfl
                 rotate_left
                 · simp only [Act.put,List.setIfInBounds_toArray,List.set_cons_zero,List.set_cons_succ,i64_w,i32_w];rfl
                 refine take_ (i:=2) (N:=some 26) (v:=?_) (a':=?_) ((bm true [3,2,2,5]).toArray) rfl rfl (take_ofW HT_.out HW_.out (by kernel_rfl)) (fun _ _ _ h=>h) (Or.inl ⟨by rfl,?_⟩) hHeld ?_ ?_;rotate_left
                 · rintro w' ⟨s0,s1⟩
                   go_simp;with_reducible rfl
                 rotate_left
                 · simp only [Act.put,List.setIfInBounds_toArray,List.set_cons_zero,List.set_cons_succ,i64_w,i32_w];rfl
                 refine pure_ (i:=3) (N:=some 27) (v:=?_) (a':=?_) ((bm true [4,1,2,5]).toArray) rfl rfl (any_of HT_.out (by kernel_rfl)) (fun _ _ _ h=>h) (Or.inl ⟨by rfl,?_⟩) ?_ ?_;rotate_left
                 · intro w';go_simp;with_reducible rfl
                 rotate_left
                 · simp only [Act.put,List.setIfInBounds_toArray,List.set_cons_zero,List.set_cons_succ,i64_w,i32_w];rfl
                 refine pure_ (i:=4) (N:=some 28) (v:=?_) (a':=?_) ((bm true [7,5]).toArray) rfl rfl (any_of HT_.out (by kernel_rfl)) (fun _ _ _ h=>h) (Or.inl ⟨by rfl,?_⟩) ?_ ?_;rotate_left
                 · intro w';go_simp;with_reducible rfl
                 rotate_left
                 · simp only [Act.put,List.setIfInBounds_toArray,List.set_cons_zero,List.set_cons_succ,i64_w,i32_w];rfl
                 refine take_ (i:=7) (N:=some 31) (v:=?_) (a':=?_) ((bm true [8,4]).toArray) rfl rfl (take_ofW HT_.out HW_.out (by kernel_rfl)) (fun _ _ _ h=>h) (Or.inl ⟨by rfl,?_⟩) hHeld ?_ ?_;rotate_left
                 · rintro w' ⟨s0,s1⟩
                   go_simp;with_reducible rfl
                 rotate_left
                 · simp only [Act.put,List.setIfInBounds_toArray,List.set_cons_zero,List.set_cons_succ,i64_w,i32_w];rfl
                 refine pure_ (i:=8) (N:=some 32) (v:=?_) (a':=?_) ((bm true [9,3]).toArray) rfl rfl (any_of HT_.out (by kernel_rfl)) (fun _ _ _ h=>h) (Or.inl ⟨by rfl,?_⟩) ?_ ?_;rotate_left
                 · intro w';go_simp;with_reducible rfl
                 rotate_left
                 · simp only [Act.put,List.setIfInBounds_toArray,List.set_cons_zero,List.set_cons_succ,i64_w,i32_w];rfl
                 refine pure_ (i:=9) (N:=some 33) (v:=?_) (a':=?_) ((bm true [10,2]).toArray) rfl rfl (any_of HT_.out (by kernel_rfl)) (fun _ _ _ h=>h) (Or.inl ⟨by rfl,?_⟩) ?_ ?_;rotate_left
                 · intro w';go_simp;with_reducible rfl
                 rotate_left
                 · simp only [Act.put,List.setIfInBounds_toArray,List.set_cons_zero,List.set_cons_succ,i64_w,i32_w];rfl
                 refine pure_ (i:=10) (N:=some 34) (v:=?_) (a':=?_) ((bm true [11,1]).toArray) rfl rfl (any_of HT_.out (by kernel_rfl)) (fun _ _ _ h=>h) (Or.inl ⟨by rfl,?_⟩) ?_ ?_;rotate_left
                 · intro w';go_simp;with_reducible rfl
                 rotate_left
                 · simp only [Act.put,List.setIfInBounds_toArray,List.set_cons_zero,List.set_cons_succ,i64_w,i32_w];rfl
                 refine one_ (i:=11) (N:=none) ((bm true [12]).toArray) rfl rfl (one_of HT_.out (by kernel_rfl)) (by decide) (fun K hK=>?_)
                 have hs68:w67.cell? ⟨gb216,1,none⟩=some (.int .i64 0):=(blk_cell BK216.out 1).trans rfl
                 have hfs68:=blk_frozen BK216.out 1
                 have hns68_0:=NB215_216.out
                 have hms68_0:=NB216_215.out
                 refine skip_ (w1:=?_) (by rfl) rfl ?_ ?_;rotate_left
                 · go_simp;rfl
                 refine hK.out _ _ ⟨((cell_far (p:=⟨gb216,_,none⟩) (by first|exact Nat.ne_of_lt (Nat.lt_of_lt_of_le (by have:=World.block_lt_of_cell? _ _ hw219_0;first|rwa [add_block] at this|exact this) GW216.out)|(rw [add_block];exact Nat.ne_of_lt (Nat.lt_of_lt_of_le (by have:=World.block_lt_of_cell? _ _ hw219_0;first|rwa [add_block] at this|exact this) GW216.out))|(show (Addr.add _ _).block≠_;rw [add_block];exact Nat.ne_of_lt (Nat.lt_of_lt_of_le (by have:=World.block_lt_of_cell? _ _ hw219_0;first|rwa [add_block] at this|exact this) GW216.out))|(dsimp only;exact Nat.ne_of_lt (Nat.lt_of_lt_of_le (by have:=World.block_lt_of_cell? _ _ hw219_0;first|rwa [add_block] at this|exact this) GW216.out))) _).trans (hHeld.1)),((cell_far (p:=⟨gb216,_,none⟩) (by first|exact Nat.ne_of_lt (Nat.lt_of_lt_of_le (by have:=World.block_lt_of_cell? _ _ hw220_0;first|rwa [add_block] at this|exact this) GW216.out)|(rw [add_block];exact Nat.ne_of_lt (Nat.lt_of_lt_of_le (by have:=World.block_lt_of_cell? _ _ hw220_0;first|rwa [add_block] at this|exact this) GW216.out))|(show (Addr.add _ _).block≠_;rw [add_block];exact Nat.ne_of_lt (Nat.lt_of_lt_of_le (by have:=World.block_lt_of_cell? _ _ hw220_0;first|rwa [add_block] at this|exact this) GW216.out))|(dsimp only;exact Nat.ne_of_lt (Nat.lt_of_lt_of_le (by have:=World.block_lt_of_cell? _ _ hw220_0;first|rwa [add_block] at this|exact this) GW216.out))) _).trans (hHeld.2))⟩ (fun hHeld=>?_)
                 clear hK K
                 refine done_ (done_of HT_.out (by kernel_rfl)) ?_
                 try go_wp2_with fail
                 have n0_:Aside0 ((w67.setCell ⟨gb216,1,none⟩ (.int .i64 (wrap64 ((wrap64 ((wrap64 (rd l0 2))*256))+(wrap64 (rd l0 3)))))).heap[gb215]?=some (.cells #[.int .i64 0,.int .i64 0,.int .i64 0,.int .i64 0,.slice none 0 0] 91 (0,0))):=⟨blkW BK215.out NB215_216.out⟩
                 have n1_:Aside0 ((w67.setCell ⟨gb216,1,none⟩ (.int .i64 (wrap64 ((wrap64 ((wrap64 (rd l0 2))*256))+(wrap64 (rd l0 3)))))).heap[gb216]?=some (.cells #[.int .i64 (wrap64 ((wrap64 ((wrap64 (rd l0 0))*256))+(wrap64 (rd l0 1)))),.int .i64 (wrap64 ((wrap64 ((wrap64 (rd l0 2))*256))+(wrap64 (rd l0 3)))),.int .i64 0,.int .i64 0,.slice none 0 0] 91 (0,0))):=⟨by (with_reducible repeat (first|refine blk_drewN ?_ _|refine blk_drew ?_|refine blk_alloc ?_ _));refine blk_put (cs:=#[.int .i64 (wrap64 ((wrap64 ((wrap64 (rd l0 0))*256))+(wrap64 (rd l0 1)))),.int .i64 0,.int .i64 0,.int .i64 0,.slice none 0 0]) ?_ 1 _ rfl;(with_reducible repeat (first|refine blk_drewN ?_ _|refine blk_drew ?_|refine blk_alloc ?_ _));exact BK216.out⟩
                 have n2_:Aside0 (Below w.heap.size w (w67.setCell ⟨gb216,1,none⟩ (.int .i64 (wrap64 ((wrap64 ((wrap64 (rd l0 2))*256))+(wrap64 (rd l0 3))))))):=⟨belV2 HB.out GE215.out GE216.out⟩
                 (try clear BK215)
                 (try clear BK216)
                 (try clear HB)
                 generalize (w67.setCell ⟨gb216,1,none⟩ (.int .i64 (wrap64 ((wrap64 ((wrap64 (rd l0 2))*256))+(wrap64 (rd l0 3))))))=w69 at n0_ n1_ n2_ ⊢
                 have BK215:=n0_;have BK216:=n1_;have HB:=n2_;clear n0_ n1_ n2_
                 have n0_:=Aside0.mk (blk_drew BK215.out)
                 have n1_:=Aside0.mk (blk_drew BK216.out)
                 have n2_:=Aside0.mk (below_drew1 HB.out);clear BK215;clear BK216;clear HB;have BK215:=n0_;have BK216:=n1_;have HB:=n2_;clear n0_ n1_ n2_
                 have p221:0≤(4:Int):=(by omega)
                 have q221:4 < (l0.length:Int):=of_decide_eq_true asV
                 obtain ⟨ad221,e221,hx221_0⟩:=Kd.at_int HR0.out 4 p221 q221
                 have hw221_0:=hx221_0
                 (try rw [show ((4:Int)).toNat=4 from rfl] at hw221_0)
                 (try rw [show 4*1=4 from rfl] at hw221_0)
                 (try simp only [Nat.reduceMul,Nat.reduceEqDiff,Go.Addr.add,↓reduceIte] at hw221_0)
                 obtain rfl:ad217=ad221:=(by injection e221)
                 (try simp only [show (4:Int).toNat=4 from rfl,Nat.reduceMul,Nat.reduceEqDiff,Go.Addr.add,↓reduceIte] at hx221_0)
                 have qi221:(4 < l0.length)=True:=eq_true (by omega)
                 (try rw [show ((4:Int)).toNat=4 from rfl] at hx221_0)
                 replace hx221_0:=(HB.out.cell (World.block_lt_of_cell? w _ hx221_0)).trans hx221_0
                 replace p221:=eq_true p221
                 replace q221:=eq_true q221
                 have p222:0≤(5:Int):=(by omega)
                 have q222:5 < (l0.length:Int):=of_decide_eq_true asV
                 obtain ⟨ad222,e222,hx222_0⟩:=Kd.at_int HR0.out 5 p222 q222
                 have hw222_0:=hx222_0
                 (try rw [show ((5:Int)).toNat=5 from rfl] at hw222_0)
                 (try rw [show 5*1=5 from rfl] at hw222_0)
                 (try simp only [Nat.reduceMul,Nat.reduceEqDiff,Go.Addr.add,↓reduceIte] at hw222_0)
                 obtain rfl:ad217=ad222:=(by injection e222)
                 (try simp only [show (5:Int).toNat=5 from rfl,Nat.reduceMul,Nat.reduceEqDiff,Go.Addr.add,↓reduceIte] at hx222_0)
                 have qi222:(5 < l0.length)=True:=eq_true (by omega)
                 (try rw [show ((5:Int)).toNat=5 from rfl] at hx222_0)
                 replace hx222_0:=(HB.out.cell (World.block_lt_of_cell? w _ hx222_0)).trans hx222_0
                 replace p222:=eq_true p222
                 replace q222:=eq_true q222
                 refine start_ (n:=12) (S:=fun w'=>w'.cell? ⟨ad217.block,ad217.off+4,none⟩=some (.int .u8 (rd l0 4))∧w'.cell? ⟨ad217.block,ad217.off+5,none⟩=some (.int .u8 (rd l0 5))) (ds:=[]) ((bm false [12]).toArray) (by kernel_rfl) rfl rfl ⟨((HB.out.cell (World.block_lt_of_cell? w _ hw221_0)).trans hw221_0),((HB.out.cell (World.block_lt_of_cell? w _ hw222_0)).trans hw222_0)⟩ (fun hHeld=>?_);refine with_tabW dioramaref19_patch.tab6 dioramaref19_patch.bits6 (fun HT_ HW_=>?_)
                 generalize w69.drew=w70 at BK215 BK216 HB hx221_0 hx222_0 hHeld ⊢
                 refine pure_ (i:=0) (N:=some 35) (v:=?_) (a':=?_) ((bm true [1,11]).toArray) rfl rfl (any_of HT_.out (by kernel_rfl)) (fun _ _ _ h=>h) (Or.inl ⟨by rfl,?_⟩) ?_ ?_;rotate_left
                 · intro w';go_simp;with_reducible rfl
                 rotate_left
                 · simp only [Act.put,List.setIfInBounds_toArray,List.set_cons_zero,List.set_cons_succ,i64_w,i32_w];rfl
                 refine pure_ (i:=1) (N:=some 36) (v:=?_) (a':=?_) ((bm true [2,10]).toArray) rfl rfl (any_of HT_.out (by kernel_rfl)) (fun _ _ _ h=>h) (Or.inl ⟨by rfl,?_⟩) ?_ ?_;rotate_left
                 · intro w';go_simp;with_reducible rfl
                 rotate_left
                 · simp only [Act.put,List.setIfInBounds_toArray,List.set_cons_zero,List.set_cons_succ,i64_w,i32_w];rfl
                 refine pure_ (i:=4) (N:=some 39) (v:=?_) (a':=?_) ((bm true [2,2,1,7]).toArray) rfl rfl (any_of HT_.out (by kernel_rfl)) (fun _ _ _ h=>h) (Or.inl ⟨by rfl,?_⟩) ?_ ?_;rotate_left
                 · intro w';go_simp;with_reducible rfl
                 rotate_left
                 · simp only [Act.put,List.setIfInBounds_toArray,List.set_cons_zero,List.set_cons_succ,i64_w,i32_w];rfl
                 refine pure_ (i:=5) (N:=some 40) (v:=?_) (a':=?_) ((bm true [2,2,2,6]).toArray) rfl rfl (any_of HT_.out (by kernel_rfl)) (fun _ _ _ h=>h) (Or.inl ⟨by rfl,?_⟩) ?_ ?_;rotate_left
                 · intro w';go_simp;with_reducible rfl
                 rotate_left
                 · simp only [Act.put,List.setIfInBounds_toArray,List.set_cons_zero,List.set_cons_succ,i64_w,i32_w];rfl
                 refine take_ (i:=2) (N:=some 37) (v:=?_) (a':=?_) ((bm true [3,1,2,6]).toArray) rfl rfl (take_ofW HT_.out HW_.out (by kernel_rfl)) (fun _ _ _ h=>h) (Or.inl ⟨by rfl,?_⟩) hHeld ?_ ?_;rotate_left
                 · rintro w' ⟨s0,s1⟩
                   go_simp;with_reducible rfl
                 rotate_left
                 · simp only [Act.put,List.setIfInBounds_toArray,List.set_cons_zero,List.set_cons_succ,i64_w,i32_w];rfl
                 refine pure_ (i:=3) (N:=some 38) (v:=?_) (a':=?_) ((bm true [6,6]).toArray) rfl rfl (any_of HT_.out (by kernel_rfl)) (fun _ _ _ h=>h) (Or.inl ⟨by rfl,?_⟩) ?_ ?_;rotate_left
                 · intro w';go_simp;with_reducible rfl
                 rotate_left
                 · simp only [Act.put,List.setIfInBounds_toArray,List.set_cons_zero,List.set_cons_succ,i64_w,i32_w];rfl
                 refine pure_ (i:=8) (N:=some 43) (v:=?_) (a':=?_) ((bm true [6,2,1,3]).toArray) rfl rfl (any_of HT_.out (by kernel_rfl)) (fun _ _ _ h=>h) (Or.inl ⟨by rfl,?_⟩) ?_ ?_;rotate_left
                 · intro w';go_simp;with_reducible rfl
                 rotate_left
                 · simp only [Act.put,List.setIfInBounds_toArray,List.set_cons_zero,List.set_cons_succ,i64_w,i32_w];rfl
                 refine take_ (i:=6) (N:=some 41) (v:=?_) (a':=?_) ((bm true [7,1,1,3]).toArray) rfl rfl (take_ofW HT_.out HW_.out (by kernel_rfl)) (fun _ _ _ h=>h) (Or.inl ⟨by rfl,?_⟩) hHeld ?_ ?_;rotate_left
                 · rintro w' ⟨s0,s1⟩
                   go_simp;with_reducible rfl
                 rotate_left
                 · simp only [Act.put,List.setIfInBounds_toArray,List.set_cons_zero,List.set_cons_succ,i64_w,i32_w];rfl
                 refine pure_ (i:=7) (N:=some 42) (v:=?_) (a':=?_) ((bm true [9,3]).toArray) rfl rfl (any_of HT_.out (by kernel_rfl)) (fun _ _ _ h=>h) (Or.inl ⟨by rfl,?_⟩) ?_ ?_;rotate_left
                 · intro w';go_simp;with_reducible rfl
                 rotate_left
                 · simp only [Act.put,List.setIfInBounds_toArray,List.set_cons_zero,List.set_cons_succ,i64_w,i32_w];rfl
                 refine one_ (i:=9) (N:=none) ((bm true [10,2]).toArray) rfl rfl (one_of HT_.out (by kernel_rfl)) (by decide) (fun K hK=>?_)
                 have hs71:w70.cell? ⟨gb216,2,none⟩=some (.int .i64 0):=(blk_cell BK216.out 2).trans rfl
                 have hfs71:=blk_frozen BK216.out 2
                 have hns71_0:=NB215_216.out
                 have hms71_0:=NB216_215.out
                 refine skip_ (w1:=?_) (by rfl) rfl ?_ ?_;rotate_left
                 · go_simp;rfl
                 refine hK.out _ _ ⟨((cell_far (p:=⟨gb216,_,none⟩) (by first|exact Nat.ne_of_lt (Nat.lt_of_lt_of_le (by have:=World.block_lt_of_cell? _ _ hw221_0;first|rwa [add_block] at this|exact this) GW216.out)|(rw [add_block];exact Nat.ne_of_lt (Nat.lt_of_lt_of_le (by have:=World.block_lt_of_cell? _ _ hw221_0;first|rwa [add_block] at this|exact this) GW216.out))|(show (Addr.add _ _).block≠_;rw [add_block];exact Nat.ne_of_lt (Nat.lt_of_lt_of_le (by have:=World.block_lt_of_cell? _ _ hw221_0;first|rwa [add_block] at this|exact this) GW216.out))|(dsimp only;exact Nat.ne_of_lt (Nat.lt_of_lt_of_le (by have:=World.block_lt_of_cell? _ _ hw221_0;first|rwa [add_block] at this|exact this) GW216.out))) _).trans (hHeld.1)),((cell_far (p:=⟨gb216,_,none⟩) (by first|exact Nat.ne_of_lt (Nat.lt_of_lt_of_le (by have:=World.block_lt_of_cell? _ _ hw222_0;first|rwa [add_block] at this|exact this) GW216.out)|(rw [add_block];exact Nat.ne_of_lt (Nat.lt_of_lt_of_le (by have:=World.block_lt_of_cell? _ _ hw222_0;first|rwa [add_block] at this|exact this) GW216.out))|(show (Addr.add _ _).block≠_;rw [add_block];exact Nat.ne_of_lt (Nat.lt_of_lt_of_le (by have:=World.block_lt_of_cell? _ _ hw222_0;first|rwa [add_block] at this|exact this) GW216.out))|(dsimp only;exact Nat.ne_of_lt (Nat.lt_of_lt_of_le (by have:=World.block_lt_of_cell? _ _ hw222_0;first|rwa [add_block] at this|exact this) GW216.out))) _).trans (hHeld.2))⟩ (fun hHeld=>?_)
                 clear hK K
                 refine pure_ (i:=10) (N:=some 44) (v:=?_) (a':=?_) ((bm true [11,1]).toArray) rfl rfl (any_of HT_.out (by kernel_rfl)) (fun _ _ _ h=>h) (Or.inl ⟨by rfl,?_⟩) ?_ ?_;rotate_left
                 · intro w';go_simp;with_reducible rfl
                 rotate_left
                 · simp only [Act.put,List.setIfInBounds_toArray,List.set_cons_zero,List.set_cons_succ,i64_w,i32_w];rfl
                 refine one_ (i:=11) (N:=none) ((bm true [12]).toArray) rfl rfl (one_of HT_.out (by kernel_rfl)) (by decide) (fun K hK=>?_)
                 have hs72:w70.cell? ⟨gb216,3,none⟩=some (.int .i64 0):=(blk_cell BK216.out 3).trans rfl
                 have hfs72:=blk_frozen BK216.out 3
                 have hns72_0:=NB215_216.out
                 have hms72_0:=NB216_215.out
                 refine skip_ (w1:=?_) (by rfl) rfl ?_ ?_;rotate_left
                 · go_simp;rfl
                 refine hK.out _ _ ⟨((cell_far (p:=⟨gb216,_,none⟩) (by first|exact Nat.ne_of_lt (Nat.lt_of_lt_of_le (by have:=World.block_lt_of_cell? _ _ hw221_0;first|rwa [add_block] at this|exact this) GW216.out)|(rw [add_block];exact Nat.ne_of_lt (Nat.lt_of_lt_of_le (by have:=World.block_lt_of_cell? _ _ hw221_0;first|rwa [add_block] at this|exact this) GW216.out))|(show (Addr.add _ _).block≠_;rw [add_block];exact Nat.ne_of_lt (Nat.lt_of_lt_of_le (by have:=World.block_lt_of_cell? _ _ hw221_0;first|rwa [add_block] at this|exact this) GW216.out))|(dsimp only;exact Nat.ne_of_lt (Nat.lt_of_lt_of_le (by have:=World.block_lt_of_cell? _ _ hw221_0;first|rwa [add_block] at this|exact this) GW216.out))) _).trans (hHeld.1)),((cell_far (p:=⟨gb216,_,none⟩) (by first|exact Nat.ne_of_lt (Nat.lt_of_lt_of_le (by have:=World.block_lt_of_cell? _ _ hw222_0;first|rwa [add_block] at this|exact this) GW216.out)|(rw [add_block];exact Nat.ne_of_lt (Nat.lt_of_lt_of_le (by have:=World.block_lt_of_cell? _ _ hw222_0;first|rwa [add_block] at this|exact this) GW216.out))|(show (Addr.add _ _).block≠_;rw [add_block];exact Nat.ne_of_lt (Nat.lt_of_lt_of_le (by have:=World.block_lt_of_cell? _ _ hw222_0;first|rwa [add_block] at this|exact this) GW216.out))|(dsimp only;exact Nat.ne_of_lt (Nat.lt_of_lt_of_le (by have:=World.block_lt_of_cell? _ _ hw222_0;first|rwa [add_block] at this|exact this) GW216.out))) _).trans (hHeld.2))⟩ (fun hHeld=>?_)
                 clear hK K
                 refine done_ (done_of HT_.out (by kernel_rfl)) ?_
                 try go_wp2_with fail
                 have n0_:Aside0 (((w70.setCell ⟨gb216,2,none⟩ (.int .i64 (wrap64 (rd l0 4)))).setCell ⟨gb216,3,none⟩ (.int .i64 (wrap64 (rd l0 5)))).heap[gb215]?=some (.cells #[.int .i64 0,.int .i64 0,.int .i64 0,.int .i64 0,.slice none 0 0] 91 (0,0))):=⟨blkW BK215.out NB215_216.out⟩
                 have n1_:Aside0 (((w70.setCell ⟨gb216,2,none⟩ (.int .i64 (wrap64 (rd l0 4)))).setCell ⟨gb216,3,none⟩ (.int .i64 (wrap64 (rd l0 5)))).heap[gb216]?=some (.cells #[.int .i64 (wrap64 ((wrap64 ((wrap64 (rd l0 0))*256))+(wrap64 (rd l0 1)))),.int .i64 (wrap64 ((wrap64 ((wrap64 (rd l0 2))*256))+(wrap64 (rd l0 3)))),.int .i64 (wrap64 (rd l0 4)),.int .i64 (wrap64 (rd l0 5)),.slice none 0 0] 91 (0,0))):=⟨by (with_reducible repeat (first|refine blk_drewN ?_ _|refine blk_drew ?_|refine blk_alloc ?_ _));refine blk_put (cs:=#[.int .i64 (wrap64 ((wrap64 ((wrap64 (rd l0 0))*256))+(wrap64 (rd l0 1)))),.int .i64 (wrap64 ((wrap64 ((wrap64 (rd l0 2))*256))+(wrap64 (rd l0 3)))),.int .i64 (wrap64 (rd l0 4)),.int .i64 0,.slice none 0 0]) ?_ 3 _ rfl;(with_reducible repeat (first|refine blk_drewN ?_ _|refine blk_drew ?_|refine blk_alloc ?_ _));refine blk_put (cs:=#[.int .i64 (wrap64 ((wrap64 ((wrap64 (rd l0 0))*256))+(wrap64 (rd l0 1)))),.int .i64 (wrap64 ((wrap64 ((wrap64 (rd l0 2))*256))+(wrap64 (rd l0 3)))),.int .i64 0,.int .i64 0,.slice none 0 0]) ?_ 2 _ rfl;(with_reducible repeat (first|refine blk_drewN ?_ _|refine blk_drew ?_|refine blk_alloc ?_ _));exact BK216.out⟩
                 have n2_:Aside0 (Below w.heap.size w ((w70.setCell ⟨gb216,2,none⟩ (.int .i64 (wrap64 (rd l0 4)))).setCell ⟨gb216,3,none⟩ (.int .i64 (wrap64 (rd l0 5))))):=⟨belV2 HB.out GE215.out GE216.out⟩
                 (try clear BK215)
                 (try clear BK216)
                 (try clear HB)
                 generalize ((w70.setCell ⟨gb216,2,none⟩ (.int .i64 (wrap64 (rd l0 4)))).setCell ⟨gb216,3,none⟩ (.int .i64 (wrap64 (rd l0 5))))=w73 at n0_ n1_ n2_ ⊢
                 have BK215:=n0_;have BK216:=n1_;have HB:=n2_;clear n0_ n1_ n2_
                 have n0_:=Aside0.mk (blk_drew BK215.out)
                 have n1_:=Aside0.mk (blk_drew BK216.out)
                 have n2_:=Aside0.mk (below_drew1 HB.out);clear BK215;clear BK216;clear HB;have BK215:=n0_;have BK216:=n1_;have HB:=n2_;clear n0_ n1_ n2_
                 have p223:0≤(6:Int):=(by omega)
                 have q223:6 < (l0.length:Int):=of_decide_eq_true asV
                 obtain ⟨ad223,e223,hx223_0⟩:=Kd.at_int HR0.out 6 p223 q223
                 have hw223_0:=hx223_0
                 (try rw [show ((6:Int)).toNat=6 from rfl] at hw223_0)
                 (try rw [show 6*1=6 from rfl] at hw223_0)
                 (try simp only [Nat.reduceMul,Nat.reduceEqDiff,Go.Addr.add,↓reduceIte] at hw223_0)
                 obtain rfl:ad217=ad223:=(by injection e223)
                 (try simp only [show (6:Int).toNat=6 from rfl,Nat.reduceMul,Nat.reduceEqDiff,Go.Addr.add,↓reduceIte] at hx223_0)
                 have qi223:(6 < l0.length)=True:=eq_true (by omega)
                 (try rw [show ((6:Int)).toNat=6 from rfl] at hx223_0)
                 replace hx223_0:=(HB.out.cell (World.block_lt_of_cell? w _ hx223_0)).trans hx223_0
                 replace p223:=eq_true p223
                 replace q223:=eq_true q223
                 have p224:0≤(7:Int):=(by omega)
                 have q224:7 < (l0.length:Int):=of_decide_eq_true asV
                 obtain ⟨ad224,e224,hx224_0⟩:=Kd.at_int HR0.out 7 p224 q224
                 have hw224_0:=hx224_0
                 (try rw [show ((7:Int)).toNat=7 from rfl] at hw224_0)
                 (try rw [show 7*1=7 from rfl] at hw224_0)
                 (try simp only [Nat.reduceMul,Nat.reduceEqDiff,Go.Addr.add,↓reduceIte] at hw224_0)
                 obtain rfl:ad217=ad224:=(by injection e224)
                 (try simp only [show (7:Int).toNat=7 from rfl,Nat.reduceMul,Nat.reduceEqDiff,Go.Addr.add,↓reduceIte] at hx224_0)
                 have qi224:(7 < l0.length)=True:=eq_true (by omega)
                 (try rw [show ((7:Int)).toNat=7 from rfl] at hx224_0)
                 replace hx224_0:=(HB.out.cell (World.block_lt_of_cell? w _ hx224_0)).trans hx224_0
                 replace p224:=eq_true p224
                 replace q224:=eq_true q224
                 refine start_ (n:=11) (S:=fun w'=>w'.cell? ⟨ad217.block,ad217.off+6,none⟩=some (.int .u8 (rd l0 6))∧w'.cell? ⟨ad217.block,ad217.off+7,none⟩=some (.int .u8 (rd l0 7))) (ds:=[]) ((bm false [11]).toArray) (by kernel_rfl) rfl rfl ⟨((HB.out.cell (World.block_lt_of_cell? w _ hw223_0)).trans hw223_0),((HB.out.cell (World.block_lt_of_cell? w _ hw224_0)).trans hw224_0)⟩ (fun hHeld=>?_);refine with_tabW dioramaref19_patch.tab7 dioramaref19_patch.bits7 (fun HT_ HW_=>?_)
                 generalize w73.drew=w74 at BK215 BK216 HB hx223_0 hx224_0 hHeld ⊢
                 refine pure_ (i:=0) (N:=some 45) (v:=?_) (a':=?_) ((bm true [1,10]).toArray) rfl rfl (any_of HT_.out (by kernel_rfl)) (fun _ _ _ h=>h) (Or.inl ⟨by rfl,?_⟩) ?_ ?_;rotate_left
                 · intro w';go_simp;with_reducible rfl
                 rotate_left
                 · simp only [Act.put,List.setIfInBounds_toArray,List.set_cons_zero,List.set_cons_succ,i64_w,i32_w];rfl
                 refine pure_ (i:=1) (N:=some 46) (v:=?_) (a':=?_) ((bm true [2,9]).toArray) rfl rfl (any_of HT_.out (by kernel_rfl)) (fun _ _ _ h=>h) (Or.inl ⟨by rfl,?_⟩) ?_ ?_;rotate_left
                 · intro w';go_simp;with_reducible rfl
                 rotate_left
                 · simp only [Act.put,List.setIfInBounds_toArray,List.set_cons_zero,List.set_cons_succ,i64_w,i32_w];rfl
                 refine pure_ (i:=5) (N:=some 50) (v:=?_) (a':=?_) ((bm true [2,3,1,5]).toArray) rfl rfl (any_of HT_.out (by kernel_rfl)) (fun _ _ _ h=>h) (Or.inl ⟨by rfl,?_⟩) ?_ ?_;rotate_left
                 · intro w';go_simp;with_reducible rfl
                 rotate_left
                 · simp only [Act.put,List.setIfInBounds_toArray,List.set_cons_zero,List.set_cons_succ,i64_w,i32_w];rfl
                 refine pure_ (i:=6) (N:=some 51) (v:=?_) (a':=?_) ((bm true [2,3,2,4]).toArray) rfl rfl (any_of HT_.out (by kernel_rfl)) (fun _ _ _ h=>h) (Or.inl ⟨by rfl,?_⟩) ?_ ?_;rotate_left
                 · intro w';go_simp;with_reducible rfl
                 rotate_left
                 · simp only [Act.put,List.setIfInBounds_toArray,List.set_cons_zero,List.set_cons_succ,i64_w,i32_w];rfl
                 refine take_ (i:=2) (N:=some 47) (v:=?_) (a':=?_) ((bm true [3,2,2,4]).toArray) rfl rfl (take_ofW HT_.out HW_.out (by kernel_rfl)) (fun _ _ _ h=>h) (Or.inl ⟨by rfl,?_⟩) hHeld ?_ ?_;rotate_left
                 · rintro w' ⟨s0,s1⟩
                   go_simp;with_reducible rfl
                 rotate_left
                 · simp only [Act.put,List.setIfInBounds_toArray,List.set_cons_zero,List.set_cons_succ,i64_w,i32_w];rfl
                 refine pure_ (i:=3) (N:=some 48) (v:=?_) (a':=?_) ((bm true [4,1,2,4]).toArray) rfl rfl (any_of HT_.out (by kernel_rfl)) (fun _ _ _ h=>h) (Or.inl ⟨by rfl,?_⟩) ?_ ?_;rotate_left
                 · intro w';go_simp;with_reducible rfl
                 rotate_left
                 · simp only [Act.put,List.setIfInBounds_toArray,List.set_cons_zero,List.set_cons_succ,i64_w,i32_w];rfl
                 refine pure_ (i:=4) (N:=some 49) (v:=?_) (a':=?_) ((bm true [7,4]).toArray) rfl rfl (any_of HT_.out (by kernel_rfl)) (fun _ _ _ h=>h) (Or.inl ⟨by rfl,?_⟩) ?_ ?_;rotate_left
                 · intro w';go_simp;with_reducible rfl
                 rotate_left
                 · simp only [Act.put,List.setIfInBounds_toArray,List.set_cons_zero,List.set_cons_succ,i64_w,i32_w];rfl
                 refine take_ (i:=7) (N:=some 52) (v:=?_) (a':=?_) ((bm true [8,3]).toArray) rfl rfl (take_ofW HT_.out HW_.out (by kernel_rfl)) (fun _ _ _ h=>h) (Or.inl ⟨by rfl,?_⟩) hHeld ?_ ?_;rotate_left
                 · rintro w' ⟨s0,s1⟩
                   go_simp;with_reducible rfl
                 rotate_left
                 · simp only [Act.put,List.setIfInBounds_toArray,List.set_cons_zero,List.set_cons_succ,i64_w,i32_w];rfl
                 refine pure_ (i:=8) (N:=some 53) (v:=?_) (a':=?_) ((bm true [9,2]).toArray) rfl rfl (any_of HT_.out (by kernel_rfl)) (fun _ _ _ h=>h) (Or.inl ⟨by rfl,?_⟩) ?_ ?_;rotate_left
                 · intro w';go_simp;with_reducible rfl
                 rotate_left
                 · simp only [Act.put,List.setIfInBounds_toArray,List.set_cons_zero,List.set_cons_succ,i64_w,i32_w];rfl
                 refine pure_ (i:=9) (N:=some 54) (v:=?_) (a':=?_) ((bm true [10,1]).toArray) rfl rfl (any_of HT_.out (by kernel_rfl)) (fun _ _ _ h=>h) (Or.inl ⟨by rfl,?_⟩) ?_ ?_;rotate_left
                 · intro w';go_simp;with_reducible rfl
                 rotate_left
                 · simp only [Act.put,List.setIfInBounds_toArray,List.set_cons_zero,List.set_cons_succ,i64_w,i32_w];rfl
                 refine pure_ (i:=10) (N:=some 6) (v:=?_) (a':=?_) ((bm true [11]).toArray) rfl rfl (any_of HT_.out (by kernel_rfl)) (fun _ _ _ h=>h) (Or.inl ⟨by rfl,?_⟩) ?_ ?_;rotate_left
                 · intro w';go_simp;with_reducible rfl
                 rotate_left
                 · simp only [Act.put,List.setIfInBounds_toArray,List.set_cons_zero,List.set_cons_succ,i64_w,i32_w];rfl
                 refine done_ (done_of HT_.out (by kernel_rfl)) ?_
                 have hnb75:=NB216_215.out
                 have hnc75:=NB215_216.out
                 obtain ⟨hcz76_0,hcz76_1,hcz76_2,hcz76_3,hcz76_4,hfz76_0,hfz76_1,hfz76_2,hfz76_3,hfz76_4⟩:=bcells5 BK216.out
                 try go_wp2_with (first|((with_reducible refine gate_callee (f:=73) rfl ?_);refine goesL_ (some 56) rfl rfl Try.func73 (by kernel_rfl) rfl #[.agg #[.int .i64 (wrap64 ((wrap64 ((wrap64 (rd l0 0))*256))+(wrap64 (rd l0 1)))),.int .i64 (wrap64 ((wrap64 ((wrap64 (rd l0 2))*256))+(wrap64 (rd l0 3)))),.int .i64 (wrap64 (rd l0 4)),.int .i64 (wrap64 (rd l0 5)),.slice none 0 0]] rfl (by (try simp only [List.map_toArray,List.map_cons,List.map_nil]);first|done|rfl|(simp only [List.length_drop,List.length_take];rfl)) ?_;(refine (dioramaref19_place.calls (wrap64 ((wrap64 ((wrap64 (rd l0 0))*256))+(wrap64 (rd l0 1)))) (wrap64 ((wrap64 ((wrap64 (rd l0 2))*256))+(wrap64 (rd l0 3)))) (wrap64 (rd l0 4)) (wrap64 (rd l0 5)) _ _ ([]:List Int) t225 _ ?side1 ?side2 A16.out).mono ?_);(case side1=>exact Kd.C_nil _ _);(case side2=>exact Nat.le_refl _);rintro e w77 ⟨rfl,hb⟩;refine ⟨_,rfl,?_⟩;have n0_:=Aside0.mk (blk_below (g:=gb215) (blkV BK215.out) hb);have n1_:=Aside0.mk (blk_below (g:=gb216) (blkV BK216.out) hb);have n2_:=Aside0.mk (below_step (belV2 HB.out GE215.out GE216.out) hb);clear BK215;clear BK216;clear HB;have BK215:=n0_;have BK216:=n1_;have HB:=n2_;clear n0_ n1_ n2_;(try clear hb);(try clear hb2);(try clear hk);(try clear hi);obtain ⟨hcz78_0,hcz78_1,hcz78_2,hcz78_3,hcz78_4,hfz78_0,hfz78_1,hfz78_2,hfz78_3,hfz78_4⟩:=bcells5 BK216.out;obtain ⟨hcz79_0,hcz79_1,hcz79_2,hcz79_3,hcz79_4,hfz79_0,hfz79_1,hfz79_2,hfz79_3,hfz79_4⟩:=bcells5 BK215.out))
                 refine bodyPost_ret (results_ctt rfl _ _ gb215 91 #[.int .i64 (wrap64 ((wrap64 ((wrap64 (rd l0 0))*256))+(wrap64 (rd l0 1)))),.int .i64 (wrap64 ((wrap64 ((wrap64 (rd l0 2))*256))+(wrap64 (rd l0 3)))),.int .i64 (wrap64 (rd l0 4)),.int .i64 (wrap64 (rd l0 5)),.slice none 0 0] (0,0) _ rfl (by (with_reducible repeat (first|refine blk_drewN ?_ _|refine blk_drew ?_|refine blk_alloc ?_ _));refine blk_put (cs:=#[.int .i64 (wrap64 ((wrap64 ((wrap64 (rd l0 0))*256))+(wrap64 (rd l0 1)))),.int .i64 (wrap64 ((wrap64 ((wrap64 (rd l0 2))*256))+(wrap64 (rd l0 3)))),.int .i64 (wrap64 (rd l0 4)),.int .i64 (wrap64 (rd l0 5)),.slice none 0 0]) ?_ 4 _ rfl;(with_reducible repeat (first|refine blk_drewN ?_ _|refine blk_drew ?_|refine blk_alloc ?_ _));refine blk_put (cs:=#[.int .i64 (wrap64 ((wrap64 ((wrap64 (rd l0 0))*256))+(wrap64 (rd l0 1)))),.int .i64 (wrap64 ((wrap64 ((wrap64 (rd l0 2))*256))+(wrap64 (rd l0 3)))),.int .i64 (wrap64 (rd l0 4)),.int .i64 0,.slice none 0 0]) ?_ 3 _ rfl;(with_reducible repeat (first|refine blk_drewN ?_ _|refine blk_drew ?_|refine blk_alloc ?_ _));refine blk_put (cs:=#[.int .i64 (wrap64 ((wrap64 ((wrap64 (rd l0 0))*256))+(wrap64 (rd l0 1)))),.int .i64 (wrap64 ((wrap64 ((wrap64 (rd l0 2))*256))+(wrap64 (rd l0 3)))),.int .i64 0,.int .i64 0,.slice none 0 0]) ?_ 2 _ rfl;(with_reducible repeat (first|refine blk_drewN ?_ _|refine blk_drew ?_|refine blk_alloc ?_ _));refine blk_put (cs:=#[.int .i64 (wrap64 ((wrap64 ((wrap64 (rd l0 0))*256))+(wrap64 (rd l0 1)))),.int .i64 0,.int .i64 0,.int .i64 0,.slice none 0 0]) ?_ 1 _ rfl;(with_reducible repeat (first|refine blk_drewN ?_ _|refine blk_drew ?_|refine blk_alloc ?_ _));refine blk_put (cs:=#[.int .i64 0,.int .i64 0,.int .i64 0,.int .i64 0,.slice none 0 0]) ?_ 0 _ rfl;(with_reducible repeat (first|refine blk_drewN ?_ _|refine blk_drew ?_|refine blk_alloc ?_ _));exact BK215.out) Try.underlying91 rfl (by kernel_rfl)) rfl ?_
                 exact ⟨_,by first|rfl|(simp [errW_none,errW_some] <;> rfl)|(simp [*,errW_none,errW_some] <;> rfl),by first|exact Kd.R_nil _ _ _ _ _|exact Kd.N_nil _ _ _ _ _|exact Kd.V_nil _ _ _ _ _|exact Kd.Q_nil _ _ _ _ _|exact Kd.S_nil _ _ _ _ _,by repeat (first|(with_reducible first|exact HB.out|apply below_alloc|apply pw_below_drewN|apply below_drew1|refine below_set ?_ GE215.out|refine below_set ?_ GE216.out)|exact HB.out)⟩
               rw [if_neg c15] at H
               exact absurd H (by simp)
             rw [if_neg c14] at H
             exact absurd H (by simp)
           rw [if_neg c13] at H
           exact absurd H (by simp)
         rw [if_neg c12] at H
         exact absurd H (by simp)
       rw [if_neg c11] at H
       exact absurd H (by simp)
     rw [if_neg c10] at H
     exact absurd H (by simp)
   rw [if_neg c9] at H
   exact absurd H (by simp)
 rw [if_neg c8] at H
 exact absurd H (by simp)

end Go.Proofs.Ytaebgjdaoloceaa.QBmpR
