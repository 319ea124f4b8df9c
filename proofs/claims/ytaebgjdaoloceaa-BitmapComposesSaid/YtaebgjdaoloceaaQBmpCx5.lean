/- Part of a proof: functions of the program as Lean functions, and that the machine's calls come to them. Made by a program of this session (wip/mp). -/
import Derived.Test.YtaebgjdaoloceaaQBmpCx0
import Derived.Test.YtaebgjdaoloceaaQBmpCx4
namespace Go.Proofs.Ytaebgjdaoloceaa.QBmpC
open Go.RowKit Go.Proofs.YtaebgjdaoloceaaV Go.Proofs.YtaebgjdaoloceaaW.PrintWords Go.Proofs.YtaebgjdaoloceaaW.PrintLast Go.Proofs.YtaebgjdaoloceaaW.PrintMore
attribute [local go_sem] max2_int min2_int max_two min_two max_three min_three max_four min_four   -- for this text's walks alone
set_option linter.unusedVariables false
set_option linter.unusedSimpArgs false

/-! ### dioramaref19_Empty: function 24 -/
mutual
def dioramaref19_Empty.j0 : Nat → Int → Int → Bool → Option (Int × Int × List Int × List Int × Int)
 | 0,_,_,_=>none
 | k+1,x0,x1,x15=>if x15=true then (some (0,0,([]:List Int),([]:List Int),1)) else (dioramaref19_Empty.l0 k x0 x1 0 x0 x1 ([]:List Int))
def dioramaref19_Empty.l0 : Nat → Int → Int → Int → Int → Int → List Int → Option (Int × Int × List Int × List Int × Int)
 | 0,_,_,_,_,_,_=>none
 | k+1,x0,x1,x7,x277000,x277001,x277003=>if x7 < (wrap64 (x0*x1)) then (if x277003.length < 17592186044416 then (dioramaref19_Empty.l0 k x0 x1 (wrap64 (x7+1)) x277000 x277001 (x277003 ++ [(-1)])) else (none)) else (some (x277000,x277001,([]:List Int),x277003,0))
end
def dioramaref19_Empty.f (k : Nat) (a0 : Int) (a1 : Int) : Option (Int × Int × List Int × List Int × Int) := (dioramaref19_in.f a0 1 200).bind fun t274 => (if t274 = true then ((dioramaref19_in.f a1 1 200).bind fun t275 => (dioramaref19_Empty.j0 k a0 a1 (!t275))) else (dioramaref19_Empty.j0 k a0 a1 true))
theorem dioramaref19_Empty.mono_l:∀ k,(∀ y0 y1 y2,LeO (dioramaref19_Empty.j0 k y0 y1 y2) (dioramaref19_Empty.j0 (k+1) y0 y1 y2))∧(∀ y0 y1 y2 y3 y4 y5,LeO (dioramaref19_Empty.l0 k y0 y1 y2 y3 y4 y5) (dioramaref19_Empty.l0 (k+1) y0 y1 y2 y3 y4 y5))
 | 0=>⟨fun _ _ _ r h=>by simp [dioramaref19_Empty.j0] at h,fun _ _ _ _ _ _ r h=>by simp [dioramaref19_Empty.l0] at h⟩
 | k+1=>by
  obtain ⟨ih0,ih1⟩:=dioramaref19_Empty.mono_l k
  refine ⟨?_,?_⟩
  · intro y0 y1 y2
    unfold dioramaref19_Empty.j0
    repeat' first
    | (with_reducible exact ih0 _ _ _)
    | (with_reducible exact ih1 _ _ _ _ _ _)
    | (with_reducible exact LeO.refl _)
    | (with_reducible exact LeO.none _)
    | (with_reducible refine LeO.ite ?_ ?_)
    | (with_reducible refine LeO.bind ?_ (fun _=>?_))
    | exact LeO.none _
    | refine LeO.ite ?_ ?_
    | refine LeO.bind ?_ (fun _=>?_)
  intro y0 y1 y2 y3 y4 y5
  unfold dioramaref19_Empty.l0
  repeat' first
  | (with_reducible exact ih0 _ _ _)
  | (with_reducible exact ih1 _ _ _ _ _ _)
  | (with_reducible exact LeO.refl _)
  | (with_reducible exact LeO.none _)
  | (with_reducible refine LeO.ite ?_ ?_)
  | (with_reducible refine LeO.bind ?_ (fun _=>?_))
  | exact LeO.none _
  | refine LeO.ite ?_ ?_
  | refine LeO.bind ?_ (fun _=>?_)
theorem dioramaref19_Empty.mono:∀ a0 a1 k,LeO (dioramaref19_Empty.f k a0 a1) (dioramaref19_Empty.f (k+1) a0 a1):=by
 intro a0 a1 k
 obtain ⟨ih0,ih1⟩:=dioramaref19_Empty.mono_l k
 unfold dioramaref19_Empty.f
 repeat' first
  | (with_reducible exact ih0 _ _ _)
  | (with_reducible exact ih1 _ _ _ _ _ _)
  | (with_reducible exact LeO.refl _)
  | (with_reducible exact LeO.none _)
  | (with_reducible refine LeO.ite ?_ ?_)
  | (with_reducible refine LeO.bind ?_ (fun _=>?_))
  | exact LeO.none _
  | refine LeO.ite ?_ ?_
  | refine LeO.bind ?_ (fun _=>?_)
set_option maxHeartbeats 8000000 in
set_option maxRecDepth 100000 in
theorem dioramaref19_Empty.calls (k:Nat) (a0:Int) (a1:Int) (r1:Int) (r2:Int) (r3:List Int) (r4:List Int) (r5:Int) (w:World) (h:dioramaref19_Empty.f k a0 a1=some (r1,r2,r3,r4,r5)) :
 Calls Try.prog 24 #[.int .i64 a0,.int .i64 a1] w fun e w'=>∃ v2_ v3_:Value,e=.returned (.tuple #[.agg #[.int .i64 r1,.int .i64 r2,v2_,v3_],.int .i64 r5])∧Kd.R (Kd.int .i64) 3 w' w.heap.size (fun k_=>some k_≠(v3_:Value).ownBlock) v2_ r3∧Kd.R (Kd.int .i64) 3 w' w.heap.size (fun k_=>some k_≠(v2_:Value).ownBlock) v3_ r4∧Below w.heap.size w w':=by
 have hu41:=Try.underlying41;have HB:=Aside0.mk (Below.refl w.heap.size w)
 have H:((dioramaref19_in.f a0 1 200).bind fun t274=>(if t274=true then ((dioramaref19_in.f a1 1 200).bind fun t275=>(dioramaref19_Empty.j0 k a0 a1 (!t275))) else (dioramaref19_Empty.j0 k a0 a1 true)))=some (r1,r2,r3,r4,r5):=h
 clear h
 have HC3:=Aside0.mk H;clear H
 go_enter Try.func24,Try.ntmps24
 go_upto_region 1 with (first|((with_reducible refine gate_dst (N:=4) rfl ?_);refine box_event ?hg (N:=4) ?hd (cs:=#[.int .i64 0,.int .i64 0,.slice none 0 0,.slice none 0 0]) (t:=41) ?hr ?_;(case hd=>rfl);(case hg=>rfl);(case hr=>first|(go_simp;done)|(go_simp;rfl));intro gb273 hg w4 hbox hb;have n0_:=Aside0.mk (below_step (belV HB.out) hb);have n1_:=Aside0.mk (hbox);have n2_:=Aside0.mk ((by rw [hg];exact (below_size (belV HB.out)):w.heap.size≤gb273));have n3_:=Aside0.mk ((by rw [hg];exact (below_size (belV HB.out)):w.heap.size≤gb273));clear HB;have HB:=n0_;have BK273:=n1_;have GW273:=n2_;have GE273:=n3_;clear n0_ n1_ n2_ n3_;clear hb hbox hg))
 (try simp only [Act.put,List.setIfInBounds_toArray,List.set_cons_zero,List.set_cons_succ])
 go_cut [15] (fun v15 wc=>∃ (kq:Nat) (x15_2:Bool),v15=.bool x15_2∧Aside0 (dioramaref19_Empty.j0 kq a0 a1 x15_2=some (r1,r2,r3,r4,r5))∧Aside0 (kq≤k)∧Aside0 (wc.heap[gb273]?=some (.cells #[.int .i64 0,.int .i64 0,(.slice none 0 0),(.slice none 0 0)] 41 (0,0)))∧Aside0 (Below w.heap.size w wc))
 case first =>
  have H:=HC3.out;clear HC3
  replace H:=Option.bind_eq_some_iff.mp H
  obtain ⟨t274,A50,H⟩:=H
  replace H:(if t274=true then ((dioramaref19_in.f a1 1 200).bind fun t275=>(dioramaref19_Empty.j0 k a0 a1 (!t275))) else (dioramaref19_Empty.j0 k a0 a1 true))=some (r1,r2,r3,r4,r5):=H
  have A5:=Aside0.mk A50;clear A50
  by_cases c6:t274=true
  · subst c6
    have H1:((dioramaref19_in.f a1 1 200).bind fun t275=>(dioramaref19_Empty.j0 k a0 a1 (!t275)))=some (r1,r2,r3,r4,r5):=by rw [if_pos rfl] at H;exact H
    clear H
    have H:=H1;clear H1
    replace H:=Option.bind_eq_some_iff.mp H
    obtain ⟨t275,A70,H⟩:=H
    replace H:(dioramaref19_Empty.j0 k a0 a1 (!t275))=some (r1,r2,r3,r4,r5):=H
    have A7:=Aside0.mk A70;clear A70
    have H':=Aside0.mk H;clear H
    go_wp2_with (first|((with_reducible refine gate_callee (f:=50) rfl ?_);refine goesL_ (some 9) rfl rfl Try.func50 (by kernel_rfl) rfl #[.int .i64 a0,.int .i64 1,.int .i64 200] rfl (by (try simp only [List.map_toArray,List.map_cons,List.map_nil]);first|done|rfl|(simp only [List.length_drop,List.length_take];rfl)) ?_;(with_reducible refine (dioramaref19_in.calls a0 1 200 true _ A5.out).mono ?_);rintro e w' ⟨rfl,⟨nd,rfl⟩⟩;refine ⟨_,rfl,?_⟩)|(go_at_call 50;(with_reducible refine (dioramaref19_in.calls a1 1 200 t275 _ A7.out).mono ?_);rintro e w' ⟨rfl,⟨nd,rfl⟩⟩))
    go_meet
    case rel=>exact ⟨_,(!t275),okV,H',⟨by first|omega|exact Nat.le_refl _⟩,⟨blkV BK273.out⟩,⟨belV1 HB.out GE273.out⟩⟩
  replace c6:=Bool.eq_false_iff.mpr c6;subst c6
  have H1:(dioramaref19_Empty.j0 k a0 a1 true)=some (r1,r2,r3,r4,r5):=by rw [if_neg (show ¬ (false=true) by decide)] at H;exact H
  clear H
  have H:=H1;clear H1
  have H':=Aside0.mk H;clear H
  go_wp2_with (first|((with_reducible refine gate_callee (f:=50) rfl ?_);refine goesL_ (some 9) rfl rfl Try.func50 (by kernel_rfl) rfl #[.int .i64 a0,.int .i64 1,.int .i64 200] rfl (by (try simp only [List.map_toArray,List.map_cons,List.map_nil]);first|done|rfl|(simp only [List.length_drop,List.length_take];rfl)) ?_;(with_reducible refine (dioramaref19_in.calls a0 1 200 false _ A5.out).mono ?_);rintro e w' ⟨rfl,⟨nd,rfl⟩⟩;refine ⟨_,rfl,?_⟩))
  go_meet
  case rel=>exact ⟨_,(true),okV,H',⟨by first|omega|exact Nat.le_refl _⟩,⟨blkV BK273.out⟩,⟨belV1 HB.out GE273.out⟩⟩
 case rest =>
  clear HC3
  try clear c2;try clear p2;try clear c5;try clear c6
  obtain ⟨kq,x15_2,rfl,HA,HJ2,BK273,HB⟩:=hcut
  cases kq with
  | zero=>exact absurd HA.out (by simp [dioramaref19_Empty.j0])
  | succ kj2 =>
   have H:=HA.out;clear HA
   simp only [dioramaref19_Empty.j0] at H
   by_cases c8:x15_2=true
   · subst c8
     have H1:(some (0,0,([]:List Int),([]:List Int),1))=some (r1,r2,r3,r4,r5):=by rw [if_pos rfl] at H;exact H
     clear H
     have H:=H1;clear H1
     simp only [Option.some.injEq,Prod.mk.injEq] at H
     obtain ⟨rfl,rfl,rfl,rfl,rfl⟩:=H
     obtain ⟨hcz9_0,hcz9_1,hcz9_2,hcz9_3,hfz9_0,hfz9_1,hfz9_2,hfz9_3⟩:=bcells4 BK273.out
     go_wp2
     refine bodyPost_ret (results_ct rfl _ _ gb273 41 #[.int .i64 0,.int .i64 0,.slice none 0 0,.slice none 0 0] (0,0) _ rfl (by (with_reducible repeat (first|refine blk_drewN ?_ _|refine blk_drew ?_|refine blk_alloc ?_ _));refine blk_put (cs:=#[.int .i64 0,.int .i64 0,.slice none 0 0,.slice none 0 0]) ?_ 3 _ rfl;(with_reducible repeat (first|refine blk_drewN ?_ _|refine blk_drew ?_|refine blk_alloc ?_ _));refine blk_put (cs:=#[.int .i64 0,.int .i64 0,.slice none 0 0,.slice none 0 0]) ?_ 2 _ rfl;(with_reducible repeat (first|refine blk_drewN ?_ _|refine blk_drew ?_|refine blk_alloc ?_ _));refine blk_put (cs:=#[.int .i64 0,.int .i64 0,.slice none 0 0,.slice none 0 0]) ?_ 1 _ rfl;(with_reducible repeat (first|refine blk_drewN ?_ _|refine blk_drew ?_|refine blk_alloc ?_ _));refine blk_put (cs:=#[.int .i64 0,.int .i64 0,.slice none 0 0,.slice none 0 0]) ?_ 0 _ rfl;(with_reducible repeat (first|refine blk_drewN ?_ _|refine blk_drew ?_|refine blk_alloc ?_ _));exact BK273.out) Try.underlying41 rfl (by kernel_rfl)) rfl ?_
     exact ⟨_,_,by first|rfl|(simp [errW_none,errW_some] <;> rfl)|(simp [*,errW_none,errW_some] <;> rfl),by first|exact Kd.R_nil _ _ _ _ _|exact Kd.N_nil _ _ _ _ _|exact Kd.V_nil _ _ _ _ _|exact Kd.Q_nil _ _ _ _ _|exact Kd.S_nil _ _ _ _ _,by first|exact Kd.R_nil _ _ _ _ _|exact Kd.N_nil _ _ _ _ _|exact Kd.V_nil _ _ _ _ _|exact Kd.Q_nil _ _ _ _ _|exact Kd.S_nil _ _ _ _ _,by repeat (first|(with_reducible first|exact HB.out|apply below_alloc|apply pw_below_drewN|apply below_drew1|refine below_set ?_ GE273.out)|exact HB.out)⟩
   replace c8:=Bool.eq_false_iff.mpr c8;subst c8
   have H1:(dioramaref19_Empty.l0 kj2 a0 a1 0 a0 a1 ([]:List Int))=some (r1,r2,r3,r4,r5):=by rw [if_neg (show ¬ (false=true) by decide)] at H;exact H
   clear H
   have H:=H1;clear H1
   have H':=Aside0.mk H;clear H
   go_wp2_with (first|((with_reducible refine gate_dst (N:=6) rfl ?_);refine box_event ?hg (N:=6) ?hd (cs:=#[.int .i64 0,.int .i64 0,.slice none 0 0,.slice none 0 0]) (t:=41) ?hr ?_;(case hd=>rfl);(case hg=>rfl);(case hr=>first|(go_simp;done)|(go_simp;rfl));intro gb276 hg w10 hbox hb;have n0_:=Aside0.mk (blk_below (g:=gb273) (blkV BK273.out) hb);have n1_:=Aside0.mk (below_step (belV1 HB.out GE273.out) hb);have n2_:=Aside0.mk (hbox);have n3_:=Aside0.mk ((by rw [hg];exact (below_size (belV1 HB.out GE273.out)):w.heap.size≤gb276));have n4_:=Aside0.mk ((by rw [hg];exact (below_size (belV1 HB.out GE273.out)):w.heap.size≤gb276));have n5_:=Aside0.mk ((by rw [hg];exact Nat.ne_of_lt (blk_lt (g:=gb273) (blkV BK273.out)):gb273≠gb276));have n6_:=Aside0.mk ((by rw [hg];exact Nat.ne_of_gt (blk_lt (g:=gb273) (blkV BK273.out)):gb276≠gb273));clear BK273;clear HB;have BK273:=n0_;have HB:=n1_;have BK276:=n2_;have GW276:=n3_;have GE276:=n4_;have NB273_276:=n5_;have NB276_273:=n6_;clear n0_ n1_ n2_ n3_ n4_ n5_ n6_;clear hb hbox hg;have hnb11:=NB276_273.out;have hnc11:=NB273_276.out;obtain ⟨hcz12_0,hcz12_1,hcz12_2,hcz12_3,hfz12_0,hfz12_1,hfz12_2,hfz12_3⟩:=bcells4 BK276.out))
   go_loopg [7] kj2 (fun kq v7 w'=>∃ (x7_2:Int) (x277003_2:List Int) (u277003:Value),v7=.int .i64 x7_2∧Aside0 (dioramaref19_Empty.l0 kq a0 a1 x7_2 a0 a1 x277003_2=some (r1,r2,r3,r4,r5))∧Aside0 (kq≤kj2)∧Aside0 (Kd.R (Kd.int .i64) 3 w' w.heap.size (fun _=>True) u277003 x277003_2)∧Aside0 (w'.heap[gb273]?=some (.cells #[.int .i64 0,.int .i64 0,(.slice none 0 0),(.slice none 0 0)] 41 (0,0)))∧Aside0 (w'.heap[gb276]?=some (.cells #[.int .i64 a0,.int .i64 a1,(.slice none 0 0),u277003] 41 (0,0)))∧Aside0 (Below w.heap.size w w'))
   case atStart=>exact ⟨(0),(([]:List Int)),(.slice none 0 0),okV,H',⟨Nat.le_refl _⟩,⟨by first|exact Kd.R_nil _ _ _ _ _|exact Kd.N_nil _ _ _ _ _|exact Kd.V_nil _ _ _ _ _|exact Kd.Q_nil _ _ _ _ _|exact Kd.S_nil _ _ _ _ _⟩,⟨blkW BK273.out NB273_276.out⟩,⟨by (with_reducible repeat (first|refine blk_drewN ?_ _|refine blk_drew ?_|refine blk_alloc ?_ _));refine blk_put (cs:=#[.int .i64 a0,.int .i64 a1,.slice none 0 0,.slice none 0 0]) ?_ 3 _ rfl;(with_reducible repeat (first|refine blk_drewN ?_ _|refine blk_drew ?_|refine blk_alloc ?_ _));refine blk_put (cs:=#[.int .i64 a0,.int .i64 a1,.slice none 0 0,.slice none 0 0]) ?_ 2 _ rfl;(with_reducible repeat (first|refine blk_drewN ?_ _|refine blk_drew ?_|refine blk_alloc ?_ _));refine blk_put (cs:=#[.int .i64 a0,.int .i64 0,.slice none 0 0,.slice none 0 0]) ?_ 1 _ rfl;(with_reducible repeat (first|refine blk_drewN ?_ _|refine blk_drew ?_|refine blk_alloc ?_ _));refine blk_put (cs:=#[.int .i64 0,.int .i64 0,.slice none 0 0,.slice none 0 0]) ?_ 0 _ rfl;(with_reducible repeat (first|refine blk_drewN ?_ _|refine blk_drew ?_|refine blk_alloc ?_ _));exact BK276.out⟩,⟨belV2 HB.out GE273.out GE276.out⟩⟩
   case round =>
    clear H'
    try clear c1;try clear c2;try clear p2 p2;try clear c5;try clear c6;try clear c8;try clear c11;try clear hcz12_0 hcz12_1 hcz12_2 hcz12_3;try clear hcz9_0 hcz9_1 hcz9_2 hcz9_3;try clear hfz12_0 hfz12_1 hfz12_2 hfz12_3;try clear hfz9_0 hfz9_1 hfz9_2 hfz9_3
    obtain ⟨x7_2,x277003_2,u277003,rfl,HA,HK2,HO_277003,BK273,BK276,HB⟩:=hrel
    cases gk with
    | zero=>exact absurd HA.out (by simp [dioramaref19_Empty.l0])
    | succ k2 =>
     have H:=HA.out;clear HA
     simp only [dioramaref19_Empty.l0] at H
     by_cases c13:x7_2 < (wrap64 (a0*a1))
     · rw [if_pos c13] at H
       have c13b0:decide (x7_2 < (wrap64 (a0*a1)))=true:=decide_eq_true c13;clear c13
       by_cases c14:x277003_2.length < 17592186044416
       · rw [if_pos c14] at H
         have LMc14:=Aside0.mk c14;clear c14
         obtain ⟨y277,hy277⟩:∃ y_:List Int,y_=(x277003_2 ++ [(-1)]):=⟨_,rfl⟩
         replace H:(dioramaref19_Empty.l0 k2 a0 a1 (wrap64 (x7_2+1)) a0 a1 y277)=some (r1,r2,r3,r4,r5):=by first|(rw [hy277];with_reducible exact H)|(have H2_:=(Option.bind_some _ _).symm.trans H;rw [hy277];with_reducible exact H2_)|(have H2_:=(Option.bind_some _ _).symm.trans H;with_reducible exact H2_)|with_reducible exact H|(rw [hy277];exact H)|exact H
         have Ny277:=Aside0.mk hy277;clear hy277
         have H':=Aside0.mk H;clear H
         have hnb15:=NB276_273.out
         have hnc15:=NB273_276.out
         obtain ⟨hcz16_0,hcz16_1,hcz16_2,hcz16_3,hfz16_0,hfz16_1,hfz16_2,hfz16_3⟩:=bcells4 BK276.out
         go_wp2_with (first|((with_reducible refine gate_builtin (b:=.append) (xs:=#[.tmp 28,.tmp 29]) rfl ?_);at_builtin;refine Kd.R_append (Kd.int .i64) (w0:=w) w.heap.size rfl (.tmp 28) (.tmp 29) 22 3 (.int .i64 0) 8 rfl Try.underlying22 info3 rfl (by decide) (by omega) u277003 x277003_2 (-1) [.int .i64 (-1)] (fun _=>True) (fun _=>False) rfl rfl ?aP (fun _ hk=>hk.elim) ?aF ?aO ?aB ?aS ?aL ?_;(case aP=>exact rfl);(case aB=>exact (belV2 HB.out GE273.out GE276.out));(case aF=>exact (fun _ _=>trivial));(case aO=>exact (rowV HO_277003.out));(case aS=>exact (below_size (belV2 HB.out GE273.out GE276.out)));(case aL=>have:=LMc14.out;omega);intro v278 w17 ho hb hg hat;rw [← Ny277.out] at ho;have n0_:=Aside0.mk (blk_grown (g:=gb273) (blkV BK273.out) hg (Kd.R_ne HO_277003.out BK273.out (by decide)));have n1_:=Aside0.mk (blk_grown (g:=gb276) (blkV BK276.out) hg (Kd.R_ne HO_277003.out BK276.out (by decide)));have n2_:=Aside0.mk (hb);have n3_:=Aside0.mk (ho);clear BK273;clear BK276;clear HB;clear HO_277003;have BK273:=n0_;have BK276:=n1_;have HB:=n2_;have HO279:=n3_;clear n0_ n1_ n2_ n3_;clear ho hb hg hat;obtain ⟨Ao18,co18,eo18⟩:=Kd.R_slice HO279.out;subst eo18;obtain ⟨hcz19_0,hcz19_1,hcz19_2,hcz19_3,hfz19_0,hfz19_1,hfz19_2,hfz19_3⟩:=bcells4 BK276.out))
         go_roundg k2
         case measure=>have:=HJ2.out;have:=HK2.out;omega
         case rel=>exact ⟨(wrap64 (x7_2+1)),(y277),(.slice Ao18 y277.length co18),okV,H',⟨by have:=HJ2.out;have:=HK2.out;omega⟩,⟨by (with_reducible repeat (first|apply Kd.R_alloc|apply Kd.R_drewN|apply Kd.R_drew));exact Kd.R_mono (Kd.R_put1 HO279.out BK276.out (by decide)) (fun _ hk=>trivial)⟩,⟨blkW BK273.out NB273_276.out⟩,⟨by (with_reducible repeat (first|refine blk_drewN ?_ _|refine blk_drew ?_|refine blk_alloc ?_ _));refine blk_put (cs:=#[.int .i64 a0,.int .i64 a1,.slice none 0 0,u277003]) ?_ 3 _ rfl;(with_reducible repeat (first|refine blk_drewN ?_ _|refine blk_drew ?_|refine blk_alloc ?_ _));exact BK276.out⟩,⟨belV2 HB.out GE273.out GE276.out⟩⟩
       rw [if_neg c14] at H
       exact absurd H (by simp)
     rw [if_neg c13] at H
     have c13b0:decide (x7_2 < (wrap64 (a0*a1)))=false:=decide_eq_false c13;clear c13
     simp only [Option.some.injEq,Prod.mk.injEq] at H
     obtain ⟨rfl,rfl,rfl,rfl,rfl⟩:=H
     have hnb20:=NB276_273.out
     have hnc20:=NB273_276.out
     obtain ⟨hcz21_0,hcz21_1,hcz21_2,hcz21_3,hfz21_0,hfz21_1,hfz21_2,hfz21_3⟩:=bcells4 BK276.out
     obtain ⟨hcz22_0,hcz22_1,hcz22_2,hcz22_3,hfz22_0,hfz22_1,hfz22_2,hfz22_3⟩:=bcells4 BK273.out
     obtain ⟨Ao23,co23,eo23⟩:=Kd.R_slice HO_277003.out;subst eo23
     go_wp2
     refine bodyPost_ret (results_ct rfl _ _ gb273 41 #[.int .i64 a0,.int .i64 a1,.slice none 0 0,.slice Ao23 x277003_2.length co23] (0,0) _ rfl (by (with_reducible repeat (first|refine blk_drewN ?_ _|refine blk_drew ?_|refine blk_alloc ?_ _));refine blk_put (cs:=#[.int .i64 a0,.int .i64 a1,.slice none 0 0,.slice none 0 0]) ?_ 3 _ rfl;(with_reducible repeat (first|refine blk_drewN ?_ _|refine blk_drew ?_|refine blk_alloc ?_ _));refine blk_put (cs:=#[.int .i64 a0,.int .i64 a1,.slice none 0 0,.slice none 0 0]) ?_ 2 _ rfl;(with_reducible repeat (first|refine blk_drewN ?_ _|refine blk_drew ?_|refine blk_alloc ?_ _));refine blk_put (cs:=#[.int .i64 a0,.int .i64 0,.slice none 0 0,.slice none 0 0]) ?_ 1 _ rfl;(with_reducible repeat (first|refine blk_drewN ?_ _|refine blk_drew ?_|refine blk_alloc ?_ _));refine blk_put (cs:=#[.int .i64 0,.int .i64 0,.slice none 0 0,.slice none 0 0]) ?_ 0 _ rfl;(with_reducible repeat (first|refine blk_drewN ?_ _|refine blk_drew ?_|refine blk_alloc ?_ _));exact BK273.out) Try.underlying41 rfl (by kernel_rfl)) rfl ?_
     exact ⟨_,_,by first|rfl|(simp [errW_none,errW_some] <;> rfl)|(simp [*,errW_none,errW_some] <;> rfl),by first|exact Kd.R_nil _ _ _ _ _|exact Kd.N_nil _ _ _ _ _|exact Kd.V_nil _ _ _ _ _|exact Kd.Q_nil _ _ _ _ _|exact Kd.S_nil _ _ _ _ _,by (with_reducible repeat (first|apply Kd.R_alloc|apply Kd.R_drewN|apply Kd.R_drew));exact Kd.R_mono (Kd.R_put4 HO_277003.out BK273.out (by decide)) (fun _ hk=>(by simp [Value.ownBlock])),by repeat (first|(with_reducible first|exact HB.out|apply below_alloc|apply pw_below_drewN|apply below_drew1|refine below_set ?_ GE273.out|refine below_set ?_ GE276.out)|exact HB.out)⟩

/-! ### dioramaref19_all: function 51 -/
def dioramaref19_all.l0 : Nat → List Int → Int → Int → Int → Option (Bool)
 | 0,_,_,_,_=>none
 | k+1,x0,x1,x2,x7=>if x7 < (x0.length:Int) then (if 0≤x7 then ((dioramaref19_in.f (rd x0 x7) x1 x2).bind fun t281=>(if t281=true then (dioramaref19_all.l0 k x0 x1 x2 (wrap64 (x7+1))) else (some false))) else (none)) else (some true)
def dioramaref19_all.f (k : Nat) (l0 : List Int) (a1 : Int) (a2 : Int) : Option (Bool) := dioramaref19_all.l0 k l0 a1 a2 0
theorem dioramaref19_all.mono_l:∀ k,(∀ y0 y1 y2 y3,LeO (dioramaref19_all.l0 k y0 y1 y2 y3) (dioramaref19_all.l0 (k+1) y0 y1 y2 y3))
 | 0=>fun _ _ _ _ r h=>by simp [dioramaref19_all.l0] at h
 | k+1=>by
  have ih0:=dioramaref19_all.mono_l k
  · intro y0 y1 y2 y3
    unfold dioramaref19_all.l0
    repeat' first
    | (with_reducible exact ih0 _ _ _ _)
    | (with_reducible exact LeO.refl _)
    | (with_reducible exact LeO.none _)
    | (with_reducible refine LeO.ite ?_ ?_)
    | (with_reducible refine LeO.bind ?_ (fun _=>?_))
    | exact LeO.none _
    | refine LeO.ite ?_ ?_
    | refine LeO.bind ?_ (fun _=>?_)
theorem dioramaref19_all.mono:∀ a0 a1 a2 k,LeO (dioramaref19_all.f k a0 a1 a2) (dioramaref19_all.f (k+1) a0 a1 a2):=by
 intro a0 a1 a2 k
 have ih0:=dioramaref19_all.mono_l k
 unfold dioramaref19_all.f
 repeat' first
  | (with_reducible exact ih0 _ _ _ _)
  | (with_reducible exact LeO.refl _)
  | (with_reducible exact LeO.none _)
  | (with_reducible refine LeO.ite ?_ ?_)
  | (with_reducible refine LeO.bind ?_ (fun _=>?_))
  | exact LeO.none _
  | refine LeO.ite ?_ ?_
  | refine LeO.bind ?_ (fun _=>?_)
set_option maxHeartbeats 8000000 in
set_option maxRecDepth 100000 in
theorem dioramaref19_all.calls (k:Nat) (A0:Option Addr) (c0:Nat) (l0:List Int) (a1:Int) (a2:Int) (r:Bool) (w:World) (hr0:Kd.C (Kd.int .i64) w A0 l0.length l0) (hc0:l0.length≤c0) (h:dioramaref19_all.f k l0 a1 a2=some r) :
 Calls Try.prog 51 #[.slice A0 l0.length c0,.int .i64 a1,.int .i64 a2] w fun e w'=>e=.returned (.bool r)∧Drawn0 w w':=by
 have HR0:=Aside0.mk hr0
 have HC0:=Aside0.mk hc0;clear hr0 hc0
 have H:(dioramaref19_all.l0 k l0 a1 a2 0)=some r:=h;clear h
 have H':=Aside0.mk H;clear H
 go_enter Try.func51,Try.ntmps51
 go_wp2
 go_loopg [7] k (fun kq v7 w'=>∃ (x7_1:Int),v7=.int .i64 x7_1∧Aside0 (dioramaref19_all.l0 kq l0 a1 a2 x7_1=some r)∧Aside0 (kq≤k)∧Drawn0 w w')
 case atStart=>exact ⟨(0),okV,H',⟨Nat.le_refl _⟩,by repeat (first|exact Drawn0.refl _|apply Drawn0.step)⟩
 case round =>
  clear H'
  try clear p2
  obtain ⟨x7_1,rfl,HA,HK1,⟨m1,rfl⟩⟩:=hrel
  cases gk with
  | zero=>exact absurd HA.out (by simp [dioramaref19_all.l0])
  | succ k1 =>
   have H:=HA.out;clear HA
   simp only [dioramaref19_all.l0] at H
   by_cases c4:x7_1 < (l0.length:Int)
   · rw [if_pos c4] at H
     have c4b0:decide (x7_1 < (l0.length:Int))=true:=decide_eq_true c4;clear c4
     by_cases c5:0≤x7_1
     · rw [if_pos c5] at H
       have c5b0:decide (0≤x7_1)=true:=decide_eq_true c5;clear c5
       replace H:=Option.bind_eq_some_iff.mp H
       obtain ⟨t281,A60,H⟩:=H
       replace H:(if t281=true then (dioramaref19_all.l0 k1 l0 a1 a2 (wrap64 (x7_1+1))) else (some false))=some r:=H
       have A6:=Aside0.mk A60;clear A60
       by_cases c7:t281=true
       · subst c7
         have H1:(dioramaref19_all.l0 k1 l0 a1 a2 (wrap64 (x7_1+1)))=some r:=by rw [if_pos rfl] at H;exact H
         clear H
         have H:=H1;clear H1
         have H':=Aside0.mk H;clear H
         have p280:0≤(x7_1:Int):=of_decide_eq_true asV
         have q280:x7_1 < (l0.length:Int):=of_decide_eq_true asV
         obtain ⟨ad280,e280,hx280_0⟩:=Kd.at_int HR0.out x7_1 p280 q280
         cases e280
         replace p280:=eq_true p280
         replace q280:=eq_true q280
         go_wp2_with (first|((with_reducible refine gate_callee (f:=50) rfl ?_);refine goesL_ (some 20) rfl rfl Try.func50 (by kernel_rfl) rfl #[.int .i64 (rd l0 x7_1),.int .i64 a1,.int .i64 a2] rfl (by (try simp only [List.map_toArray,List.map_cons,List.map_nil]);first|done|rfl|(simp only [List.length_drop,List.length_take];rfl)) ?_;(with_reducible refine (dioramaref19_in.calls (rd l0 x7_1) a1 a2 true _ A6.out).mono ?_);rintro e w' ⟨rfl,⟨nd,rfl⟩⟩;refine ⟨_,rfl,?_⟩))
         go_roundg k1
         case measure=>have:=HK1.out;omega
         case rel=>exact ⟨(wrap64 (x7_1+1)),okV,H',⟨by have:=HK1.out;omega⟩,by repeat (first|exact Drawn0.refl _|apply Drawn0.step)⟩
       replace c7:=Bool.eq_false_iff.mpr c7;subst c7
       have H1:(some false)=some r:=by rw [if_neg (show ¬ (false=true) by decide)] at H;exact H
       clear H
       have H:=H1;clear H1
       obtain rfl:=Option.some.inj H
       have p280:0≤(x7_1:Int):=of_decide_eq_true asV
       have q280:x7_1 < (l0.length:Int):=of_decide_eq_true asV
       obtain ⟨ad280,e280,hx280_0⟩:=Kd.at_int HR0.out x7_1 p280 q280
       cases e280
       replace p280:=eq_true p280
       replace q280:=eq_true q280
       go_wp2_with (first|((with_reducible refine gate_callee (f:=50) rfl ?_);refine goesL_ (some 20) rfl rfl Try.func50 (by kernel_rfl) rfl #[.int .i64 (rd l0 x7_1),.int .i64 a1,.int .i64 a2] rfl (by (try simp only [List.map_toArray,List.map_cons,List.map_nil]);first|done|rfl|(simp only [List.length_drop,List.length_take];rfl)) ?_;(with_reducible refine (dioramaref19_in.calls (rd l0 x7_1) a1 a2 false _ A6.out).mono ?_);rintro e w' ⟨rfl,⟨nd,rfl⟩⟩;refine ⟨_,rfl,?_⟩))
       go_ret
       exact ⟨by first|rfl|(simp;done)|(simp [*];done),by repeat (first|exact Drawn0.refl _|apply Drawn0.step)⟩
     rw [if_neg c5] at H
     exact absurd H (by simp)
   rw [if_neg c4] at H
   have c4b0:decide (x7_1 < (l0.length:Int))=false:=decide_eq_false c4;clear c4
   obtain rfl:=Option.some.inj H
   go_wp2
   go_ret
   exact ⟨by first|rfl|(simp;done)|(simp [*];done),by repeat (first|exact Drawn0.refl _|apply Drawn0.step)⟩

/-! ### dioramaref19_place: function 73 -/
def dioramaref19_place.f (a0_0 : Int) (a0_1 : Int) (a0_2 : Int) (a0_3 : Int) (l0_4 : List Int) : Option (Int) := (dioramaref19_in.f a0_0 0 999).bind fun t283 => (if t283 = true then ((dioramaref19_in.f a0_1 0 999).bind fun t284 => (if t284 = true then ((dioramaref19_in.f a0_2 1 64).bind fun t285 => (if t285 = true then ((dioramaref19_in.f a0_3 1 64).bind fun t286 => (if t286 = true then (some 0) else (some 1))) else (some 1))) else (some 1))) else (some 1))
set_option maxHeartbeats 8000000 in
set_option maxRecDepth 100000 in
theorem dioramaref19_place.calls (a0_0:Int) (a0_1:Int) (a0_2:Int) (a0_3:Int) (A0_4:Option Addr) (c0_4:Nat) (l0_4:List Int) (r:Int) (w:World) (hr0_4:Kd.C (Kd.int .i64) w A0_4 l0_4.length l0_4) (hc0_4:l0_4.length≤c0_4) (h:dioramaref19_place.f a0_0 a0_1 a0_2 a0_3 l0_4=some r) :
 Calls Try.prog 73 #[.agg #[.int .i64 a0_0,.int .i64 a0_1,.int .i64 a0_2,.int .i64 a0_3,.slice A0_4 l0_4.length c0_4]] w fun e w'=>e=.returned (.int .i64 r)∧Below w.heap.size w w':=by
 have hu91:=Try.underlying91
 have HR0_4:=Aside0.mk hr0_4
 have HC0_4:=Aside0.mk hc0_4;clear hr0_4 hc0_4;have HB:=Aside0.mk (Below.refl w.heap.size w)
 have H:((dioramaref19_in.f a0_0 0 999).bind fun t283=>(if t283=true then ((dioramaref19_in.f a0_1 0 999).bind fun t284=>(if t284=true then ((dioramaref19_in.f a0_2 1 64).bind fun t285=>(if t285=true then ((dioramaref19_in.f a0_3 1 64).bind fun t286=>(if t286=true then (some 0) else (some 1))) else (some 1))) else (some 1))) else (some 1)))=some r:=h
 clear h
 replace H:=Option.bind_eq_some_iff.mp H
 obtain ⟨t283,A20,H⟩:=H
 replace H:(if t283=true then ((dioramaref19_in.f a0_1 0 999).bind fun t284=>(if t284=true then ((dioramaref19_in.f a0_2 1 64).bind fun t285=>(if t285=true then ((dioramaref19_in.f a0_3 1 64).bind fun t286=>(if t286=true then (some 0) else (some 1))) else (some 1))) else (some 1))) else (some 1))=some r:=H
 have A2:=Aside0.mk A20;clear A20
 by_cases c3:t283=true
 · subst c3
   have H1:((dioramaref19_in.f a0_1 0 999).bind fun t284=>(if t284=true then ((dioramaref19_in.f a0_2 1 64).bind fun t285=>(if t285=true then ((dioramaref19_in.f a0_3 1 64).bind fun t286=>(if t286=true then (some 0) else (some 1))) else (some 1))) else (some 1)))=some r:=by rw [if_pos rfl] at H;exact H
   clear H
   have H:=H1;clear H1
   replace H:=Option.bind_eq_some_iff.mp H
   obtain ⟨t284,A40,H⟩:=H
   replace H:(if t284=true then ((dioramaref19_in.f a0_2 1 64).bind fun t285=>(if t285=true then ((dioramaref19_in.f a0_3 1 64).bind fun t286=>(if t286=true then (some 0) else (some 1))) else (some 1))) else (some 1))=some r:=H
   have A4:=Aside0.mk A40;clear A40
   by_cases c5:t284=true
   · subst c5
     have H1:((dioramaref19_in.f a0_2 1 64).bind fun t285=>(if t285=true then ((dioramaref19_in.f a0_3 1 64).bind fun t286=>(if t286=true then (some 0) else (some 1))) else (some 1)))=some r:=by rw [if_pos rfl] at H;exact H
     clear H
     have H:=H1;clear H1
     replace H:=Option.bind_eq_some_iff.mp H
     obtain ⟨t285,A60,H⟩:=H
     replace H:(if t285=true then ((dioramaref19_in.f a0_3 1 64).bind fun t286=>(if t286=true then (some 0) else (some 1))) else (some 1))=some r:=H
     have A6:=Aside0.mk A60;clear A60
     by_cases c7:t285=true
     · subst c7
       have H1:((dioramaref19_in.f a0_3 1 64).bind fun t286=>(if t286=true then (some 0) else (some 1)))=some r:=by rw [if_pos rfl] at H;exact H
       clear H
       have H:=H1;clear H1
       replace H:=Option.bind_eq_some_iff.mp H
       obtain ⟨t286,A80,H⟩:=H
       replace H:(if t286=true then (some 0) else (some 1))=some r:=H
       have A8:=Aside0.mk A80;clear A80
       by_cases c9:t286=true
       · subst c9
         have H1:(some 0)=some r:=by rw [if_pos rfl] at H;exact H
         clear H
         have H:=H1;clear H1
         obtain rfl:=Option.some.inj H
         go_enter Try.func73,Try.ntmps73
         go_wp2_with (first|((with_reducible refine gate_dst (N:=1) rfl ?_);refine box_event ?hg (N:=1) ?hd (cs:=#[.int .i64 a0_0,.int .i64 a0_1,.int .i64 a0_2,.int .i64 a0_3,.slice A0_4 l0_4.length c0_4]) (t:=91) ?hr ?_;(case hd=>rfl);(case hg=>rfl);(case hr=>first|(go_simp;done)|(go_simp;rfl));intro gb282 hg w10 hbox hb;have n0_:=Aside0.mk (below_step (belV HB.out) hb);have n1_:=Aside0.mk (hbox);have n2_:=Aside0.mk ((by rw [hg];exact (below_size (belV HB.out)):w.heap.size≤gb282));have n3_:=Aside0.mk ((by rw [hg];exact (below_size (belV HB.out)):w.heap.size≤gb282));clear HB;have HB:=n0_;have BK282:=n1_;have GW282:=n2_;have GE282:=n3_;clear n0_ n1_ n2_ n3_;clear hb hbox hg;obtain ⟨hcz11_0,hcz11_1,hcz11_2,hcz11_3,hcz11_4,hfz11_0,hfz11_1,hfz11_2,hfz11_3,hfz11_4⟩:=bcells5 BK282.out)|((with_reducible refine gate_callee (f:=50) rfl ?_);refine goesL_ (some 5) rfl rfl Try.func50 (by kernel_rfl) rfl #[.int .i64 a0_0,.int .i64 0,.int .i64 999] rfl (by (try simp only [List.map_toArray,List.map_cons,List.map_nil]);first|done|rfl|(simp only [List.length_drop,List.length_take];rfl)) ?_;(with_reducible refine (dioramaref19_in.calls a0_0 0 999 true _ A2.out).mono ?_);rintro e w' ⟨rfl,⟨nd,rfl⟩⟩;refine ⟨_,rfl,?_⟩)|(go_at_call 50;(with_reducible refine (dioramaref19_in.calls a0_1 0 999 true _ A4.out).mono ?_);rintro e w' ⟨rfl,⟨nd,rfl⟩⟩)|(go_at_call 50;(with_reducible refine (dioramaref19_in.calls a0_2 1 64 true _ A6.out).mono ?_);rintro e w' ⟨rfl,⟨nd,rfl⟩⟩)|(go_at_call 50;(with_reducible refine (dioramaref19_in.calls a0_3 1 64 true _ A8.out).mono ?_);rintro e w' ⟨rfl,⟨nd,rfl⟩⟩))
         go_ret
         exact ⟨by first|rfl|(simp [errW_none,errW_some] <;> rfl)|(simp [*,errW_none,errW_some] <;> rfl),by repeat (first|(with_reducible first|exact HB.out|apply below_alloc|apply pw_below_drewN|apply below_drew1|refine below_set ?_ GE282.out)|exact HB.out)⟩
       replace c9:=Bool.eq_false_iff.mpr c9;subst c9
       have H1:(some 1)=some r:=by rw [if_neg (show ¬ (false=true) by decide)] at H;exact H
       clear H
       have H:=H1;clear H1
       obtain rfl:=Option.some.inj H
       go_enter Try.func73,Try.ntmps73
       go_wp2_with (first|((with_reducible refine gate_dst (N:=1) rfl ?_);refine box_event ?hg (N:=1) ?hd (cs:=#[.int .i64 a0_0,.int .i64 a0_1,.int .i64 a0_2,.int .i64 a0_3,.slice A0_4 l0_4.length c0_4]) (t:=91) ?hr ?_;(case hd=>rfl);(case hg=>rfl);(case hr=>first|(go_simp;done)|(go_simp;rfl));intro gb282 hg w12 hbox hb;have n0_:=Aside0.mk (below_step (belV HB.out) hb);have n1_:=Aside0.mk (hbox);have n2_:=Aside0.mk ((by rw [hg];exact (below_size (belV HB.out)):w.heap.size≤gb282));have n3_:=Aside0.mk ((by rw [hg];exact (below_size (belV HB.out)):w.heap.size≤gb282));clear HB;have HB:=n0_;have BK282:=n1_;have GW282:=n2_;have GE282:=n3_;clear n0_ n1_ n2_ n3_;clear hb hbox hg;obtain ⟨hcz13_0,hcz13_1,hcz13_2,hcz13_3,hcz13_4,hfz13_0,hfz13_1,hfz13_2,hfz13_3,hfz13_4⟩:=bcells5 BK282.out)|((with_reducible refine gate_callee (f:=50) rfl ?_);refine goesL_ (some 5) rfl rfl Try.func50 (by kernel_rfl) rfl #[.int .i64 a0_0,.int .i64 0,.int .i64 999] rfl (by (try simp only [List.map_toArray,List.map_cons,List.map_nil]);first|done|rfl|(simp only [List.length_drop,List.length_take];rfl)) ?_;(with_reducible refine (dioramaref19_in.calls a0_0 0 999 true _ A2.out).mono ?_);rintro e w' ⟨rfl,⟨nd,rfl⟩⟩;refine ⟨_,rfl,?_⟩)|(go_at_call 50;(with_reducible refine (dioramaref19_in.calls a0_1 0 999 true _ A4.out).mono ?_);rintro e w' ⟨rfl,⟨nd,rfl⟩⟩)|(go_at_call 50;(with_reducible refine (dioramaref19_in.calls a0_2 1 64 true _ A6.out).mono ?_);rintro e w' ⟨rfl,⟨nd,rfl⟩⟩)|(go_at_call 50;(with_reducible refine (dioramaref19_in.calls a0_3 1 64 false _ A8.out).mono ?_);rintro e w' ⟨rfl,⟨nd,rfl⟩⟩))
       go_ret
       exact ⟨by first|rfl|(simp [errW_none,errW_some] <;> rfl)|(simp [*,errW_none,errW_some] <;> rfl),by repeat (first|(with_reducible first|exact HB.out|apply below_alloc|apply pw_below_drewN|apply below_drew1|refine below_set ?_ GE282.out)|exact HB.out)⟩
     replace c7:=Bool.eq_false_iff.mpr c7;subst c7
     have H1:(some 1)=some r:=by rw [if_neg (show ¬ (false=true) by decide)] at H;exact H
     clear H
     have H:=H1;clear H1
     obtain rfl:=Option.some.inj H
     go_enter Try.func73,Try.ntmps73
     go_wp2_with (first|((with_reducible refine gate_dst (N:=1) rfl ?_);refine box_event ?hg (N:=1) ?hd (cs:=#[.int .i64 a0_0,.int .i64 a0_1,.int .i64 a0_2,.int .i64 a0_3,.slice A0_4 l0_4.length c0_4]) (t:=91) ?hr ?_;(case hd=>rfl);(case hg=>rfl);(case hr=>first|(go_simp;done)|(go_simp;rfl));intro gb282 hg w14 hbox hb;have n0_:=Aside0.mk (below_step (belV HB.out) hb);have n1_:=Aside0.mk (hbox);have n2_:=Aside0.mk ((by rw [hg];exact (below_size (belV HB.out)):w.heap.size≤gb282));have n3_:=Aside0.mk ((by rw [hg];exact (below_size (belV HB.out)):w.heap.size≤gb282));clear HB;have HB:=n0_;have BK282:=n1_;have GW282:=n2_;have GE282:=n3_;clear n0_ n1_ n2_ n3_;clear hb hbox hg;obtain ⟨hcz15_0,hcz15_1,hcz15_2,hcz15_3,hcz15_4,hfz15_0,hfz15_1,hfz15_2,hfz15_3,hfz15_4⟩:=bcells5 BK282.out)|((with_reducible refine gate_callee (f:=50) rfl ?_);refine goesL_ (some 5) rfl rfl Try.func50 (by kernel_rfl) rfl #[.int .i64 a0_0,.int .i64 0,.int .i64 999] rfl (by (try simp only [List.map_toArray,List.map_cons,List.map_nil]);first|done|rfl|(simp only [List.length_drop,List.length_take];rfl)) ?_;(with_reducible refine (dioramaref19_in.calls a0_0 0 999 true _ A2.out).mono ?_);rintro e w' ⟨rfl,⟨nd,rfl⟩⟩;refine ⟨_,rfl,?_⟩)|(go_at_call 50;(with_reducible refine (dioramaref19_in.calls a0_1 0 999 true _ A4.out).mono ?_);rintro e w' ⟨rfl,⟨nd,rfl⟩⟩)|(go_at_call 50;(with_reducible refine (dioramaref19_in.calls a0_2 1 64 false _ A6.out).mono ?_);rintro e w' ⟨rfl,⟨nd,rfl⟩⟩))
     go_ret
     exact ⟨by first|rfl|(simp [errW_none,errW_some] <;> rfl)|(simp [*,errW_none,errW_some] <;> rfl),by repeat (first|(with_reducible first|exact HB.out|apply below_alloc|apply pw_below_drewN|apply below_drew1|refine below_set ?_ GE282.out)|exact HB.out)⟩
   replace c5:=Bool.eq_false_iff.mpr c5;subst c5
   have H1:(some 1)=some r:=by rw [if_neg (show ¬ (false=true) by decide)] at H;exact H
   clear H
   have H:=H1;clear H1
   obtain rfl:=Option.some.inj H
   go_enter Try.func73,Try.ntmps73
   go_wp2_with (first|((with_reducible refine gate_dst (N:=1) rfl ?_);refine box_event ?hg (N:=1) ?hd (cs:=#[.int .i64 a0_0,.int .i64 a0_1,.int .i64 a0_2,.int .i64 a0_3,.slice A0_4 l0_4.length c0_4]) (t:=91) ?hr ?_;(case hd=>rfl);(case hg=>rfl);(case hr=>first|(go_simp;done)|(go_simp;rfl));intro gb282 hg w16 hbox hb;have n0_:=Aside0.mk (below_step (belV HB.out) hb);have n1_:=Aside0.mk (hbox);have n2_:=Aside0.mk ((by rw [hg];exact (below_size (belV HB.out)):w.heap.size≤gb282));have n3_:=Aside0.mk ((by rw [hg];exact (below_size (belV HB.out)):w.heap.size≤gb282));clear HB;have HB:=n0_;have BK282:=n1_;have GW282:=n2_;have GE282:=n3_;clear n0_ n1_ n2_ n3_;clear hb hbox hg;obtain ⟨hcz17_0,hcz17_1,hcz17_2,hcz17_3,hcz17_4,hfz17_0,hfz17_1,hfz17_2,hfz17_3,hfz17_4⟩:=bcells5 BK282.out)|((with_reducible refine gate_callee (f:=50) rfl ?_);refine goesL_ (some 5) rfl rfl Try.func50 (by kernel_rfl) rfl #[.int .i64 a0_0,.int .i64 0,.int .i64 999] rfl (by (try simp only [List.map_toArray,List.map_cons,List.map_nil]);first|done|rfl|(simp only [List.length_drop,List.length_take];rfl)) ?_;(with_reducible refine (dioramaref19_in.calls a0_0 0 999 true _ A2.out).mono ?_);rintro e w' ⟨rfl,⟨nd,rfl⟩⟩;refine ⟨_,rfl,?_⟩)|(go_at_call 50;(with_reducible refine (dioramaref19_in.calls a0_1 0 999 false _ A4.out).mono ?_);rintro e w' ⟨rfl,⟨nd,rfl⟩⟩))
   go_ret
   exact ⟨by first|rfl|(simp [errW_none,errW_some] <;> rfl)|(simp [*,errW_none,errW_some] <;> rfl),by repeat (first|(with_reducible first|exact HB.out|apply below_alloc|apply pw_below_drewN|apply below_drew1|refine below_set ?_ GE282.out)|exact HB.out)⟩
 replace c3:=Bool.eq_false_iff.mpr c3;subst c3
 have H1:(some 1)=some r:=by rw [if_neg (show ¬ (false=true) by decide)] at H;exact H
 clear H
 have H:=H1;clear H1
 obtain rfl:=Option.some.inj H
 go_enter Try.func73,Try.ntmps73
 go_wp2_with (first|((with_reducible refine gate_dst (N:=1) rfl ?_);refine box_event ?hg (N:=1) ?hd (cs:=#[.int .i64 a0_0,.int .i64 a0_1,.int .i64 a0_2,.int .i64 a0_3,.slice A0_4 l0_4.length c0_4]) (t:=91) ?hr ?_;(case hd=>rfl);(case hg=>rfl);(case hr=>first|(go_simp;done)|(go_simp;rfl));intro gb282 hg w18 hbox hb;have n0_:=Aside0.mk (below_step (belV HB.out) hb);have n1_:=Aside0.mk (hbox);have n2_:=Aside0.mk ((by rw [hg];exact (below_size (belV HB.out)):w.heap.size≤gb282));have n3_:=Aside0.mk ((by rw [hg];exact (below_size (belV HB.out)):w.heap.size≤gb282));clear HB;have HB:=n0_;have BK282:=n1_;have GW282:=n2_;have GE282:=n3_;clear n0_ n1_ n2_ n3_;clear hb hbox hg;obtain ⟨hcz19_0,hcz19_1,hcz19_2,hcz19_3,hcz19_4,hfz19_0,hfz19_1,hfz19_2,hfz19_3,hfz19_4⟩:=bcells5 BK282.out)|((with_reducible refine gate_callee (f:=50) rfl ?_);refine goesL_ (some 5) rfl rfl Try.func50 (by kernel_rfl) rfl #[.int .i64 a0_0,.int .i64 0,.int .i64 999] rfl (by (try simp only [List.map_toArray,List.map_cons,List.map_nil]);first|done|rfl|(simp only [List.length_drop,List.length_take];rfl)) ?_;(with_reducible refine (dioramaref19_in.calls a0_0 0 999 false _ A2.out).mono ?_);rintro e w' ⟨rfl,⟨nd,rfl⟩⟩;refine ⟨_,rfl,?_⟩))
 go_ret
 exact ⟨by first|rfl|(simp [errW_none,errW_some] <;> rfl)|(simp [*,errW_none,errW_some] <;> rfl),by repeat (first|(with_reducible first|exact HB.out|apply below_alloc|apply pw_below_drewN|apply below_drew1|refine below_set ?_ GE282.out)|exact HB.out)⟩

/-! ### dioramaref19_Check: function 40 -/
mutual
def dioramaref19_Check.j0 : Nat → Bool → Bool → List Int → List (S91) → Option (Int)
 | 0,_,_,_,_=>none
 | k+1,x14,x288000,x288001,x288002=>if x14=true then (some 2) else ((dioramaref19_all.f k x288001 0 16777215).bind fun t288=>(if t288=true then (dioramaref19_Check.l0 k 0 x288000 x288001 x288002) else (some 1)))
def dioramaref19_Check.l0 : Nat → Int → Bool → List Int → List (S91) → Option (Int)
 | 0,_,_,_,_=>none
 | k+1,x3,x288000,x288001,x288002=>if x3 < (x288002.length:Int) then (if 0≤x3 then ((dioramaref19_place.f ((rd_T91 x288002 x3).f0) ((rd_T91 x288002 x3).f1) ((rd_T91 x288002 x3).f2) ((rd_T91 x288002 x3).f3) ((rd_T91 x288002 x3).f4)).bind fun t291=>(if t291=0 then ((dioramaref19_all.f k ((rd_T91 x288002 x3).f4) 0 15).bind fun t292=>(dioramaref19_Check.j2 k x3 (!t292) x288000 x288001 x288002 ((rd_T91 x288002 x3).f0) ((rd_T91 x288002 x3).f1) ((rd_T91 x288002 x3).f2) ((rd_T91 x288002 x3).f3) ((rd_T91 x288002 x3).f4))) else (dioramaref19_Check.j2 k x3 true x288000 x288001 x288002 ((rd_T91 x288002 x3).f0) ((rd_T91 x288002 x3).f1) ((rd_T91 x288002 x3).f2) ((rd_T91 x288002 x3).f3) ((rd_T91 x288002 x3).f4)))) else (none)) else (some 0)
def dioramaref19_Check.j2 : Nat → Int → Bool → Bool → List Int → List (S91) → Int → Int → Int → Int → List Int → Option (Int)
 | 0,_,_,_,_,_,_,_,_,_,_=>none
 | k+1,x3,x39,x288000,x288001,x288002,x291000,x291001,x291002,x291003,x291004=>if x39=true then (some 1) else (if (x291004.length:Int)=(wrap64 (x291002*x291003)) then (dioramaref19_Check.l0 k (wrap64 (x3+1)) x288000 x288001 x288002) else (some 4))
end
def dioramaref19_Check.f (k : Nat) (a0_0 : Bool) (l0_1 : List Int) (l0_2 : List (S91)) : Option (Int) := if (l0_1.length : Int) > 16 then (dioramaref19_Check.j0 k true a0_0 l0_1 l0_2) else (dioramaref19_Check.j0 k (decide ((l0_2.length : Int) > 8)) a0_0 l0_1 l0_2)
theorem dioramaref19_Check.mono_l:∀ k,(∀ y0 y1 y2 y3,LeO (dioramaref19_Check.j0 k y0 y1 y2 y3) (dioramaref19_Check.j0 (k+1) y0 y1 y2 y3))∧(∀ y0 y1 y2 y3,LeO (dioramaref19_Check.l0 k y0 y1 y2 y3) (dioramaref19_Check.l0 (k+1) y0 y1 y2 y3))∧(∀ y0 y1 y2 y3 y4 y5 y6 y7 y8 y9,LeO (dioramaref19_Check.j2 k y0 y1 y2 y3 y4 y5 y6 y7 y8 y9) (dioramaref19_Check.j2 (k+1) y0 y1 y2 y3 y4 y5 y6 y7 y8 y9))
 | 0=>⟨fun _ _ _ _ r h=>by simp [dioramaref19_Check.j0] at h,fun _ _ _ _ r h=>by simp [dioramaref19_Check.l0] at h,fun _ _ _ _ _ _ _ _ _ _ r h=>by simp [dioramaref19_Check.j2] at h⟩
 | k+1=>by
  obtain ⟨ih0,ih1,ih2⟩:=dioramaref19_Check.mono_l k
  refine ⟨?_,?_,?_⟩
  · intro y0 y1 y2 y3
    unfold dioramaref19_Check.j0
    repeat' first
    | (with_reducible exact ih0 _ _ _ _)
    | (with_reducible exact ih1 _ _ _ _)
    | (with_reducible exact ih2 _ _ _ _ _ _ _ _ _ _)
    | (with_reducible exact dioramaref19_all.mono _ _ _ _)
    | (with_reducible exact LeO.refl _)
    | (with_reducible exact LeO.none _)
    | (with_reducible refine LeO.ite ?_ ?_)
    | (with_reducible refine LeO.bind ?_ (fun _=>?_))
    | exact LeO.none _
    | refine LeO.ite ?_ ?_
    | refine LeO.bind ?_ (fun _=>?_)
  · intro y0 y1 y2 y3
    unfold dioramaref19_Check.l0
    repeat' first
    | (with_reducible exact ih0 _ _ _ _)
    | (with_reducible exact ih1 _ _ _ _)
    | (with_reducible exact ih2 _ _ _ _ _ _ _ _ _ _)
    | (with_reducible exact dioramaref19_all.mono _ _ _ _)
    | (with_reducible exact LeO.refl _)
    | (with_reducible exact LeO.none _)
    | (with_reducible refine LeO.ite ?_ ?_)
    | (with_reducible refine LeO.bind ?_ (fun _=>?_))
    | exact LeO.none _
    | refine LeO.ite ?_ ?_
    | refine LeO.bind ?_ (fun _=>?_)
  intro y0 y1 y2 y3 y4 y5 y6 y7 y8 y9
  unfold dioramaref19_Check.j2
  repeat' first
  | (with_reducible exact ih0 _ _ _ _)
  | (with_reducible exact ih1 _ _ _ _)
  | (with_reducible exact ih2 _ _ _ _ _ _ _ _ _ _)
  | (with_reducible exact dioramaref19_all.mono _ _ _ _)
  | (with_reducible exact LeO.refl _)
  | (with_reducible exact LeO.none _)
  | (with_reducible refine LeO.ite ?_ ?_)
  | (with_reducible refine LeO.bind ?_ (fun _=>?_))
  | exact LeO.none _
  | refine LeO.ite ?_ ?_
  | refine LeO.bind ?_ (fun _=>?_)
theorem dioramaref19_Check.mono:∀ a0 a1 a2 k,LeO (dioramaref19_Check.f k a0 a1 a2) (dioramaref19_Check.f (k+1) a0 a1 a2):=by
 intro a0 a1 a2 k
 obtain ⟨ih0,ih1,ih2⟩:=dioramaref19_Check.mono_l k
 unfold dioramaref19_Check.f
 repeat' first
  | (with_reducible exact ih0 _ _ _ _)
  | (with_reducible exact ih1 _ _ _ _)
  | (with_reducible exact ih2 _ _ _ _ _ _ _ _ _ _)
  | (with_reducible exact dioramaref19_all.mono _ _ _ _)
  | (with_reducible exact LeO.refl _)
  | (with_reducible exact LeO.none _)
  | (with_reducible refine LeO.ite ?_ ?_)
  | (with_reducible refine LeO.bind ?_ (fun _=>?_))
  | exact LeO.none _
  | refine LeO.ite ?_ ?_
  | refine LeO.bind ?_ (fun _=>?_)
set_option maxHeartbeats 8000000 in
set_option maxRecDepth 100000 in
theorem dioramaref19_Check.calls (k:Nat) (a0_0:Bool) (A0_1:Option Addr) (c0_1:Nat) (l0_1:List Int) (A0_2:Option Addr) (c0_2:Nat) (l0_2:List (S91)) (r:Int) (w:World) (hr0_1:Kd.C (Kd.int .i64) w A0_1 l0_1.length l0_1) (hc0_1:l0_1.length≤c0_1) (hr0_2:Kd.C k91 w A0_2 l0_2.length l0_2) (hc0_2:l0_2.length≤c0_2) (h:dioramaref19_Check.f k a0_0 l0_1 l0_2=some r) :
 Calls Try.prog 40 #[.agg #[.bool a0_0,.slice A0_1 l0_1.length c0_1,.slice A0_2 l0_2.length c0_2]] w fun e w'=>e=.returned (.int .i64 r)∧Below w.heap.size w w':=by
 have hu51:=Try.underlying51
 have hu91:=Try.underlying91
 have HR0_1:=Aside0.mk hr0_1
 have HC0_1:=Aside0.mk hc0_1;clear hr0_1 hc0_1
 have HR0_2:=Aside0.mk hr0_2
 have HC0_2:=Aside0.mk hc0_2;clear hr0_2 hc0_2;have HB:=Aside0.mk (Below.refl w.heap.size w)
 have H:(if (l0_1.length:Int) > 16 then (dioramaref19_Check.j0 k true a0_0 l0_1 l0_2) else (dioramaref19_Check.j0 k (decide ((l0_2.length:Int) > 8)) a0_0 l0_1 l0_2))=some r:=h;clear h
 have HC2:=Aside0.mk H;clear H
 go_enter Try.func40,Try.ntmps40
 go_upto_region 1 with (first|((with_reducible refine gate_dst (N:=1) rfl ?_);(try (refine gate_guard (by rfl) ?_;dsimp only));refine box_event ?hg (N:=1) ?hd (cs:=#[.bool a0_0,.slice A0_1 l0_1.length c0_1,.slice A0_2 l0_2.length c0_2]) (t:=51) ?hr ?_;(case hd=>rfl);(case hg=>rfl);(case hr=>first|(go_simp;done)|(go_simp;rfl));intro gb287 hg w3 hbox hb;have n0_:=Aside0.mk (below_step (belV HB.out) hb);have n1_:=Aside0.mk (hbox);have n2_:=Aside0.mk ((by rw [hg];exact (below_size (belV HB.out)):w.heap.size≤gb287));have n3_:=Aside0.mk ((by rw [hg];exact (below_size (belV HB.out)):w.heap.size≤gb287));clear HB;have HB:=n0_;have BK287:=n1_;have GW287:=n2_;have GE287:=n3_;clear n0_ n1_ n2_ n3_;clear hb hbox hg))
 (try simp only [Act.put,List.setIfInBounds_toArray,List.set_cons_zero,List.set_cons_succ])
 go_cut [14] (fun v14 wc=>∃ (kq:Nat) (x14_1:Bool),v14=.bool x14_1∧Aside0 (dioramaref19_Check.j0 kq x14_1 a0_0 l0_1 l0_2=some r)∧Aside0 (kq≤k)∧Aside0 (wc.heap[gb287]?=some (.cells #[.bool a0_0,(.slice A0_1 l0_1.length c0_1),(.slice A0_2 l0_2.length c0_2)] 51 (0,0)))∧Aside0 (Below w.heap.size w wc))
 case first =>
  have H:=HC2.out;clear HC2
  by_cases c4:(l0_1.length:Int) > 16
  · rw [if_pos c4] at H
    have c4b0:decide (16 < (l0_1.length:Int))=true:=decide_eq_true c4
    have c4b1:decide (16 < l0_1.length)=true:=decide_eq_true (by omega);clear c4
    (first|rw [c4b0]|(simp only [i64_w,i32_w];rw [c4b0])|rw [c4b1]|skip)
    have H':=Aside0.mk H;clear H
    obtain ⟨hcz5_0,hcz5_1,hcz5_2,hfz5_0,hfz5_1,hfz5_2⟩:=bcells3 BK287.out
    go_wp2
    go_meet
    case rel=>exact ⟨_,(true),okV,H',⟨by first|omega|exact Nat.le_refl _⟩,⟨blkV BK287.out⟩,⟨belV1 HB.out GE287.out⟩⟩
  rw [if_neg c4] at H
  have c4b0:decide (16 < (l0_1.length:Int))=false:=decide_eq_false c4
  have c4b1:decide (16 < l0_1.length)=false:=decide_eq_false (by omega);clear c4
  (first|rw [c4b0]|(simp only [i64_w,i32_w];rw [c4b0])|rw [c4b1]|skip)
  have H':=Aside0.mk H;clear H
  obtain ⟨hcz6_0,hcz6_1,hcz6_2,hfz6_0,hfz6_1,hfz6_2⟩:=bcells3 BK287.out
  go_wp2
  go_meet
  case rel=>exact ⟨_,(decide ((l0_2.length:Int) > 8)),okV,H',⟨by first|omega|exact Nat.le_refl _⟩,⟨blkV BK287.out⟩,⟨belV1 HB.out GE287.out⟩⟩
 case rest =>
  clear HC2
  try clear p2;try clear c4;try clear c4b0;try clear c4b1;try clear hcz5_0 hcz5_1 hcz5_2;try clear hcz6_0 hcz6_1 hcz6_2;try clear hfz5_0 hfz5_1 hfz5_2;try clear hfz6_0 hfz6_1 hfz6_2
  obtain ⟨kq,x14_1,rfl,HA,HJ1,BK287,HB⟩:=hcut
  cases kq with
  | zero=>exact absurd HA.out (by simp [dioramaref19_Check.j0])
  | succ kj1 =>
   have H:=HA.out;clear HA
   simp only [dioramaref19_Check.j0] at H
   by_cases c7:x14_1=true
   · subst c7
     have H1:(some 2)=some r:=by rw [if_pos rfl] at H;exact H
     clear H
     have H:=H1;clear H1
     obtain rfl:=Option.some.inj H
     go_wp2
     go_ret
     exact ⟨by first|rfl|(simp [errW_none,errW_some] <;> rfl)|(simp [*,errW_none,errW_some] <;> rfl),by repeat (first|(with_reducible first|exact HB.out|apply below_alloc|apply pw_below_drewN|apply below_drew1|refine below_set ?_ GE287.out)|exact HB.out)⟩
   replace c7:=Bool.eq_false_iff.mpr c7;subst c7
   have H1:((dioramaref19_all.f kj1 l0_1 0 16777215).bind fun t288=>(if t288=true then (dioramaref19_Check.l0 kj1 0 a0_0 l0_1 l0_2) else (some 1)))=some r:=by rw [if_neg (show ¬ (false=true) by decide)] at H;exact H
   clear H
   have H:=H1;clear H1
   replace H:=Option.bind_eq_some_iff.mp H
   obtain ⟨t288,A80,H⟩:=H
   replace H:(if t288=true then (dioramaref19_Check.l0 kj1 0 a0_0 l0_1 l0_2) else (some 1))=some r:=H
   have A8:=Aside0.mk A80;clear A80
   by_cases c9:t288=true
   · subst c9
     have H1:(dioramaref19_Check.l0 kj1 0 a0_0 l0_1 l0_2)=some r:=by rw [if_pos rfl] at H;exact H
     clear H
     have H:=H1;clear H1
     have H':=Aside0.mk H;clear H
     obtain ⟨hcz10_0,hcz10_1,hcz10_2,hfz10_0,hfz10_1,hfz10_2⟩:=bcells3 BK287.out
     go_wp2_with (first|((with_reducible refine gate_callee (f:=51) rfl ?_);refine goesL_ (some 17) rfl rfl Try.func51 (by kernel_rfl) rfl #[.slice A0_1 l0_1.length c0_1,.int .i64 0,.int .i64 16777215] rfl (by (try simp only [List.map_toArray,List.map_cons,List.map_nil]);first|done|rfl|(simp only [List.length_drop,List.length_take];rfl)) ?_;(with_reducible refine (dioramaref19_all.calls kj1 _ _ l0_1 0 16777215 true _ ?side1 ?side2 A8.out).mono ?_);(case side1=>exact cV (Kd.C_below HR0_1.out HB.out));(case side2=>exact HC0_1.out);rintro e w' ⟨rfl,⟨nd,rfl⟩⟩;refine ⟨_,rfl,?_⟩))
     go_loopg [3] kj1 (fun kq v3 w'=>∃ (x3_2:Int),v3=.int .i64 x3_2∧Aside0 (dioramaref19_Check.l0 kq x3_2 a0_0 l0_1 l0_2=some r)∧Aside0 (kq≤kj1)∧Aside0 (w'.heap[gb287]?=some (.cells #[.bool a0_0,(.slice A0_1 l0_1.length c0_1),(.slice A0_2 l0_2.length c0_2)] 51 (0,0)))∧Aside0 (Below w.heap.size w w'))
     case atStart=>exact ⟨(0),okV,H',⟨Nat.le_refl _⟩,⟨blkV BK287.out⟩,⟨belV1 HB.out GE287.out⟩⟩
     case round =>
      clear H'
      try clear p2 p2;try clear c4;try clear c4b0;try clear c4b1;try clear c5;try clear c7;try clear c9;try clear hcz10_0 hcz10_1 hcz10_2;try clear hcz5_0 hcz5_1 hcz5_2;try clear hcz6_0 hcz6_1 hcz6_2;try clear hfz10_0 hfz10_1 hfz10_2;try clear hfz5_0 hfz5_1 hfz5_2;try clear hfz6_0 hfz6_1 hfz6_2
      obtain ⟨x3_2,rfl,HA,HK2,BK287,HB⟩:=hrel
      cases gk with
      | zero=>exact absurd HA.out (by simp [dioramaref19_Check.l0])
      | succ k2 =>
       have H:=HA.out;clear HA
       simp only [dioramaref19_Check.l0] at H
       by_cases c11:x3_2 < (l0_2.length:Int)
       · rw [if_pos c11] at H
         have c11b0:decide (x3_2 < (l0_2.length:Int))=true:=decide_eq_true c11;clear c11
         by_cases c12:0≤x3_2
         · rw [if_pos c12] at H
           have c12b0:decide (0≤x3_2)=true:=decide_eq_true c12;clear c12
           have HC13:=Aside0.mk H;clear H
           obtain ⟨hcz14_0,hcz14_1,hcz14_2,hfz14_0,hfz14_1,hfz14_2⟩:=bcells3 BK287.out
           have p289:0≤(x3_2:Int):=of_decide_eq_true asV
           have q289:x3_2 < (l0_2.length:Int):=of_decide_eq_true asV
           obtain ⟨ad289,A289_4,c289_4,e289,hx289_0,hx289_1,hx289_2,hx289_3,hx289_4,hl289_4,hi289_4⟩:=at_T91 HR0_2.out x3_2 p289 q289
           cases e289
           replace hx289_0:=(HB.out.cell (World.block_lt_of_cell? w _ hx289_0)).trans hx289_0
           replace hx289_1:=(HB.out.cell (World.block_lt_of_cell? w _ hx289_1)).trans hx289_1
           replace hx289_2:=(HB.out.cell (World.block_lt_of_cell? w _ hx289_2)).trans hx289_2
           replace hx289_3:=(HB.out.cell (World.block_lt_of_cell? w _ hx289_3)).trans hx289_3
           replace hx289_4:=(HB.out.cell (World.block_lt_of_cell? w _ hx289_4)).trans hx289_4
           have HR289_4:=Aside0.mk hi289_4
           have HC289_4:=Aside0.mk hl289_4;clear hi289_4 hl289_4
           replace p289:=eq_true p289
           replace q289:=eq_true q289
           go_upto_region 9 with (first|((with_reducible refine gate_dst (N:=4) rfl ?_);(try (refine gate_guard (by rfl) ?_;dsimp only));refine box_event ?hg (N:=4) ?hd (cs:=#[.int .i64 0,.int .i64 0,.int .i64 0,.int .i64 0,.slice none 0 0]) (t:=91) ?hr ?_;(case hd=>rfl);(case hg=>rfl);(case hr=>first|(go_simp;done)|(go_simp;rfl));intro gb290 hg w15 hbox hb;have n0_:=Aside0.mk (blk_below (g:=gb287) (blkV BK287.out) hb);have n1_:=Aside0.mk (below_step (belV1 HB.out GE287.out) hb);have n2_:=Aside0.mk (hbox);have n3_:=Aside0.mk ((by rw [hg];exact (below_size (belV1 HB.out GE287.out)):w.heap.size≤gb290));have n4_:=Aside0.mk ((by rw [hg];exact (below_size (belV1 HB.out GE287.out)):w.heap.size≤gb290));have n5_:=Aside0.mk ((by rw [hg];exact Nat.ne_of_lt (blk_lt (g:=gb287) (blkV BK287.out)):gb287≠gb290));have n6_:=Aside0.mk ((by rw [hg];exact Nat.ne_of_gt (blk_lt (g:=gb287) (blkV BK287.out)):gb290≠gb287));clear BK287;clear HB;have BK287:=n0_;have HB:=n1_;have BK290:=n2_;have GW290:=n3_;have GE290:=n4_;have NB287_290:=n5_;have NB290_287:=n6_;clear n0_ n1_ n2_ n3_ n4_ n5_ n6_;clear hb hbox hg;have hnb16:=NB290_287.out;have hnc16:=NB287_290.out;obtain ⟨hcz17_0,hcz17_1,hcz17_2,hcz17_3,hcz17_4,hfz17_0,hfz17_1,hfz17_2,hfz17_3,hfz17_4⟩:=bcells5 BK290.out))
           (try simp only [Act.put,List.setIfInBounds_toArray,List.set_cons_zero,List.set_cons_succ])
           go_cut [39] (fun v39 wc=>∃ (kq:Nat) (x39_12:Bool),v39=.bool x39_12∧Aside0 (dioramaref19_Check.j2 kq x3_2 x39_12 a0_0 l0_1 l0_2 ((rd_T91 l0_2 x3_2).f0) ((rd_T91 l0_2 x3_2).f1) ((rd_T91 l0_2 x3_2).f2) ((rd_T91 l0_2 x3_2).f3) ((rd_T91 l0_2 x3_2).f4)=some r)∧Aside0 (kq≤k2)∧Aside0 (wc.heap[gb287]?=some (.cells #[.bool a0_0,(.slice A0_1 l0_1.length c0_1),(.slice (some ad289) l0_2.length c0_2)] 51 (0,0)))∧Aside0 (wc.heap[gb290]?=some (.cells #[.int .i64 ((rd_T91 l0_2 x3_2).f0),.int .i64 ((rd_T91 l0_2 x3_2).f1),.int .i64 ((rd_T91 l0_2 x3_2).f2),.int .i64 ((rd_T91 l0_2 x3_2).f3),(.slice A289_4 ((rd_T91 l0_2 x3_2).f4).length c289_4)] 91 (0,0)))∧Aside0 (Below w.heap.size w wc))
           case first =>
            have H:=HC13.out;clear HC13
            replace H:=Option.bind_eq_some_iff.mp H
            obtain ⟨t291,A180,H⟩:=H
            replace H:(if t291=0 then ((dioramaref19_all.f k2 ((rd_T91 l0_2 x3_2).f4) 0 15).bind fun t292=>(dioramaref19_Check.j2 k2 x3_2 (!t292) a0_0 l0_1 l0_2 ((rd_T91 l0_2 x3_2).f0) ((rd_T91 l0_2 x3_2).f1) ((rd_T91 l0_2 x3_2).f2) ((rd_T91 l0_2 x3_2).f3) ((rd_T91 l0_2 x3_2).f4))) else (dioramaref19_Check.j2 k2 x3_2 true a0_0 l0_1 l0_2 ((rd_T91 l0_2 x3_2).f0) ((rd_T91 l0_2 x3_2).f1) ((rd_T91 l0_2 x3_2).f2) ((rd_T91 l0_2 x3_2).f3) ((rd_T91 l0_2 x3_2).f4)))=some r:=H
            have A18:=Aside0.mk A180;clear A180
            by_cases c19:t291=0
            · rw [if_pos c19] at H
              have c19b0:(t291 == 0)=true:=beq_iff_eq.mpr c19
              have c19b1:(t291 != 0)=false:=bne_eq_false_iff_eq.mpr c19;clear c19
              (first|rw [c19b0]|(simp only [i64_w,i32_w];rw [c19b0])|rw [c19b1]|skip)
              replace H:=Option.bind_eq_some_iff.mp H
              obtain ⟨t292,A200,H⟩:=H
              replace H:(dioramaref19_Check.j2 k2 x3_2 (!t292) a0_0 l0_1 l0_2 ((rd_T91 l0_2 x3_2).f0) ((rd_T91 l0_2 x3_2).f1) ((rd_T91 l0_2 x3_2).f2) ((rd_T91 l0_2 x3_2).f3) ((rd_T91 l0_2 x3_2).f4))=some r:=H
              have A20:=Aside0.mk A200;clear A200
              have H':=Aside0.mk H;clear H
              have hnb21:=NB290_287.out
              have hnc21:=NB287_290.out
              obtain ⟨hcz22_0,hcz22_1,hcz22_2,hcz22_3,hcz22_4,hfz22_0,hfz22_1,hfz22_2,hfz22_3,hfz22_4⟩:=bcells5 BK290.out
              go_wp2_with (first|((with_reducible refine gate_callee (f:=73) rfl ?_);refine goesL_ (some 32) rfl rfl Try.func73 (by kernel_rfl) rfl #[.agg #[.int .i64 ((rd_T91 l0_2 x3_2).f0),.int .i64 ((rd_T91 l0_2 x3_2).f1),.int .i64 ((rd_T91 l0_2 x3_2).f2),.int .i64 ((rd_T91 l0_2 x3_2).f3),.slice A289_4 ((rd_T91 l0_2 x3_2).f4).length c289_4]] rfl (by (try simp only [List.map_toArray,List.map_cons,List.map_nil]);first|done|rfl|(simp only [List.length_drop,List.length_take];rfl)) ?_;(with_reducible refine (dioramaref19_place.calls ((rd_T91 l0_2 x3_2).f0) ((rd_T91 l0_2 x3_2).f1) ((rd_T91 l0_2 x3_2).f2) ((rd_T91 l0_2 x3_2).f3) _ _ ((rd_T91 l0_2 x3_2).f4) t291 _ ?side1 ?side2 A18.out).mono ?_);(case side1=>exact Kd.C_below HR289_4.out (belV2 HB.out GE287.out GE290.out));(case side2=>exact HC289_4.out);rintro e w23 ⟨rfl,hb⟩;refine ⟨_,rfl,?_⟩;have n0_:=Aside0.mk (blk_below (g:=gb287) (o:=.cells #[.bool a0_0,.slice A0_1 l0_1.length c0_1,.slice (some ad289) l0_2.length c0_2] 51 (0,0)) (blkW BK287.out NB287_290.out) hb);have n1_:=Aside0.mk (blk_below (g:=gb290) (o:=.cells #[.int .i64 ((rd_T91 l0_2 x3_2).f0),.int .i64 ((rd_T91 l0_2 x3_2).f1),.int .i64 ((rd_T91 l0_2 x3_2).f2),.int .i64 ((rd_T91 l0_2 x3_2).f3),.slice A289_4 ((rd_T91 l0_2 x3_2).f4).length c289_4] 91 (0,0)) (by (with_reducible repeat (first|refine blk_drewN ?_ _|refine blk_drew ?_|refine blk_alloc ?_ _));refine blk_put (cs:=#[.int .i64 ((rd_T91 l0_2 x3_2).f0),.int .i64 ((rd_T91 l0_2 x3_2).f1),.int .i64 ((rd_T91 l0_2 x3_2).f2),.int .i64 ((rd_T91 l0_2 x3_2).f3),.slice none 0 0]) ?_ 4 _ rfl;(with_reducible repeat (first|refine blk_drewN ?_ _|refine blk_drew ?_|refine blk_alloc ?_ _));refine blk_put (cs:=#[.int .i64 ((rd_T91 l0_2 x3_2).f0),.int .i64 ((rd_T91 l0_2 x3_2).f1),.int .i64 ((rd_T91 l0_2 x3_2).f2),.int .i64 0,.slice none 0 0]) ?_ 3 _ rfl;(with_reducible repeat (first|refine blk_drewN ?_ _|refine blk_drew ?_|refine blk_alloc ?_ _));refine blk_put (cs:=#[.int .i64 ((rd_T91 l0_2 x3_2).f0),.int .i64 ((rd_T91 l0_2 x3_2).f1),.int .i64 0,.int .i64 0,.slice none 0 0]) ?_ 2 _ rfl;(with_reducible repeat (first|refine blk_drewN ?_ _|refine blk_drew ?_|refine blk_alloc ?_ _));refine blk_put (cs:=#[.int .i64 ((rd_T91 l0_2 x3_2).f0),.int .i64 0,.int .i64 0,.int .i64 0,.slice none 0 0]) ?_ 1 _ rfl;(with_reducible repeat (first|refine blk_drewN ?_ _|refine blk_drew ?_|refine blk_alloc ?_ _));refine blk_put (cs:=#[.int .i64 0,.int .i64 0,.int .i64 0,.int .i64 0,.slice none 0 0]) ?_ 0 _ rfl;(with_reducible repeat (first|refine blk_drewN ?_ _|refine blk_drew ?_|refine blk_alloc ?_ _));exact BK290.out) hb);have n2_:=Aside0.mk (below_step (belV2 HB.out GE287.out GE290.out) hb);clear BK287;clear BK290;clear HB;have BK287:=n0_;have BK290:=n1_;have HB:=n2_;clear n0_ n1_ n2_;(try clear hb);(try clear hb2);(try clear hk);(try clear hi);obtain ⟨hcz24_0,hcz24_1,hcz24_2,hcz24_3,hcz24_4,hfz24_0,hfz24_1,hfz24_2,hfz24_3,hfz24_4⟩:=bcells5 BK290.out)|(go_at_call 51;(with_reducible refine (dioramaref19_all.calls k2 _ _ ((rd_T91 l0_2 x3_2).f4) 0 15 t292 _ ?side1 ?side2 A20.out).mono ?_);(case side1=>exact cV (Kd.C_below HR289_4.out HB.out));(case side2=>exact HC289_4.out);rintro e w' ⟨rfl,⟨nd,rfl⟩⟩))
              go_meet
              case rel=>exact ⟨_,(!t292),okV,H',⟨by have:=HJ1.out;have:=HK2.out;first|omega|exact Nat.le_refl _⟩,⟨blkV BK287.out⟩,⟨blkV BK290.out⟩,⟨belV2 HB.out GE287.out GE290.out⟩⟩
            rw [if_neg c19] at H
            have c19b0:(t291 == 0)=false:=beq_eq_false_iff_ne.mpr c19
            have c19b1:(t291 != 0)=true:=bne_iff_ne.mpr c19
            (first|rw [c19b0]|(simp only [i64_w,i32_w];rw [c19b0])|rw [c19b1]|skip)
            have H':=Aside0.mk H;clear H
            have hnb25:=NB290_287.out
            have hnc25:=NB287_290.out
            obtain ⟨hcz26_0,hcz26_1,hcz26_2,hcz26_3,hcz26_4,hfz26_0,hfz26_1,hfz26_2,hfz26_3,hfz26_4⟩:=bcells5 BK290.out
            go_wp2_with (first|((with_reducible refine gate_callee (f:=73) rfl ?_);refine goesL_ (some 32) rfl rfl Try.func73 (by kernel_rfl) rfl #[.agg #[.int .i64 ((rd_T91 l0_2 x3_2).f0),.int .i64 ((rd_T91 l0_2 x3_2).f1),.int .i64 ((rd_T91 l0_2 x3_2).f2),.int .i64 ((rd_T91 l0_2 x3_2).f3),.slice A289_4 ((rd_T91 l0_2 x3_2).f4).length c289_4]] rfl (by (try simp only [List.map_toArray,List.map_cons,List.map_nil]);first|done|rfl|(simp only [List.length_drop,List.length_take];rfl)) ?_;(with_reducible refine (dioramaref19_place.calls ((rd_T91 l0_2 x3_2).f0) ((rd_T91 l0_2 x3_2).f1) ((rd_T91 l0_2 x3_2).f2) ((rd_T91 l0_2 x3_2).f3) _ _ ((rd_T91 l0_2 x3_2).f4) t291 _ ?side1 ?side2 A18.out).mono ?_);(case side1=>exact Kd.C_below HR289_4.out (belV2 HB.out GE287.out GE290.out));(case side2=>exact HC289_4.out);rintro e w27 ⟨rfl,hb⟩;refine ⟨_,rfl,?_⟩;have n0_:=Aside0.mk (blk_below (g:=gb287) (o:=.cells #[.bool a0_0,.slice A0_1 l0_1.length c0_1,.slice (some ad289) l0_2.length c0_2] 51 (0,0)) (blkW BK287.out NB287_290.out) hb);have n1_:=Aside0.mk (blk_below (g:=gb290) (o:=.cells #[.int .i64 ((rd_T91 l0_2 x3_2).f0),.int .i64 ((rd_T91 l0_2 x3_2).f1),.int .i64 ((rd_T91 l0_2 x3_2).f2),.int .i64 ((rd_T91 l0_2 x3_2).f3),.slice A289_4 ((rd_T91 l0_2 x3_2).f4).length c289_4] 91 (0,0)) (by (with_reducible repeat (first|refine blk_drewN ?_ _|refine blk_drew ?_|refine blk_alloc ?_ _));refine blk_put (cs:=#[.int .i64 ((rd_T91 l0_2 x3_2).f0),.int .i64 ((rd_T91 l0_2 x3_2).f1),.int .i64 ((rd_T91 l0_2 x3_2).f2),.int .i64 ((rd_T91 l0_2 x3_2).f3),.slice none 0 0]) ?_ 4 _ rfl;(with_reducible repeat (first|refine blk_drewN ?_ _|refine blk_drew ?_|refine blk_alloc ?_ _));refine blk_put (cs:=#[.int .i64 ((rd_T91 l0_2 x3_2).f0),.int .i64 ((rd_T91 l0_2 x3_2).f1),.int .i64 ((rd_T91 l0_2 x3_2).f2),.int .i64 0,.slice none 0 0]) ?_ 3 _ rfl;(with_reducible repeat (first|refine blk_drewN ?_ _|refine blk_drew ?_|refine blk_alloc ?_ _));refine blk_put (cs:=#[.int .i64 ((rd_T91 l0_2 x3_2).f0),.int .i64 ((rd_T91 l0_2 x3_2).f1),.int .i64 0,.int .i64 0,.slice none 0 0]) ?_ 2 _ rfl;(with_reducible repeat (first|refine blk_drewN ?_ _|refine blk_drew ?_|refine blk_alloc ?_ _));refine blk_put (cs:=#[.int .i64 ((rd_T91 l0_2 x3_2).f0),.int .i64 0,.int .i64 0,.int .i64 0,.slice none 0 0]) ?_ 1 _ rfl;(with_reducible repeat (first|refine blk_drewN ?_ _|refine blk_drew ?_|refine blk_alloc ?_ _));refine blk_put (cs:=#[.int .i64 0,.int .i64 0,.int .i64 0,.int .i64 0,.slice none 0 0]) ?_ 0 _ rfl;(with_reducible repeat (first|refine blk_drewN ?_ _|refine blk_drew ?_|refine blk_alloc ?_ _));exact BK290.out) hb);have n2_:=Aside0.mk (below_step (belV2 HB.out GE287.out GE290.out) hb);clear BK287;clear BK290;clear HB;have BK287:=n0_;have BK290:=n1_;have HB:=n2_;clear n0_ n1_ n2_;(try clear hb);(try clear hb2);(try clear hk);(try clear hi)))
            go_meet
            case rel=>exact ⟨_,(true),okV,H',⟨by have:=HJ1.out;have:=HK2.out;first|omega|exact Nat.le_refl _⟩,⟨blkV BK287.out⟩,⟨blkV BK290.out⟩,⟨belV2 HB.out GE287.out GE290.out⟩⟩
           case rest =>
            clear HC13
            try clear c1;try clear c2;try clear p2 p2;try clear q2;try clear hx2;try clear c4;try clear c4b0;try clear c4b1;try clear c5;try clear c7;try clear c9;try clear c11;try clear c11b0;try clear c12;try clear c12b0;try clear c16;try clear c19;try clear c19b0;try clear c19b1;try clear c21;try clear c25;try clear hcz10_0 hcz10_1 hcz10_2;try clear hcz14_0 hcz14_1 hcz14_2;try clear hcz17_0 hcz17_1 hcz17_2 hcz17_3 hcz17_4;try clear hcz22_0 hcz22_1 hcz22_2 hcz22_3 hcz22_4;try clear hcz24_0 hcz24_1 hcz24_2 hcz24_3 hcz24_4;try clear hcz26_0 hcz26_1 hcz26_2 hcz26_3 hcz26_4;try clear hcz5_0 hcz5_1 hcz5_2;try clear hcz6_0 hcz6_1 hcz6_2;try clear hfz10_0 hfz10_1 hfz10_2;try clear hfz14_0 hfz14_1 hfz14_2;try clear hfz17_0 hfz17_1 hfz17_2 hfz17_3 hfz17_4;try clear hfz22_0 hfz22_1 hfz22_2 hfz22_3 hfz22_4;try clear hfz24_0 hfz24_1 hfz24_2 hfz24_3 hfz24_4;try clear hfz26_0 hfz26_1 hfz26_2 hfz26_3 hfz26_4;try clear hfz5_0 hfz5_1 hfz5_2;try clear hfz6_0 hfz6_1 hfz6_2;try clear hx289_0;try clear hx289_1;try clear hx289_2;try clear hx289_3;try clear hx289_4;try clear p289;try clear q289
            obtain ⟨kq,x39_12,rfl,HA,HJ12,BK287,BK290,HB⟩:=hcut
            cases kq with
            | zero=>exact absurd HA.out (by simp [dioramaref19_Check.j2])
            | succ kj12 =>
             have H:=HA.out;clear HA
             simp only [dioramaref19_Check.j2] at H
             by_cases c28:x39_12=true
             · subst c28
               have H1:(some 1)=some r:=by rw [if_pos rfl] at H;exact H
               clear H
               have H:=H1;clear H1
               obtain rfl:=Option.some.inj H
               go_wp2
               go_ret
               exact ⟨by first|rfl|(simp [errW_none,errW_some] <;> rfl)|(simp [*,errW_none,errW_some] <;> rfl),by repeat (first|(with_reducible first|exact HB.out|apply below_alloc|apply pw_below_drewN|apply below_drew1|refine below_set ?_ GE287.out|refine below_set ?_ GE290.out)|exact HB.out)⟩
             replace c28:=Bool.eq_false_iff.mpr c28;subst c28
             have H1:(if (((rd_T91 l0_2 x3_2).f4).length:Int)=(wrap64 (((rd_T91 l0_2 x3_2).f2)*((rd_T91 l0_2 x3_2).f3))) then (dioramaref19_Check.l0 kj12 (wrap64 (x3_2+1)) a0_0 l0_1 l0_2) else (some 4))=some r:=by rw [if_neg (show ¬ (false=true) by decide)] at H;exact H
             clear H
             have H:=H1;clear H1
             by_cases c29:(((rd_T91 l0_2 x3_2).f4).length:Int)=(wrap64 (((rd_T91 l0_2 x3_2).f2)*((rd_T91 l0_2 x3_2).f3)))
             · rw [if_pos c29] at H
               have c29b0:((((rd_T91 l0_2 x3_2).f4).length:Int) == (wrap64 (((rd_T91 l0_2 x3_2).f2)*((rd_T91 l0_2 x3_2).f3))))=true:=beq_iff_eq.mpr c29
               have c29b1:((((rd_T91 l0_2 x3_2).f4).length:Int) != (wrap64 (((rd_T91 l0_2 x3_2).f2)*((rd_T91 l0_2 x3_2).f3))))=false:=bne_eq_false_iff_eq.mpr c29;clear c29
               have H':=Aside0.mk H;clear H
               have hnb30:=NB290_287.out
               have hnc30:=NB287_290.out
               obtain ⟨hcz31_0,hcz31_1,hcz31_2,hcz31_3,hcz31_4,hfz31_0,hfz31_1,hfz31_2,hfz31_3,hfz31_4⟩:=bcells5 BK290.out
               go_wp2
               go_roundg kj12
               case measure=>have:=HJ1.out;have:=HK2.out;have:=HJ12.out;omega
               case rel=>exact ⟨(wrap64 (x3_2+1)),okV,H',⟨by have:=HJ1.out;have:=HK2.out;have:=HJ12.out;omega⟩,⟨blkV BK287.out⟩,⟨belV2 HB.out GE287.out GE290.out⟩⟩
             rw [if_neg c29] at H
             have c29b0:((((rd_T91 l0_2 x3_2).f4).length:Int) == (wrap64 (((rd_T91 l0_2 x3_2).f2)*((rd_T91 l0_2 x3_2).f3))))=false:=beq_eq_false_iff_ne.mpr c29
             have c29b1:((((rd_T91 l0_2 x3_2).f4).length:Int) != (wrap64 (((rd_T91 l0_2 x3_2).f2)*((rd_T91 l0_2 x3_2).f3))))=true:=bne_iff_ne.mpr c29
             obtain rfl:=Option.some.inj H
             have hnb32:=NB290_287.out
             have hnc32:=NB287_290.out
             obtain ⟨hcz33_0,hcz33_1,hcz33_2,hcz33_3,hcz33_4,hfz33_0,hfz33_1,hfz33_2,hfz33_3,hfz33_4⟩:=bcells5 BK290.out
             go_wp2
             go_ret
             exact ⟨by first|rfl|(simp [errW_none,errW_some] <;> rfl)|(simp [*,errW_none,errW_some] <;> rfl),by repeat (first|(with_reducible first|exact HB.out|apply below_alloc|apply pw_below_drewN|apply below_drew1|refine below_set ?_ GE287.out|refine below_set ?_ GE290.out)|exact HB.out)⟩
         rw [if_neg c12] at H
         exact absurd H (by simp)
       rw [if_neg c11] at H
       have c11b0:decide (x3_2 < (l0_2.length:Int))=false:=decide_eq_false c11;clear c11
       obtain rfl:=Option.some.inj H
       obtain ⟨hcz34_0,hcz34_1,hcz34_2,hfz34_0,hfz34_1,hfz34_2⟩:=bcells3 BK287.out
       go_wp2
       go_ret
       exact ⟨by first|rfl|(simp [errW_none,errW_some] <;> rfl)|(simp [*,errW_none,errW_some] <;> rfl),by repeat (first|(with_reducible first|exact HB.out|apply below_alloc|apply pw_below_drewN|apply below_drew1|refine below_set ?_ GE287.out)|exact HB.out)⟩
   replace c9:=Bool.eq_false_iff.mpr c9;subst c9
   have H1:(some 1)=some r:=by rw [if_neg (show ¬ (false=true) by decide)] at H;exact H
   clear H
   have H:=H1;clear H1
   obtain rfl:=Option.some.inj H
   obtain ⟨hcz35_0,hcz35_1,hcz35_2,hfz35_0,hfz35_1,hfz35_2⟩:=bcells3 BK287.out
   go_wp2_with (first|((with_reducible refine gate_callee (f:=51) rfl ?_);refine goesL_ (some 17) rfl rfl Try.func51 (by kernel_rfl) rfl #[.slice A0_1 l0_1.length c0_1,.int .i64 0,.int .i64 16777215] rfl (by (try simp only [List.map_toArray,List.map_cons,List.map_nil]);first|done|rfl|(simp only [List.length_drop,List.length_take];rfl)) ?_;(with_reducible refine (dioramaref19_all.calls kj1 _ _ l0_1 0 16777215 false _ ?side1 ?side2 A8.out).mono ?_);(case side1=>exact cV (Kd.C_below HR0_1.out HB.out));(case side2=>exact HC0_1.out);rintro e w' ⟨rfl,⟨nd,rfl⟩⟩;refine ⟨_,rfl,?_⟩))
   go_ret
   exact ⟨by first|rfl|(simp [errW_none,errW_some] <;> rfl)|(simp [*,errW_none,errW_some] <;> rfl),by repeat (first|(with_reducible first|exact HB.out|apply below_alloc|apply pw_below_drewN|apply below_drew1|refine below_set ?_ GE287.out)|exact HB.out)⟩

/-! ### dioramaref00_CopyInts: function 64 -/
def dioramaref00_CopyInts.l0 : Nat → List Int → List Int → Int → Option (List Int)
 | 0,_,_,_=>none
 | k+1,x0,x3,x4=>if x4 < (x0.length:Int) then (if 0≤x4 then (if x3.length < 17592186044416 then (dioramaref00_CopyInts.l0 k x0 (x3 ++ [rd x0 x4]) (wrap64 (x4+1))) else (none)) else (none)) else (some x3)
def dioramaref00_CopyInts.f (k : Nat) (l0 : List Int) : Option (List Int) := if 0 ≤ (l0.length : Int) then (if ((l0.length : Int) : Int).toNat ≤ 35184372088832 then (dioramaref00_CopyInts.l0 k l0 (([] : List Int)) 0) else (none)) else (none)
theorem dioramaref00_CopyInts.mono_l:∀ k,(∀ y0 y1 y2,LeO (dioramaref00_CopyInts.l0 k y0 y1 y2) (dioramaref00_CopyInts.l0 (k+1) y0 y1 y2))
 | 0=>fun _ _ _ r h=>by simp [dioramaref00_CopyInts.l0] at h
 | k+1=>by
  have ih0:=dioramaref00_CopyInts.mono_l k
  · intro y0 y1 y2
    unfold dioramaref00_CopyInts.l0
    repeat' first
    | (with_reducible exact ih0 _ _ _)
    | (with_reducible exact LeO.refl _)
    | (with_reducible exact LeO.none _)
    | (with_reducible refine LeO.ite ?_ ?_)
    | (with_reducible refine LeO.bind ?_ (fun _=>?_))
    | exact LeO.none _
    | refine LeO.ite ?_ ?_
    | refine LeO.bind ?_ (fun _=>?_)
theorem dioramaref00_CopyInts.mono:∀ a0 k,LeO (dioramaref00_CopyInts.f k a0) (dioramaref00_CopyInts.f (k+1) a0):=by
 intro a0 k
 have ih0:=dioramaref00_CopyInts.mono_l k
 unfold dioramaref00_CopyInts.f
 repeat' first
  | (with_reducible exact ih0 _ _ _)
  | (with_reducible exact LeO.refl _)
  | (with_reducible exact LeO.none _)
  | (with_reducible refine LeO.ite ?_ ?_)
  | (with_reducible refine LeO.bind ?_ (fun _=>?_))
  | exact LeO.none _
  | refine LeO.ite ?_ ?_
  | refine LeO.bind ?_ (fun _=>?_)
set_option maxHeartbeats 8000000 in
set_option maxRecDepth 100000 in
theorem dioramaref00_CopyInts.calls (k:Nat) (A0:Option Addr) (c0:Nat) (l0:List Int) (r:List Int) (w:World) (hr0:Kd.C (Kd.int .i64) w A0 l0.length l0) (hc0:l0.length≤c0) (h:dioramaref00_CopyInts.f k l0=some r) :
 Calls Try.prog 64 #[.slice A0 l0.length c0] w fun e w'=>∃ v0_:Value,e=.returned (v0_)∧Kd.R (Kd.int .i64) 3 w' w.heap.size (fun _=>True) v0_ r∧Below w.heap.size w w':=by
 have HR0:=Aside0.mk hr0
 have HC0:=Aside0.mk hc0;clear hr0 hc0;have HB:=Aside0.mk (Below.refl w.heap.size w)
 have H:(if 0≤(l0.length:Int) then (if ((l0.length:Int):Int).toNat≤35184372088832 then (dioramaref00_CopyInts.l0 k l0 (([]:List Int)) 0) else (none)) else (none))=some r:=h;clear h
 by_cases c2:0≤(l0.length:Int)
 · rw [if_pos c2] at H
   have c2b0:=eq_true c2
   have c2b1:decide (0≤(l0.length:Int))=true:=decide_eq_true c2;clear c2
   by_cases c3:((l0.length:Int):Int).toNat≤35184372088832
   · rw [if_pos c3] at H
     have c3b0:=eq_true c3
     have c3b1:decide (((l0.length:Int):Int).toNat≤35184372088832)=true:=decide_eq_true c3;clear c3
     obtain ⟨y293,hy293⟩:∃ y_:List Int,y_=(([]:List Int)):=⟨_,rfl⟩
     replace H:(dioramaref00_CopyInts.l0 k l0 y293 0)=some r:=by first|(rw [hy293];with_reducible exact H)|(have H2_:=(Option.bind_some _ _).symm.trans H;rw [hy293];with_reducible exact H2_)|(have H2_:=(Option.bind_some _ _).symm.trans H;with_reducible exact H2_)|with_reducible exact H|(rw [hy293];exact H)|exact H
     have Ny293:=Aside0.mk hy293;clear hy293
     have H':=Aside0.mk H;clear H
     go_enter Try.func64,Try.ntmps64
     go_wp2_with (first|((with_reducible refine gate_dst (N:=7) rfl ?_);refine Kd.R_make0 (Kd.int .i64) _ 3 rfl (N:=7) rfl 22 _ _ rfl (l0.length:Int) rfl rfl Try.underlying22 (.int .i64 0) 8 info3 rfl (by decide) (by omega) 0 (ok:=fun _=>True) (okp:=fun _=>True) rfl (fun _ hk=>hk) trivial (of_decide_eq_true asV) (Nat.le_trans (Nat.mul_le_mul_right _ (of_decide_eq_true asV:(l0.length:Int).toNat≤35184372088832)) (by omega)) (Below.refl _ _) (Nat.le_refl _) ?_;intro v294 w4 ho5 hb hg_ hnew_;clear hg_ hnew_;(first|rw [← Ny293.out] at ho5|(simp only [Int.reduceToNat] at ho5;rw [← Ny293.out] at ho5));have n0_:=Aside0.mk (Kd.R_lower ho5 (below_size (belV HB.out)));have n1_:=Aside0.mk (below_step (belV HB.out) hb);clear HB;have HO295:=n0_;have HB:=n1_;clear n0_ n1_;clear hb ho5))
     go_loopg [3,4] k (fun kq v3 v4 w'=>∃ (x3_1:List Int) (x4_1:Int),v4=.int .i64 x4_1∧Aside0 (dioramaref00_CopyInts.l0 kq l0 x3_1 x4_1=some r)∧Aside0 (kq≤k)∧Aside0 (Kd.R (Kd.int .i64) 3 w' w.heap.size (fun _=>True) v3 x3_1)∧Aside0 (Below w.heap.size w w'))
     case atStart=>exact ⟨(y293),(0),okV,H',⟨Nat.le_refl _⟩,⟨rowV HO295.out⟩,⟨belV HB.out⟩⟩
     case round =>
      clear H'
      try clear c2;try clear c2b0;try clear c2b1;try clear p2;try clear c3;try clear c3b0;try clear c3b1
      obtain ⟨x3_1,x4_1,rfl,HA,HK1,HO_3,HB⟩:=hrel
      cases gk with
      | zero=>exact absurd HA.out (by simp [dioramaref00_CopyInts.l0])
      | succ k1 =>
       have H:=HA.out;clear HA
       simp only [dioramaref00_CopyInts.l0] at H
       by_cases c6:x4_1 < (l0.length:Int)
       · rw [if_pos c6] at H
         have c6b0:decide (x4_1 < (l0.length:Int))=true:=decide_eq_true c6;clear c6
         by_cases c7:0≤x4_1
         · rw [if_pos c7] at H
           have c7b0:decide (0≤x4_1)=true:=decide_eq_true c7;clear c7
           by_cases c8:x3_1.length < 17592186044416
           · rw [if_pos c8] at H
             have LMc8:=Aside0.mk c8;clear c8
             obtain ⟨y297,hy297⟩:∃ y_:List Int,y_=(x3_1 ++ [rd l0 x4_1]):=⟨_,rfl⟩
             replace H:(dioramaref00_CopyInts.l0 k1 l0 y297 (wrap64 (x4_1+1)))=some r:=by first|(rw [hy297];with_reducible exact H)|(have H2_:=(Option.bind_some _ _).symm.trans H;rw [hy297];with_reducible exact H2_)|(have H2_:=(Option.bind_some _ _).symm.trans H;with_reducible exact H2_)|with_reducible exact H|(rw [hy297];exact H)|exact H
             have Ny297:=Aside0.mk hy297;clear hy297
             have H':=Aside0.mk H;clear H
             have p296:0≤(x4_1:Int):=of_decide_eq_true asV
             have q296:x4_1 < (l0.length:Int):=of_decide_eq_true asV
             obtain ⟨ad296,e296,hx296_0⟩:=Kd.at_int HR0.out x4_1 p296 q296
             cases e296
             replace hx296_0:=(HB.out.cell (World.block_lt_of_cell? w _ hx296_0)).trans hx296_0
             replace p296:=eq_true p296
             replace q296:=eq_true q296
             go_wp2_with (first|((with_reducible refine gate_builtin (b:=.append) (xs:=#[.tmp 14,.tmp 19]) rfl ?_);at_builtin;refine Kd.R_append (Kd.int .i64) (w0:=w) w.heap.size rfl (.tmp 14) (.tmp 19) 22 3 (.int .i64 0) 8 rfl Try.underlying22 info3 rfl (by decide) (by omega) u3 x3_1 (rd l0 x4_1) [.int .i64 (rd l0 x4_1)] (fun _=>True) (fun _=>False) rfl rfl ?aP (fun _ hk=>hk.elim) ?aF ?aO ?aB ?aS ?aL ?_;(case aP=>exact rfl);(case aB=>exact (belV HB.out));(case aF=>exact (fun _ _=>trivial));(case aO=>exact (rowV HO_3.out));(case aS=>exact (below_size (belV HB.out)));(case aL=>have:=LMc8.out;omega);intro v298 w9 ho hb hg hat;rw [← Ny297.out] at ho;have n0_:=Aside0.mk (hb);have n1_:=Aside0.mk (ho);clear HB;clear HO_3;have HB:=n0_;have HO299:=n1_;clear n0_ n1_;clear ho hb hg hat))
             go_roundg k1
             case measure=>have:=HK1.out;omega
             case rel=>exact ⟨(y297),(wrap64 (x4_1+1)),okV,H',⟨by have:=HK1.out;omega⟩,⟨rowV HO299.out⟩,⟨belV HB.out⟩⟩
           rw [if_neg c8] at H
           exact absurd H (by simp)
         rw [if_neg c7] at H
         exact absurd H (by simp)
       rw [if_neg c6] at H
       have c6b0:decide (x4_1 < (l0.length:Int))=false:=decide_eq_false c6;clear c6
       obtain rfl:=Option.some.inj H
       go_wp2
       go_ret
       exact ⟨_,by first|rfl|(simp [errW_none,errW_some] <;> rfl)|(simp [*,errW_none,errW_some] <;> rfl),by (with_reducible repeat (first|apply Kd.R_alloc|apply Kd.R_drewN|apply Kd.R_drew));exact HO_3.out,by repeat (first|(with_reducible first|exact HB.out|apply below_alloc|apply pw_below_drewN|apply below_drew1)|exact HB.out)⟩
   rw [if_neg c3] at H
   exact absurd H (by simp)
 rw [if_neg c2] at H
 exact absurd H (by simp)

/-! ### dioramaref19_Valid: function 67 -/
def dioramaref19_Valid.f (k : Nat) (a0_0 : Int) (a0_1 : Int) (l0_2 : List Int) (l0_3 : List Int) : Option (Bool) := (dioramaref19_in.f a0_0 1 200).bind fun t301 => (if t301 = true then ((dioramaref19_in.f a0_1 1 200).bind fun t302 => (if t302 = true then (if (l0_2.length : Int) ≤ 16 then ((dioramaref19_all.f k l0_2 0 16777215).bind fun t303 => (if t303 = true then (if (l0_3.length : Int) = (wrap64 (a0_0 * a0_1)) then ((dioramaref19_all.f k l0_3 (-1) 15).bind fun t304 => (some t304)) else (some false)) else (some false))) else (some false)) else (some false))) else (some false))
theorem dioramaref19_Valid.mono:∀ a0 a1 a2 a3 k,LeO (dioramaref19_Valid.f k a0 a1 a2 a3) (dioramaref19_Valid.f (k+1) a0 a1 a2 a3):=by
 intro a0 a1 a2 a3 k
 unfold dioramaref19_Valid.f
 repeat' first
  | (with_reducible exact dioramaref19_all.mono _ _ _ _)
  | (with_reducible exact LeO.refl _)
  | (with_reducible exact LeO.none _)
  | (with_reducible refine LeO.ite ?_ ?_)
  | (with_reducible refine LeO.bind ?_ (fun _=>?_))
  | exact LeO.none _
  | refine LeO.ite ?_ ?_
  | refine LeO.bind ?_ (fun _=>?_)
set_option maxHeartbeats 8000000 in
set_option maxRecDepth 100000 in
theorem dioramaref19_Valid.calls (k:Nat) (a0_0:Int) (a0_1:Int) (A0_2:Option Addr) (c0_2:Nat) (l0_2:List Int) (A0_3:Option Addr) (c0_3:Nat) (l0_3:List Int) (r:Bool) (w:World) (hr0_2:Kd.C (Kd.int .i64) w A0_2 l0_2.length l0_2) (hc0_2:l0_2.length≤c0_2) (hr0_3:Kd.C (Kd.int .i64) w A0_3 l0_3.length l0_3) (hc0_3:l0_3.length≤c0_3) (h:dioramaref19_Valid.f k a0_0 a0_1 l0_2 l0_3=some r) :
 Calls Try.prog 67 #[.agg #[.int .i64 a0_0,.int .i64 a0_1,.slice A0_2 l0_2.length c0_2,.slice A0_3 l0_3.length c0_3]] w fun e w'=>e=.returned (.bool r)∧Below w.heap.size w w':=by
 have hu41:=Try.underlying41
 have HR0_2:=Aside0.mk hr0_2
 have HC0_2:=Aside0.mk hc0_2;clear hr0_2 hc0_2
 have HR0_3:=Aside0.mk hr0_3
 have HC0_3:=Aside0.mk hc0_3;clear hr0_3 hc0_3;have HB:=Aside0.mk (Below.refl w.heap.size w)
 have H:((dioramaref19_in.f a0_0 1 200).bind fun t301=>(if t301=true then ((dioramaref19_in.f a0_1 1 200).bind fun t302=>(if t302=true then (if (l0_2.length:Int)≤16 then ((dioramaref19_all.f k l0_2 0 16777215).bind fun t303=>(if t303=true then (if (l0_3.length:Int)=(wrap64 (a0_0*a0_1)) then ((dioramaref19_all.f k l0_3 (-1) 15).bind fun t304=>(some t304)) else (some false)) else (some false))) else (some false)) else (some false))) else (some false)))=some r:=h
 clear h
 replace H:=Option.bind_eq_some_iff.mp H
 obtain ⟨t301,A20,H⟩:=H
 replace H:(if t301=true then ((dioramaref19_in.f a0_1 1 200).bind fun t302=>(if t302=true then (if (l0_2.length:Int)≤16 then ((dioramaref19_all.f k l0_2 0 16777215).bind fun t303=>(if t303=true then (if (l0_3.length:Int)=(wrap64 (a0_0*a0_1)) then ((dioramaref19_all.f k l0_3 (-1) 15).bind fun t304=>(some t304)) else (some false)) else (some false))) else (some false)) else (some false))) else (some false))=some r:=H
 have A2:=Aside0.mk A20;clear A20
 by_cases c3:t301=true
 · subst c3
   have H1:((dioramaref19_in.f a0_1 1 200).bind fun t302=>(if t302=true then (if (l0_2.length:Int)≤16 then ((dioramaref19_all.f k l0_2 0 16777215).bind fun t303=>(if t303=true then (if (l0_3.length:Int)=(wrap64 (a0_0*a0_1)) then ((dioramaref19_all.f k l0_3 (-1) 15).bind fun t304=>(some t304)) else (some false)) else (some false))) else (some false)) else (some false)))=some r:=by rw [if_pos rfl] at H;exact H
   clear H
   have H:=H1;clear H1
   replace H:=Option.bind_eq_some_iff.mp H
   obtain ⟨t302,A40,H⟩:=H
   replace H:(if t302=true then (if (l0_2.length:Int)≤16 then ((dioramaref19_all.f k l0_2 0 16777215).bind fun t303=>(if t303=true then (if (l0_3.length:Int)=(wrap64 (a0_0*a0_1)) then ((dioramaref19_all.f k l0_3 (-1) 15).bind fun t304=>(some t304)) else (some false)) else (some false))) else (some false)) else (some false))=some r:=H
   have A4:=Aside0.mk A40;clear A40
   by_cases c5:t302=true
   · subst c5
     have H1:(if (l0_2.length:Int)≤16 then ((dioramaref19_all.f k l0_2 0 16777215).bind fun t303=>(if t303=true then (if (l0_3.length:Int)=(wrap64 (a0_0*a0_1)) then ((dioramaref19_all.f k l0_3 (-1) 15).bind fun t304=>(some t304)) else (some false)) else (some false))) else (some false))=some r:=by rw [if_pos rfl] at H;exact H
     clear H
     have H:=H1;clear H1
     by_cases c6:(l0_2.length:Int)≤16
     · rw [if_pos c6] at H
       have c6b0:decide ((l0_2.length:Int)≤16)=true:=decide_eq_true c6
       have c6b1:decide (l0_2.length≤16)=true:=decide_eq_true (by omega);clear c6
       replace H:=Option.bind_eq_some_iff.mp H
       obtain ⟨t303,A70,H⟩:=H
       replace H:(if t303=true then (if (l0_3.length:Int)=(wrap64 (a0_0*a0_1)) then ((dioramaref19_all.f k l0_3 (-1) 15).bind fun t304=>(some t304)) else (some false)) else (some false))=some r:=H
       have A7:=Aside0.mk A70;clear A70
       by_cases c8:t303=true
       · subst c8
         have H1:(if (l0_3.length:Int)=(wrap64 (a0_0*a0_1)) then ((dioramaref19_all.f k l0_3 (-1) 15).bind fun t304=>(some t304)) else (some false))=some r:=by rw [if_pos rfl] at H;exact H
         clear H
         have H:=H1;clear H1
         by_cases c9:(l0_3.length:Int)=(wrap64 (a0_0*a0_1))
         · rw [if_pos c9] at H
           have c9b0:((l0_3.length:Int) == (wrap64 (a0_0*a0_1)))=true:=beq_iff_eq.mpr c9
           have c9b1:((l0_3.length:Int) != (wrap64 (a0_0*a0_1)))=false:=bne_eq_false_iff_eq.mpr c9;clear c9
           replace H:=Option.bind_eq_some_iff.mp H
           obtain ⟨t304,A100,H⟩:=H
           replace H:(some t304)=some r:=H
           have A10:=Aside0.mk A100;clear A100
           obtain rfl:=Option.some.inj H
           go_enter Try.func67,Try.ntmps67
           go_wp2_with (first|((with_reducible refine gate_dst (N:=1) rfl ?_);(try (refine gate_guard (by rfl) ?_;dsimp only));refine box_event ?hg (N:=1) ?hd (cs:=#[.int .i64 a0_0,.int .i64 a0_1,.slice A0_2 l0_2.length c0_2,.slice A0_3 l0_3.length c0_3]) (t:=41) ?hr ?_;(case hd=>rfl);(case hg=>rfl);(case hr=>first|(go_simp;done)|(go_simp;rfl));intro gb300 hg w11 hbox hb;have n0_:=Aside0.mk (below_step (belV HB.out) hb);have n1_:=Aside0.mk (hbox);have n2_:=Aside0.mk ((by rw [hg];exact (below_size (belV HB.out)):w.heap.size≤gb300));have n3_:=Aside0.mk ((by rw [hg];exact (below_size (belV HB.out)):w.heap.size≤gb300));clear HB;have HB:=n0_;have BK300:=n1_;have GW300:=n2_;have GE300:=n3_;clear n0_ n1_ n2_ n3_;clear hb hbox hg;obtain ⟨hcz12_0,hcz12_1,hcz12_2,hcz12_3,hfz12_0,hfz12_1,hfz12_2,hfz12_3⟩:=bcells4 BK300.out)|((with_reducible refine gate_callee (f:=50) rfl ?_);refine goesL_ (some 5) rfl rfl Try.func50 (by kernel_rfl) rfl #[.int .i64 a0_0,.int .i64 1,.int .i64 200] rfl (by (try simp only [List.map_toArray,List.map_cons,List.map_nil]);first|done|rfl|(simp only [List.length_drop,List.length_take];rfl)) ?_;(with_reducible refine (dioramaref19_in.calls a0_0 1 200 true _ A2.out).mono ?_);rintro e w' ⟨rfl,⟨nd,rfl⟩⟩;refine ⟨_,rfl,?_⟩)|(go_at_call 50;(with_reducible refine (dioramaref19_in.calls a0_1 1 200 true _ A4.out).mono ?_);rintro e w' ⟨rfl,⟨nd,rfl⟩⟩)|(go_at_call 51;(with_reducible refine (dioramaref19_all.calls k _ _ l0_2 0 16777215 true _ ?side1 ?side2 A7.out).mono ?_);(case side1=>repeat (first|exact (Kd.C_below HR0_2.out (belV1 HB.out GE300.out))|(with_reducible refine Kd.C_alloc ?_ _)|(with_reducible refine Kd.C_drewN ?_ _)|(with_reducible refine Kd.C_drew ?_)));(case side2=>exact HC0_2.out);rintro e w' ⟨rfl,⟨nd,rfl⟩⟩)|(go_at_call 51;(with_reducible refine (dioramaref19_all.calls k _ _ l0_3 (-1) 15 t304 _ ?side1 ?side2 A10.out).mono ?_);(case side1=>repeat (first|exact (Kd.C_below HR0_3.out (belV1 HB.out GE300.out))|(with_reducible refine Kd.C_alloc ?_ _)|(with_reducible refine Kd.C_drewN ?_ _)|(with_reducible refine Kd.C_drew ?_)));(case side2=>exact HC0_3.out);rintro e w' ⟨rfl,⟨nd,rfl⟩⟩))
           go_ret
           exact ⟨by first|rfl|(simp [errW_none,errW_some] <;> rfl)|(simp [*,errW_none,errW_some] <;> rfl),by repeat (first|(with_reducible first|exact HB.out|apply below_alloc|apply pw_below_drewN|apply below_drew1|refine below_set ?_ GE300.out)|exact HB.out)⟩
         rw [if_neg c9] at H
         have c9b0:((l0_3.length:Int) == (wrap64 (a0_0*a0_1)))=false:=beq_eq_false_iff_ne.mpr c9
         have c9b1:((l0_3.length:Int) != (wrap64 (a0_0*a0_1)))=true:=bne_iff_ne.mpr c9
         obtain rfl:=Option.some.inj H
         go_enter Try.func67,Try.ntmps67
         go_wp2_with (first|((with_reducible refine gate_dst (N:=1) rfl ?_);(try (refine gate_guard (by rfl) ?_;dsimp only));refine box_event ?hg (N:=1) ?hd (cs:=#[.int .i64 a0_0,.int .i64 a0_1,.slice A0_2 l0_2.length c0_2,.slice A0_3 l0_3.length c0_3]) (t:=41) ?hr ?_;(case hd=>rfl);(case hg=>rfl);(case hr=>first|(go_simp;done)|(go_simp;rfl));intro gb300 hg w13 hbox hb;have n0_:=Aside0.mk (below_step (belV HB.out) hb);have n1_:=Aside0.mk (hbox);have n2_:=Aside0.mk ((by rw [hg];exact (below_size (belV HB.out)):w.heap.size≤gb300));have n3_:=Aside0.mk ((by rw [hg];exact (below_size (belV HB.out)):w.heap.size≤gb300));clear HB;have HB:=n0_;have BK300:=n1_;have GW300:=n2_;have GE300:=n3_;clear n0_ n1_ n2_ n3_;clear hb hbox hg;obtain ⟨hcz14_0,hcz14_1,hcz14_2,hcz14_3,hfz14_0,hfz14_1,hfz14_2,hfz14_3⟩:=bcells4 BK300.out)|((with_reducible refine gate_callee (f:=50) rfl ?_);refine goesL_ (some 5) rfl rfl Try.func50 (by kernel_rfl) rfl #[.int .i64 a0_0,.int .i64 1,.int .i64 200] rfl (by (try simp only [List.map_toArray,List.map_cons,List.map_nil]);first|done|rfl|(simp only [List.length_drop,List.length_take];rfl)) ?_;(with_reducible refine (dioramaref19_in.calls a0_0 1 200 true _ A2.out).mono ?_);rintro e w' ⟨rfl,⟨nd,rfl⟩⟩;refine ⟨_,rfl,?_⟩)|(go_at_call 50;(with_reducible refine (dioramaref19_in.calls a0_1 1 200 true _ A4.out).mono ?_);rintro e w' ⟨rfl,⟨nd,rfl⟩⟩)|(go_at_call 51;(with_reducible refine (dioramaref19_all.calls k _ _ l0_2 0 16777215 true _ ?side1 ?side2 A7.out).mono ?_);(case side1=>repeat (first|exact (Kd.C_below HR0_2.out (belV1 HB.out GE300.out))|(with_reducible refine Kd.C_alloc ?_ _)|(with_reducible refine Kd.C_drewN ?_ _)|(with_reducible refine Kd.C_drew ?_)));(case side2=>exact HC0_2.out);rintro e w' ⟨rfl,⟨nd,rfl⟩⟩))
         go_ret
         exact ⟨by first|rfl|(simp [errW_none,errW_some] <;> rfl)|(simp [*,errW_none,errW_some] <;> rfl),by repeat (first|(with_reducible first|exact HB.out|apply below_alloc|apply pw_below_drewN|apply below_drew1|refine below_set ?_ GE300.out)|exact HB.out)⟩
       replace c8:=Bool.eq_false_iff.mpr c8;subst c8
       have H1:(some false)=some r:=by rw [if_neg (show ¬ (false=true) by decide)] at H;exact H
       clear H
       have H:=H1;clear H1
       obtain rfl:=Option.some.inj H
       go_enter Try.func67,Try.ntmps67
       go_wp2_with (first|((with_reducible refine gate_dst (N:=1) rfl ?_);(try (refine gate_guard (by rfl) ?_;dsimp only));refine box_event ?hg (N:=1) ?hd (cs:=#[.int .i64 a0_0,.int .i64 a0_1,.slice A0_2 l0_2.length c0_2,.slice A0_3 l0_3.length c0_3]) (t:=41) ?hr ?_;(case hd=>rfl);(case hg=>rfl);(case hr=>first|(go_simp;done)|(go_simp;rfl));intro gb300 hg w15 hbox hb;have n0_:=Aside0.mk (below_step (belV HB.out) hb);have n1_:=Aside0.mk (hbox);have n2_:=Aside0.mk ((by rw [hg];exact (below_size (belV HB.out)):w.heap.size≤gb300));have n3_:=Aside0.mk ((by rw [hg];exact (below_size (belV HB.out)):w.heap.size≤gb300));clear HB;have HB:=n0_;have BK300:=n1_;have GW300:=n2_;have GE300:=n3_;clear n0_ n1_ n2_ n3_;clear hb hbox hg;obtain ⟨hcz16_0,hcz16_1,hcz16_2,hcz16_3,hfz16_0,hfz16_1,hfz16_2,hfz16_3⟩:=bcells4 BK300.out)|((with_reducible refine gate_callee (f:=50) rfl ?_);refine goesL_ (some 5) rfl rfl Try.func50 (by kernel_rfl) rfl #[.int .i64 a0_0,.int .i64 1,.int .i64 200] rfl (by (try simp only [List.map_toArray,List.map_cons,List.map_nil]);first|done|rfl|(simp only [List.length_drop,List.length_take];rfl)) ?_;(with_reducible refine (dioramaref19_in.calls a0_0 1 200 true _ A2.out).mono ?_);rintro e w' ⟨rfl,⟨nd,rfl⟩⟩;refine ⟨_,rfl,?_⟩)|(go_at_call 50;(with_reducible refine (dioramaref19_in.calls a0_1 1 200 true _ A4.out).mono ?_);rintro e w' ⟨rfl,⟨nd,rfl⟩⟩)|(go_at_call 51;(with_reducible refine (dioramaref19_all.calls k _ _ l0_2 0 16777215 false _ ?side1 ?side2 A7.out).mono ?_);(case side1=>repeat (first|exact (Kd.C_below HR0_2.out (belV1 HB.out GE300.out))|(with_reducible refine Kd.C_alloc ?_ _)|(with_reducible refine Kd.C_drewN ?_ _)|(with_reducible refine Kd.C_drew ?_)));(case side2=>exact HC0_2.out);rintro e w' ⟨rfl,⟨nd,rfl⟩⟩))
       go_ret
       exact ⟨by first|rfl|(simp [errW_none,errW_some] <;> rfl)|(simp [*,errW_none,errW_some] <;> rfl),by repeat (first|(with_reducible first|exact HB.out|apply below_alloc|apply pw_below_drewN|apply below_drew1|refine below_set ?_ GE300.out)|exact HB.out)⟩
     rw [if_neg c6] at H
     have c6b0:decide ((l0_2.length:Int)≤16)=false:=decide_eq_false c6
     have c6b1:decide (l0_2.length≤16)=false:=decide_eq_false (by omega);clear c6
     obtain rfl:=Option.some.inj H
     go_enter Try.func67,Try.ntmps67
     go_wp2_with (first|((with_reducible refine gate_dst (N:=1) rfl ?_);(try (refine gate_guard (by rfl) ?_;dsimp only));refine box_event ?hg (N:=1) ?hd (cs:=#[.int .i64 a0_0,.int .i64 a0_1,.slice A0_2 l0_2.length c0_2,.slice A0_3 l0_3.length c0_3]) (t:=41) ?hr ?_;(case hd=>rfl);(case hg=>rfl);(case hr=>first|(go_simp;done)|(go_simp;rfl));intro gb300 hg w17 hbox hb;have n0_:=Aside0.mk (below_step (belV HB.out) hb);have n1_:=Aside0.mk (hbox);have n2_:=Aside0.mk ((by rw [hg];exact (below_size (belV HB.out)):w.heap.size≤gb300));have n3_:=Aside0.mk ((by rw [hg];exact (below_size (belV HB.out)):w.heap.size≤gb300));clear HB;have HB:=n0_;have BK300:=n1_;have GW300:=n2_;have GE300:=n3_;clear n0_ n1_ n2_ n3_;clear hb hbox hg;obtain ⟨hcz18_0,hcz18_1,hcz18_2,hcz18_3,hfz18_0,hfz18_1,hfz18_2,hfz18_3⟩:=bcells4 BK300.out)|((with_reducible refine gate_callee (f:=50) rfl ?_);refine goesL_ (some 5) rfl rfl Try.func50 (by kernel_rfl) rfl #[.int .i64 a0_0,.int .i64 1,.int .i64 200] rfl (by (try simp only [List.map_toArray,List.map_cons,List.map_nil]);first|done|rfl|(simp only [List.length_drop,List.length_take];rfl)) ?_;(with_reducible refine (dioramaref19_in.calls a0_0 1 200 true _ A2.out).mono ?_);rintro e w' ⟨rfl,⟨nd,rfl⟩⟩;refine ⟨_,rfl,?_⟩)|(go_at_call 50;(with_reducible refine (dioramaref19_in.calls a0_1 1 200 true _ A4.out).mono ?_);rintro e w' ⟨rfl,⟨nd,rfl⟩⟩))
     go_ret
     exact ⟨by first|rfl|(simp [errW_none,errW_some] <;> rfl)|(simp [*,errW_none,errW_some] <;> rfl),by repeat (first|(with_reducible first|exact HB.out|apply below_alloc|apply pw_below_drewN|apply below_drew1|refine below_set ?_ GE300.out)|exact HB.out)⟩
   replace c5:=Bool.eq_false_iff.mpr c5;subst c5
   have H1:(some false)=some r:=by rw [if_neg (show ¬ (false=true) by decide)] at H;exact H
   clear H
   have H:=H1;clear H1
   obtain rfl:=Option.some.inj H
   go_enter Try.func67,Try.ntmps67
   go_wp2_with (first|((with_reducible refine gate_dst (N:=1) rfl ?_);(try (refine gate_guard (by rfl) ?_;dsimp only));refine box_event ?hg (N:=1) ?hd (cs:=#[.int .i64 a0_0,.int .i64 a0_1,.slice A0_2 l0_2.length c0_2,.slice A0_3 l0_3.length c0_3]) (t:=41) ?hr ?_;(case hd=>rfl);(case hg=>rfl);(case hr=>first|(go_simp;done)|(go_simp;rfl));intro gb300 hg w19 hbox hb;have n0_:=Aside0.mk (below_step (belV HB.out) hb);have n1_:=Aside0.mk (hbox);have n2_:=Aside0.mk ((by rw [hg];exact (below_size (belV HB.out)):w.heap.size≤gb300));have n3_:=Aside0.mk ((by rw [hg];exact (below_size (belV HB.out)):w.heap.size≤gb300));clear HB;have HB:=n0_;have BK300:=n1_;have GW300:=n2_;have GE300:=n3_;clear n0_ n1_ n2_ n3_;clear hb hbox hg;obtain ⟨hcz20_0,hcz20_1,hcz20_2,hcz20_3,hfz20_0,hfz20_1,hfz20_2,hfz20_3⟩:=bcells4 BK300.out)|((with_reducible refine gate_callee (f:=50) rfl ?_);refine goesL_ (some 5) rfl rfl Try.func50 (by kernel_rfl) rfl #[.int .i64 a0_0,.int .i64 1,.int .i64 200] rfl (by (try simp only [List.map_toArray,List.map_cons,List.map_nil]);first|done|rfl|(simp only [List.length_drop,List.length_take];rfl)) ?_;(with_reducible refine (dioramaref19_in.calls a0_0 1 200 true _ A2.out).mono ?_);rintro e w' ⟨rfl,⟨nd,rfl⟩⟩;refine ⟨_,rfl,?_⟩)|(go_at_call 50;(with_reducible refine (dioramaref19_in.calls a0_1 1 200 false _ A4.out).mono ?_);rintro e w' ⟨rfl,⟨nd,rfl⟩⟩))
   go_ret
   exact ⟨by first|rfl|(simp [errW_none,errW_some] <;> rfl)|(simp [*,errW_none,errW_some] <;> rfl),by repeat (first|(with_reducible first|exact HB.out|apply below_alloc|apply pw_below_drewN|apply below_drew1|refine below_set ?_ GE300.out)|exact HB.out)⟩
 replace c3:=Bool.eq_false_iff.mpr c3;subst c3
 have H1:(some false)=some r:=by rw [if_neg (show ¬ (false=true) by decide)] at H;exact H
 clear H
 have H:=H1;clear H1
 obtain rfl:=Option.some.inj H
 go_enter Try.func67,Try.ntmps67
 go_wp2_with (first|((with_reducible refine gate_dst (N:=1) rfl ?_);(try (refine gate_guard (by rfl) ?_;dsimp only));refine box_event ?hg (N:=1) ?hd (cs:=#[.int .i64 a0_0,.int .i64 a0_1,.slice A0_2 l0_2.length c0_2,.slice A0_3 l0_3.length c0_3]) (t:=41) ?hr ?_;(case hd=>rfl);(case hg=>rfl);(case hr=>first|(go_simp;done)|(go_simp;rfl));intro gb300 hg w21 hbox hb;have n0_:=Aside0.mk (below_step (belV HB.out) hb);have n1_:=Aside0.mk (hbox);have n2_:=Aside0.mk ((by rw [hg];exact (below_size (belV HB.out)):w.heap.size≤gb300));have n3_:=Aside0.mk ((by rw [hg];exact (below_size (belV HB.out)):w.heap.size≤gb300));clear HB;have HB:=n0_;have BK300:=n1_;have GW300:=n2_;have GE300:=n3_;clear n0_ n1_ n2_ n3_;clear hb hbox hg;obtain ⟨hcz22_0,hcz22_1,hcz22_2,hcz22_3,hfz22_0,hfz22_1,hfz22_2,hfz22_3⟩:=bcells4 BK300.out)|((with_reducible refine gate_callee (f:=50) rfl ?_);refine goesL_ (some 5) rfl rfl Try.func50 (by kernel_rfl) rfl #[.int .i64 a0_0,.int .i64 1,.int .i64 200] rfl (by (try simp only [List.map_toArray,List.map_cons,List.map_nil]);first|done|rfl|(simp only [List.length_drop,List.length_take];rfl)) ?_;(with_reducible refine (dioramaref19_in.calls a0_0 1 200 false _ A2.out).mono ?_);rintro e w' ⟨rfl,⟨nd,rfl⟩⟩;refine ⟨_,rfl,?_⟩))
 go_ret
 exact ⟨by first|rfl|(simp [errW_none,errW_some] <;> rfl)|(simp [*,errW_none,errW_some] <;> rfl),by repeat (first|(with_reducible first|exact HB.out|apply below_alloc|apply pw_below_drewN|apply below_drew1|refine below_set ?_ GE300.out)|exact HB.out)⟩

end Go.Proofs.Ytaebgjdaoloceaa.QBmpC
