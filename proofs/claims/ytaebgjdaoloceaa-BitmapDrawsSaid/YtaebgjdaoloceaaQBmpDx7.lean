/- Part of a proof: functions of the program as Lean functions, and that the machine's calls come to them. Made by a program of this session (wip/mp). -/
import Derived.Test.YtaebgjdaoloceaaQBmpDx0
import Derived.Test.YtaebgjdaoloceaaQBmpDx4
import Derived.Test.YtaebgjdaoloceaaQBmpDx5
namespace Go.Proofs.Ytaebgjdaoloceaa.QBmpD
open Go.RowKit Go.Proofs.YtaebgjdaoloceaaV Go.Proofs.YtaebgjdaoloceaaW.PrintWords Go.Proofs.YtaebgjdaoloceaaW.PrintLast Go.Proofs.YtaebgjdaoloceaaW.PrintMore
attribute [local go_sem] max2_int min2_int max_two min_two max_three min_three max_four min_four   -- for this text's walks alone
set_option linter.unusedVariables false
set_option linter.unusedSimpArgs false

/-! ### bitmap_Colours: function 32 -/
def bitmap_Colours.l0 : Nat → List Int → List Int → Int → Int → Int → Int → List Int → List Int → Option (List Int × Int)
 | 0,_,_,_,_,_,_,_,_=>none
 | k+1,x4,x11,x12,x13,x299000,x299001,x299002,x299003=>if x13 < x12 then (if 0≤x13 then (if x13 < (x11.length:Int) then (if (rd x11 x13)=(-1) then (if x4.length < 17592186044416 then (bitmap_Colours.l0 k (x4 ++ [(-1)]) x11 x12 (wrap64 (x13+1)) x299000 x299001 x299002 x299003) else (none)) else (if (rd x11 x13) < (x299002.length:Int) then (if 0≤(rd x11 x13) then (if x4.length < 17592186044416 then (bitmap_Colours.l0 k (x4 ++ [rd x299002 (rd x11 x13)]) x11 x12 (wrap64 (x13+1)) x299000 x299001 x299002 x299003) else (none)) else (none)) else (if x4.length < 17592186044416 then (bitmap_Colours.l0 k (x4 ++ [0]) x11 x12 (wrap64 (x13+1)) x299000 x299001 x299002 x299003) else (none)))) else (none)) else (none)) else (some (x4,0))
def bitmap_Colours.f (k : Nat) (a0_0 : Int) (a0_1 : Int) (l0_2 : List Int) (l0_3 : List Int) : Option (List Int × Int) := (bitmap_sound.f k a0_0 a0_1 l0_2 l0_3).bind fun t299 => (if t299 = true then (bitmap_Colours.l0 k ([] : List Int) l0_3 (l0_3.length : Int) 0 a0_0 a0_1 l0_2 l0_3) else (some (([] : List Int), 4)))
theorem bitmap_Colours.mono_l:∀ k,(∀ y0 y1 y2 y3 y4 y5 y6 y7,LeO (bitmap_Colours.l0 k y0 y1 y2 y3 y4 y5 y6 y7) (bitmap_Colours.l0 (k+1) y0 y1 y2 y3 y4 y5 y6 y7))
 | 0=>fun _ _ _ _ _ _ _ _ r h=>by simp [bitmap_Colours.l0] at h
 | k+1=>by
  have ih0:=bitmap_Colours.mono_l k
  · intro y0 y1 y2 y3 y4 y5 y6 y7
    unfold bitmap_Colours.l0
    repeat' first
    | (with_reducible exact ih0 _ _ _ _ _ _ _ _)
    | (with_reducible exact bitmap_sound.mono _ _ _ _ _)
    | (with_reducible exact LeO.refl _)
    | (with_reducible exact LeO.none _)
    | (with_reducible refine LeO.ite ?_ ?_)
    | (with_reducible refine LeO.bind ?_ (fun _=>?_))
    | exact LeO.none _
    | refine LeO.ite ?_ ?_
    | refine LeO.bind ?_ (fun _=>?_)
theorem bitmap_Colours.mono:∀ a0 a1 a2 a3 k,LeO (bitmap_Colours.f k a0 a1 a2 a3) (bitmap_Colours.f (k+1) a0 a1 a2 a3):=by
 intro a0 a1 a2 a3 k
 have ih0:=bitmap_Colours.mono_l k
 unfold bitmap_Colours.f
 repeat' first
  | (with_reducible exact ih0 _ _ _ _ _ _ _ _)
  | (with_reducible exact bitmap_sound.mono _ _ _ _ _)
  | (with_reducible exact LeO.refl _)
  | (with_reducible exact LeO.none _)
  | (with_reducible refine LeO.ite ?_ ?_)
  | (with_reducible refine LeO.bind ?_ (fun _=>?_))
  | exact LeO.none _
  | refine LeO.ite ?_ ?_
  | refine LeO.bind ?_ (fun _=>?_)
set_option maxHeartbeats 8000000 in
set_option maxRecDepth 100000 in
theorem bitmap_Colours.calls (k:Nat) (a0_0:Int) (a0_1:Int) (A0_2:Option Addr) (c0_2:Nat) (l0_2:List Int) (A0_3:Option Addr) (c0_3:Nat) (l0_3:List Int) (r1:List Int) (r2:Int) (w:World) (hr0_2:Kd.C (Kd.int .i64) w A0_2 l0_2.length l0_2) (hc0_2:l0_2.length≤c0_2) (hr0_3:Kd.C (Kd.int .i64) w A0_3 l0_3.length l0_3) (hc0_3:l0_3.length≤c0_3) (h:bitmap_Colours.f k a0_0 a0_1 l0_2 l0_3=some (r1,r2)) :
 Calls Try.prog 32 #[.agg #[.int .i64 a0_0,.int .i64 a0_1,.slice A0_2 l0_2.length c0_2,.slice A0_3 l0_3.length c0_3]] w fun e w'=>∃ v0_:Value,e=.returned (.tuple #[v0_,.int .i64 r2])∧Kd.R (Kd.int .i64) 3 w' w.heap.size (fun _=>True) v0_ r1∧Below w.heap.size w w':=by
 have hu38:=Try.underlying38
 have HR0_2:=Aside0.mk hr0_2
 have HC0_2:=Aside0.mk hc0_2;clear hr0_2 hc0_2
 have HR0_3:=Aside0.mk hr0_3
 have HC0_3:=Aside0.mk hc0_3;clear hr0_3 hc0_3;have HB:=Aside0.mk (Below.refl w.heap.size w)
 have H:((bitmap_sound.f k a0_0 a0_1 l0_2 l0_3).bind fun t299=>(if t299=true then (bitmap_Colours.l0 k ([]:List Int) l0_3 (l0_3.length:Int) 0 a0_0 a0_1 l0_2 l0_3) else (some (([]:List Int),4))))=some (r1,r2):=h
 clear h
 replace H:=Option.bind_eq_some_iff.mp H
 obtain ⟨t299,A20,H⟩:=H
 replace H:(if t299=true then (bitmap_Colours.l0 k ([]:List Int) l0_3 (l0_3.length:Int) 0 a0_0 a0_1 l0_2 l0_3) else (some (([]:List Int),4)))=some (r1,r2):=H
 have A2:=Aside0.mk A20;clear A20
 by_cases c3:t299=true
 · subst c3
   have H1:(bitmap_Colours.l0 k ([]:List Int) l0_3 (l0_3.length:Int) 0 a0_0 a0_1 l0_2 l0_3)=some (r1,r2):=by rw [if_pos rfl] at H;exact H
   clear H
   have H:=H1;clear H1
   have H':=Aside0.mk H;clear H
   go_enter Try.func32,Try.ntmps32
   go_wp2_with (first|((with_reducible refine gate_dst (N:=1) rfl ?_);refine box_event ?hg (N:=1) ?hd (cs:=#[.int .i64 a0_0,.int .i64 a0_1,.slice A0_2 l0_2.length c0_2,.slice A0_3 l0_3.length c0_3]) (t:=38) ?hr ?_;(case hd=>rfl);(case hg=>rfl);(case hr=>first|(go_simp;done)|(go_simp;rfl));intro gb298 hg w4 hbox hb;have n0_:=Aside0.mk (below_step (belV HB.out) hb);have n1_:=Aside0.mk (hbox);have n2_:=Aside0.mk ((by rw [hg];exact (below_size (belV HB.out)):w.heap.size≤gb298));have n3_:=Aside0.mk ((by rw [hg];exact (below_size (belV HB.out)):w.heap.size≤gb298));clear HB;have HB:=n0_;have BK298:=n1_;have GW298:=n2_;have GE298:=n3_;clear n0_ n1_ n2_ n3_;clear hb hbox hg;obtain ⟨hcz5_0,hcz5_1,hcz5_2,hcz5_3,hfz5_0,hfz5_1,hfz5_2,hfz5_3⟩:=bcells4 BK298.out)|((with_reducible refine gate_callee (f:=65) rfl ?_);refine goesL_ (some 8) rfl rfl Try.func65 (by kernel_rfl) rfl #[.agg #[.int .i64 a0_0,.int .i64 a0_1,.slice A0_2 l0_2.length c0_2,.slice A0_3 l0_3.length c0_3]] rfl (by (try simp only [List.map_toArray,List.map_cons,List.map_nil]);first|done|rfl|(simp only [List.length_drop,List.length_take];rfl)) ?_;(with_reducible refine (bitmap_sound.calls k a0_0 a0_1 _ _ l0_2 _ _ l0_3 true _ ?side1 ?side2 ?side3 ?side4 A2.out).mono ?_);(case side1=>exact cV (Kd.C_below HR0_2.out HB.out));(case side2=>exact HC0_2.out);(case side3=>exact cV (Kd.C_below HR0_3.out HB.out));(case side4=>exact HC0_3.out);rintro e w6 ⟨rfl,hb⟩;refine ⟨_,rfl,?_⟩;have n0_:=Aside0.mk (blk_below (g:=gb298) (blkV BK298.out) hb);have n1_:=Aside0.mk (below_step (belV1 HB.out GE298.out) hb);clear BK298;clear HB;have BK298:=n0_;have HB:=n1_;clear n0_ n1_;(try clear hb);(try clear hb2);(try clear hk);(try clear hi);obtain ⟨hcz7_0,hcz7_1,hcz7_2,hcz7_3,hfz7_0,hfz7_1,hfz7_2,hfz7_3⟩:=bcells4 BK298.out))
   go_loopg [4,13] k (fun kq v4 v13 w'=>∃ (x4_1:List Int) (x13_1:Int),v13=.int .i64 x13_1∧Aside0 (bitmap_Colours.l0 kq x4_1 l0_3 (l0_3.length:Int) x13_1 a0_0 a0_1 l0_2 l0_3=some (r1,r2))∧Aside0 (kq≤k)∧Aside0 (Kd.R (Kd.int .i64) 3 w' w.heap.size (fun _=>True) v4 x4_1)∧Aside0 (w'.heap[gb298]?=some (.cells #[.int .i64 a0_0,.int .i64 a0_1,(.slice A0_2 l0_2.length c0_2),(.slice A0_3 l0_3.length c0_3)] 38 (0,0)))∧Aside0 (Below w.heap.size w w'))
   case atStart=>exact ⟨(([]:List Int)),(0),okV,H',⟨Nat.le_refl _⟩,⟨by first|exact Kd.R_nil _ _ _ _ _|exact Kd.N_nil _ _ _ _ _|exact Kd.V_nil _ _ _ _ _|exact Kd.Q_nil _ _ _ _ _|exact Kd.S_nil _ _ _ _ _⟩,⟨blkV BK298.out⟩,⟨belV1 HB.out GE298.out⟩⟩
   case round =>
    clear H'
    try clear p2;try clear c3;try clear c6;try clear hcz5_0 hcz5_1 hcz5_2 hcz5_3;try clear hcz7_0 hcz7_1 hcz7_2 hcz7_3;try clear hfz5_0 hfz5_1 hfz5_2 hfz5_3;try clear hfz7_0 hfz7_1 hfz7_2 hfz7_3
    obtain ⟨x4_1,x13_1,rfl,HA,HK1,HO_4,BK298,HB⟩:=hrel
    cases gk with
    | zero=>exact absurd HA.out (by simp [bitmap_Colours.l0])
    | succ k1 =>
     have H:=HA.out;clear HA
     simp only [bitmap_Colours.l0] at H
     by_cases c8:x13_1 < (l0_3.length:Int)
     · rw [if_pos c8] at H
       have c8b0:decide (x13_1 < (l0_3.length:Int))=true:=decide_eq_true c8;clear c8
       by_cases c9:0≤x13_1
       · rw [if_pos c9] at H
         have c9b0:decide (0≤x13_1)=true:=decide_eq_true c9;clear c9
         by_cases c10:x13_1 < (l0_3.length:Int)
         · rw [if_pos c10] at H
           have c10b0:decide (x13_1 < (l0_3.length:Int))=true:=decide_eq_true c10;clear c10
           by_cases c11:(rd l0_3 x13_1)=(-1)
           · rw [if_pos c11] at H
             have c11b0:((rd l0_3 x13_1) == (-1))=true:=beq_iff_eq.mpr c11
             have c11b1:((rd l0_3 x13_1) != (-1))=false:=bne_eq_false_iff_eq.mpr c11;clear c11
             by_cases c12:x4_1.length < 17592186044416
             · rw [if_pos c12] at H
               have LMc12:=Aside0.mk c12;clear c12
               obtain ⟨y301,hy301⟩:∃ y_:List Int,y_=(x4_1 ++ [(-1)]):=⟨_,rfl⟩
               replace H:(bitmap_Colours.l0 k1 y301 l0_3 (l0_3.length:Int) (wrap64 (x13_1+1)) a0_0 a0_1 l0_2 l0_3)=some (r1,r2):=by first|(rw [hy301];with_reducible exact H)|(have H2_:=(Option.bind_some _ _).symm.trans H;rw [hy301];with_reducible exact H2_)|(have H2_:=(Option.bind_some _ _).symm.trans H;with_reducible exact H2_)|with_reducible exact H|(rw [hy301];exact H)|exact H
               have Ny301:=Aside0.mk hy301;clear hy301
               have H':=Aside0.mk H;clear H
               have p300:0≤(x13_1:Int):=of_decide_eq_true asV
               have q300:x13_1 < (l0_3.length:Int):=of_decide_eq_true asV
               obtain ⟨ad300,e300,hx300_0⟩:=Kd.at_int HR0_3.out x13_1 p300 q300
               cases e300
               replace hx300_0:=(HB.out.cell (World.block_lt_of_cell? w _ hx300_0)).trans hx300_0
               replace p300:=eq_true p300
               replace q300:=eq_true q300
               go_wp2_with (first|((with_reducible refine gate_builtin (b:=.append) (xs:=#[.tmp 23,.tmp 24]) rfl ?_);at_builtin;refine Kd.R_append (Kd.int .i64) (w0:=w) w.heap.size rfl (.tmp 23) (.tmp 24) 22 3 (.int .i64 0) 8 rfl Try.underlying22 info3 rfl (by decide) (by omega) u4 x4_1 (-1) [.int .i64 (-1)] (fun _=>True) (fun _=>False) rfl rfl ?aP (fun _ hk=>hk.elim) ?aF ?aO ?aB ?aS ?aL ?_;(case aP=>exact rfl);(case aB=>exact (belV1 HB.out GE298.out));(case aF=>exact (fun _ _=>trivial));(case aO=>exact (rowV HO_4.out));(case aS=>exact (below_size (belV1 HB.out GE298.out)));(case aL=>have:=LMc12.out;omega);intro v302 w13 ho hb hg hat;rw [← Ny301.out] at ho;have n0_:=Aside0.mk (blk_grown (g:=gb298) (blkV BK298.out) hg (Kd.R_ne HO_4.out BK298.out (by decide)));have n1_:=Aside0.mk (hb);have n2_:=Aside0.mk (ho);clear BK298;clear HB;clear HO_4;have BK298:=n0_;have HB:=n1_;have HO303:=n2_;clear n0_ n1_ n2_;clear ho hb hg hat))
               go_roundg k1
               case measure=>have:=HK1.out;omega
               case rel=>exact ⟨(y301),(wrap64 (x13_1+1)),okV,H',⟨by have:=HK1.out;omega⟩,⟨rowV HO303.out⟩,⟨blkV BK298.out⟩,⟨belV1 HB.out GE298.out⟩⟩
             rw [if_neg c12] at H
             exact absurd H (by simp)
           rw [if_neg c11] at H
           have c11b0:((rd l0_3 x13_1) == (-1))=false:=beq_eq_false_iff_ne.mpr c11
           have c11b1:((rd l0_3 x13_1) != (-1))=true:=bne_iff_ne.mpr c11
           by_cases c14:(rd l0_3 x13_1) < (l0_2.length:Int)
           · rw [if_pos c14] at H
             have c14b0:decide ((rd l0_3 x13_1) < (l0_2.length:Int))=true:=decide_eq_true c14;clear c14
             by_cases c15:0≤(rd l0_3 x13_1)
             · rw [if_pos c15] at H
               have c15b0:decide (0≤(rd l0_3 x13_1))=true:=decide_eq_true c15;clear c15
               by_cases c16:x4_1.length < 17592186044416
               · rw [if_pos c16] at H
                 have LMc16:=Aside0.mk c16;clear c16
                 obtain ⟨y305,hy305⟩:∃ y_:List Int,y_=(x4_1 ++ [rd l0_2 (rd l0_3 x13_1)]):=⟨_,rfl⟩
                 replace H:(bitmap_Colours.l0 k1 y305 l0_3 (l0_3.length:Int) (wrap64 (x13_1+1)) a0_0 a0_1 l0_2 l0_3)=some (r1,r2):=by first|(rw [hy305];with_reducible exact H)|(have H2_:=(Option.bind_some _ _).symm.trans H;rw [hy305];with_reducible exact H2_)|(have H2_:=(Option.bind_some _ _).symm.trans H;with_reducible exact H2_)|with_reducible exact H|(rw [hy305];exact H)|exact H
                 have Ny305:=Aside0.mk hy305;clear hy305
                 have H':=Aside0.mk H;clear H
                 have p300:0≤(x13_1:Int):=of_decide_eq_true asV
                 have q300:x13_1 < (l0_3.length:Int):=of_decide_eq_true asV
                 obtain ⟨ad300,e300,hx300_0⟩:=Kd.at_int HR0_3.out x13_1 p300 q300
                 cases e300
                 replace hx300_0:=(HB.out.cell (World.block_lt_of_cell? w _ hx300_0)).trans hx300_0
                 replace p300:=eq_true p300
                 replace q300:=eq_true q300
                 obtain ⟨hcz17_0,hcz17_1,hcz17_2,hcz17_3,hfz17_0,hfz17_1,hfz17_2,hfz17_3⟩:=bcells4 BK298.out
                 have p304:0≤((rd l0_3 x13_1):Int):=of_decide_eq_true asV
                 have q304:(rd l0_3 x13_1) < (l0_2.length:Int):=of_decide_eq_true asV
                 obtain ⟨ad304,e304,hx304_0⟩:=Kd.at_int HR0_2.out (rd l0_3 x13_1) p304 q304
                 cases e304
                 replace hx304_0:=(HB.out.cell (World.block_lt_of_cell? w _ hx304_0)).trans hx304_0
                 replace p304:=eq_true p304
                 replace q304:=eq_true q304
                 go_wp2_with (first|((with_reducible refine gate_builtin (b:=.append) (xs:=#[.tmp 32,.tmp 38]) rfl ?_);at_builtin;refine Kd.R_append (Kd.int .i64) (w0:=w) w.heap.size rfl (.tmp 32) (.tmp 38) 22 3 (.int .i64 0) 8 rfl Try.underlying22 info3 rfl (by decide) (by omega) u4 x4_1 (rd l0_2 (rd l0_3 x13_1)) [.int .i64 (rd l0_2 (rd l0_3 x13_1))] (fun _=>True) (fun _=>False) rfl rfl ?aP (fun _ hk=>hk.elim) ?aF ?aO ?aB ?aS ?aL ?_;(case aP=>exact rfl);(case aB=>exact (belV1 HB.out GE298.out));(case aF=>exact (fun _ _=>trivial));(case aO=>exact (rowV HO_4.out));(case aS=>exact (below_size (belV1 HB.out GE298.out)));(case aL=>have:=LMc16.out;omega);intro v306 w18 ho hb hg hat;rw [← Ny305.out] at ho;have n0_:=Aside0.mk (blk_grown (g:=gb298) (blkV BK298.out) hg (Kd.R_ne HO_4.out BK298.out (by decide)));have n1_:=Aside0.mk (hb);have n2_:=Aside0.mk (ho);clear BK298;clear HB;clear HO_4;have BK298:=n0_;have HB:=n1_;have HO307:=n2_;clear n0_ n1_ n2_;clear ho hb hg hat))
                 go_roundg k1
                 case measure=>have:=HK1.out;omega
                 case rel=>exact ⟨(y305),(wrap64 (x13_1+1)),okV,H',⟨by have:=HK1.out;omega⟩,⟨rowV HO307.out⟩,⟨blkV BK298.out⟩,⟨belV1 HB.out GE298.out⟩⟩
               rw [if_neg c16] at H
               exact absurd H (by simp)
             rw [if_neg c15] at H
             exact absurd H (by simp)
           rw [if_neg c14] at H
           have c14b0:decide ((rd l0_3 x13_1) < (l0_2.length:Int))=false:=decide_eq_false c14;clear c14
           by_cases c19:x4_1.length < 17592186044416
           · rw [if_pos c19] at H
             have LMc19:=Aside0.mk c19;clear c19
             obtain ⟨y308,hy308⟩:∃ y_:List Int,y_=(x4_1 ++ [0]):=⟨_,rfl⟩
             replace H:(bitmap_Colours.l0 k1 y308 l0_3 (l0_3.length:Int) (wrap64 (x13_1+1)) a0_0 a0_1 l0_2 l0_3)=some (r1,r2):=by first|(rw [hy308];with_reducible exact H)|(have H2_:=(Option.bind_some _ _).symm.trans H;rw [hy308];with_reducible exact H2_)|(have H2_:=(Option.bind_some _ _).symm.trans H;with_reducible exact H2_)|with_reducible exact H|(rw [hy308];exact H)|exact H
             have Ny308:=Aside0.mk hy308;clear hy308
             have H':=Aside0.mk H;clear H
             have p300:0≤(x13_1:Int):=of_decide_eq_true asV
             have q300:x13_1 < (l0_3.length:Int):=of_decide_eq_true asV
             obtain ⟨ad300,e300,hx300_0⟩:=Kd.at_int HR0_3.out x13_1 p300 q300
             cases e300
             replace hx300_0:=(HB.out.cell (World.block_lt_of_cell? w _ hx300_0)).trans hx300_0
             replace p300:=eq_true p300
             replace q300:=eq_true q300
             obtain ⟨hcz20_0,hcz20_1,hcz20_2,hcz20_3,hfz20_0,hfz20_1,hfz20_2,hfz20_3⟩:=bcells4 BK298.out
             go_wp2_with (first|((with_reducible refine gate_builtin (b:=.append) (xs:=#[.tmp 17,.tmp 18]) rfl ?_);at_builtin;refine Kd.R_append (Kd.int .i64) (w0:=w) w.heap.size rfl (.tmp 17) (.tmp 18) 22 3 (.int .i64 0) 8 rfl Try.underlying22 info3 rfl (by decide) (by omega) u4 x4_1 0 [.int .i64 0] (fun _=>True) (fun _=>False) rfl rfl ?aP (fun _ hk=>hk.elim) ?aF ?aO ?aB ?aS ?aL ?_;(case aP=>exact rfl);(case aB=>exact (belV1 HB.out GE298.out));(case aF=>exact (fun _ _=>trivial));(case aO=>exact (rowV HO_4.out));(case aS=>exact (below_size (belV1 HB.out GE298.out)));(case aL=>have:=LMc19.out;omega);intro v309 w21 ho hb hg hat;rw [← Ny308.out] at ho;have n0_:=Aside0.mk (blk_grown (g:=gb298) (blkV BK298.out) hg (Kd.R_ne HO_4.out BK298.out (by decide)));have n1_:=Aside0.mk (hb);have n2_:=Aside0.mk (ho);clear BK298;clear HB;clear HO_4;have BK298:=n0_;have HB:=n1_;have HO310:=n2_;clear n0_ n1_ n2_;clear ho hb hg hat))
             go_roundg k1
             case measure=>have:=HK1.out;omega
             case rel=>exact ⟨(y308),(wrap64 (x13_1+1)),okV,H',⟨by have:=HK1.out;omega⟩,⟨rowV HO310.out⟩,⟨blkV BK298.out⟩,⟨belV1 HB.out GE298.out⟩⟩
           rw [if_neg c19] at H
           exact absurd H (by simp)
         rw [if_neg c10] at H
         exact absurd H (by simp)
       rw [if_neg c9] at H
       exact absurd H (by simp)
     rw [if_neg c8] at H
     have c8b0:decide (x13_1 < (l0_3.length:Int))=false:=decide_eq_false c8;clear c8
     simp only [Option.some.injEq,Prod.mk.injEq] at H
     obtain ⟨rfl,rfl⟩:=H
     go_wp2
     go_ret2
     exact ⟨_,by first|rfl|(simp [errW_none,errW_some] <;> rfl)|(simp [*,errW_none,errW_some] <;> rfl),by (with_reducible repeat (first|apply Kd.R_alloc|apply Kd.R_drewN|apply Kd.R_drew));exact HO_4.out,by repeat (first|(with_reducible first|exact HB.out|apply below_alloc|apply pw_below_drewN|apply below_drew1|refine below_set ?_ GE298.out)|exact HB.out)⟩
 replace c3:=Bool.eq_false_iff.mpr c3;subst c3
 have H1:(some (([]:List Int),4))=some (r1,r2):=by rw [if_neg (show ¬ (false=true) by decide)] at H;exact H
 clear H
 have H:=H1;clear H1
 simp only [Option.some.injEq,Prod.mk.injEq] at H
 obtain ⟨rfl,rfl⟩:=H
 go_enter Try.func32,Try.ntmps32
 go_wp2_with (first|((with_reducible refine gate_dst (N:=1) rfl ?_);refine box_event ?hg (N:=1) ?hd (cs:=#[.int .i64 a0_0,.int .i64 a0_1,.slice A0_2 l0_2.length c0_2,.slice A0_3 l0_3.length c0_3]) (t:=38) ?hr ?_;(case hd=>rfl);(case hg=>rfl);(case hr=>first|(go_simp;done)|(go_simp;rfl));intro gb298 hg w22 hbox hb;have n0_:=Aside0.mk (below_step (belV HB.out) hb);have n1_:=Aside0.mk (hbox);have n2_:=Aside0.mk ((by rw [hg];exact (below_size (belV HB.out)):w.heap.size≤gb298));have n3_:=Aside0.mk ((by rw [hg];exact (below_size (belV HB.out)):w.heap.size≤gb298));clear HB;have HB:=n0_;have BK298:=n1_;have GW298:=n2_;have GE298:=n3_;clear n0_ n1_ n2_ n3_;clear hb hbox hg;obtain ⟨hcz23_0,hcz23_1,hcz23_2,hcz23_3,hfz23_0,hfz23_1,hfz23_2,hfz23_3⟩:=bcells4 BK298.out)|((with_reducible refine gate_callee (f:=65) rfl ?_);refine goesL_ (some 8) rfl rfl Try.func65 (by kernel_rfl) rfl #[.agg #[.int .i64 a0_0,.int .i64 a0_1,.slice A0_2 l0_2.length c0_2,.slice A0_3 l0_3.length c0_3]] rfl (by (try simp only [List.map_toArray,List.map_cons,List.map_nil]);first|done|rfl|(simp only [List.length_drop,List.length_take];rfl)) ?_;(with_reducible refine (bitmap_sound.calls k a0_0 a0_1 _ _ l0_2 _ _ l0_3 false _ ?side1 ?side2 ?side3 ?side4 A2.out).mono ?_);(case side1=>exact cV (Kd.C_below HR0_2.out HB.out));(case side2=>exact HC0_2.out);(case side3=>exact cV (Kd.C_below HR0_3.out HB.out));(case side4=>exact HC0_3.out);rintro e w24 ⟨rfl,hb⟩;refine ⟨_,rfl,?_⟩;have n0_:=Aside0.mk (blk_below (g:=gb298) (blkV BK298.out) hb);have n1_:=Aside0.mk (below_step (belV1 HB.out GE298.out) hb);clear BK298;clear HB;have BK298:=n0_;have HB:=n1_;clear n0_ n1_;(try clear hb);(try clear hb2);(try clear hk);(try clear hi)))
 go_ret2
 exact ⟨_,by first|rfl|(simp [errW_none,errW_some] <;> rfl)|(simp [*,errW_none,errW_some] <;> rfl),by first|exact Kd.R_nil _ _ _ _ _|exact Kd.N_nil _ _ _ _ _|exact Kd.V_nil _ _ _ _ _|exact Kd.Q_nil _ _ _ _ _|exact Kd.S_nil _ _ _ _ _,by repeat (first|(with_reducible first|exact HB.out|apply below_alloc|apply pw_below_drewN|apply below_drew1|refine below_set ?_ GE298.out)|exact HB.out)⟩

/-! ### dioramaref19_Colours: function 33 -/
def dioramaref19_Colours.l0 : Nat → List Int → Int → Int → Int → List Int → List Int → Option (List Int × Int)
 | 0,_,_,_,_,_,_=>none
 | k+1,x4,x5,x312000,x312001,x312002,x312003=>if x5 < (x312003.length:Int) then (if 0≤x5 then (if (rd x312003 x5) < 0 then (if x4.length < 17592186044416 then (dioramaref19_Colours.l0 k (x4 ++ [(-1)]) (wrap64 (x5+1)) x312000 x312001 x312002 x312003) else (none)) else (if (rd x312003 x5) < (x312002.length:Int) then (if 0≤(rd x312003 x5) then (if x4.length < 17592186044416 then (dioramaref19_Colours.l0 k (x4 ++ [rd x312002 (rd x312003 x5)]) (wrap64 (x5+1)) x312000 x312001 x312002 x312003) else (none)) else (none)) else (if x4.length < 17592186044416 then (dioramaref19_Colours.l0 k (x4 ++ [0]) (wrap64 (x5+1)) x312000 x312001 x312002 x312003) else (none)))) else (none)) else (some (x4,0))
def dioramaref19_Colours.f (k : Nat) (a0_0 : Int) (a0_1 : Int) (l0_2 : List Int) (l0_3 : List Int) : Option (List Int × Int) := (dioramaref19_Valid.f k a0_0 a0_1 l0_2 l0_3).bind fun t312 => (if t312 = true then (dioramaref19_Colours.l0 k ([] : List Int) 0 a0_0 a0_1 l0_2 l0_3) else (some (([] : List Int), 4)))
theorem dioramaref19_Colours.mono_l:∀ k,(∀ y0 y1 y2 y3 y4 y5,LeO (dioramaref19_Colours.l0 k y0 y1 y2 y3 y4 y5) (dioramaref19_Colours.l0 (k+1) y0 y1 y2 y3 y4 y5))
 | 0=>fun _ _ _ _ _ _ r h=>by simp [dioramaref19_Colours.l0] at h
 | k+1=>by
  have ih0:=dioramaref19_Colours.mono_l k
  · intro y0 y1 y2 y3 y4 y5
    unfold dioramaref19_Colours.l0
    repeat' first
    | (with_reducible exact ih0 _ _ _ _ _ _)
    | (with_reducible exact dioramaref19_Valid.mono _ _ _ _ _)
    | (with_reducible exact LeO.refl _)
    | (with_reducible exact LeO.none _)
    | (with_reducible refine LeO.ite ?_ ?_)
    | (with_reducible refine LeO.bind ?_ (fun _=>?_))
    | exact LeO.none _
    | refine LeO.ite ?_ ?_
    | refine LeO.bind ?_ (fun _=>?_)
theorem dioramaref19_Colours.mono:∀ a0 a1 a2 a3 k,LeO (dioramaref19_Colours.f k a0 a1 a2 a3) (dioramaref19_Colours.f (k+1) a0 a1 a2 a3):=by
 intro a0 a1 a2 a3 k
 have ih0:=dioramaref19_Colours.mono_l k
 unfold dioramaref19_Colours.f
 repeat' first
  | (with_reducible exact ih0 _ _ _ _ _ _)
  | (with_reducible exact dioramaref19_Valid.mono _ _ _ _ _)
  | (with_reducible exact LeO.refl _)
  | (with_reducible exact LeO.none _)
  | (with_reducible refine LeO.ite ?_ ?_)
  | (with_reducible refine LeO.bind ?_ (fun _=>?_))
  | exact LeO.none _
  | refine LeO.ite ?_ ?_
  | refine LeO.bind ?_ (fun _=>?_)
set_option maxHeartbeats 8000000 in
set_option maxRecDepth 100000 in
theorem dioramaref19_Colours.calls (k:Nat) (a0_0:Int) (a0_1:Int) (A0_2:Option Addr) (c0_2:Nat) (l0_2:List Int) (A0_3:Option Addr) (c0_3:Nat) (l0_3:List Int) (r1:List Int) (r2:Int) (w:World) (hr0_2:Kd.C (Kd.int .i64) w A0_2 l0_2.length l0_2) (hc0_2:l0_2.length≤c0_2) (hr0_3:Kd.C (Kd.int .i64) w A0_3 l0_3.length l0_3) (hc0_3:l0_3.length≤c0_3) (h:dioramaref19_Colours.f k a0_0 a0_1 l0_2 l0_3=some (r1,r2)) :
 Calls Try.prog 33 #[.agg #[.int .i64 a0_0,.int .i64 a0_1,.slice A0_2 l0_2.length c0_2,.slice A0_3 l0_3.length c0_3]] w fun e w'=>∃ v0_:Value,e=.returned (.tuple #[v0_,.int .i64 r2])∧Kd.R (Kd.int .i64) 3 w' w.heap.size (fun _=>True) v0_ r1∧Below w.heap.size w w':=by
 have hu41:=Try.underlying41
 have HR0_2:=Aside0.mk hr0_2
 have HC0_2:=Aside0.mk hc0_2;clear hr0_2 hc0_2
 have HR0_3:=Aside0.mk hr0_3
 have HC0_3:=Aside0.mk hc0_3;clear hr0_3 hc0_3;have HB:=Aside0.mk (Below.refl w.heap.size w)
 have H:((dioramaref19_Valid.f k a0_0 a0_1 l0_2 l0_3).bind fun t312=>(if t312=true then (dioramaref19_Colours.l0 k ([]:List Int) 0 a0_0 a0_1 l0_2 l0_3) else (some (([]:List Int),4))))=some (r1,r2):=h
 clear h
 replace H:=Option.bind_eq_some_iff.mp H
 obtain ⟨t312,A20,H⟩:=H
 replace H:(if t312=true then (dioramaref19_Colours.l0 k ([]:List Int) 0 a0_0 a0_1 l0_2 l0_3) else (some (([]:List Int),4)))=some (r1,r2):=H
 have A2:=Aside0.mk A20;clear A20
 by_cases c3:t312=true
 · subst c3
   have H1:(dioramaref19_Colours.l0 k ([]:List Int) 0 a0_0 a0_1 l0_2 l0_3)=some (r1,r2):=by rw [if_pos rfl] at H;exact H
   clear H
   have H:=H1;clear H1
   have H':=Aside0.mk H;clear H
   go_enter Try.func33,Try.ntmps33
   go_wp2_with (first|((with_reducible refine gate_dst (N:=1) rfl ?_);refine box_event ?hg (N:=1) ?hd (cs:=#[.int .i64 a0_0,.int .i64 a0_1,.slice A0_2 l0_2.length c0_2,.slice A0_3 l0_3.length c0_3]) (t:=41) ?hr ?_;(case hd=>rfl);(case hg=>rfl);(case hr=>first|(go_simp;done)|(go_simp;rfl));intro gb311 hg w4 hbox hb;have n0_:=Aside0.mk (below_step (belV HB.out) hb);have n1_:=Aside0.mk (hbox);have n2_:=Aside0.mk ((by rw [hg];exact (below_size (belV HB.out)):w.heap.size≤gb311));have n3_:=Aside0.mk ((by rw [hg];exact (below_size (belV HB.out)):w.heap.size≤gb311));clear HB;have HB:=n0_;have BK311:=n1_;have GW311:=n2_;have GE311:=n3_;clear n0_ n1_ n2_ n3_;clear hb hbox hg;obtain ⟨hcz5_0,hcz5_1,hcz5_2,hcz5_3,hfz5_0,hfz5_1,hfz5_2,hfz5_3⟩:=bcells4 BK311.out)|((with_reducible refine gate_callee (f:=67) rfl ?_);refine goesL_ (some 8) rfl rfl Try.func67 (by kernel_rfl) rfl #[.agg #[.int .i64 a0_0,.int .i64 a0_1,.slice A0_2 l0_2.length c0_2,.slice A0_3 l0_3.length c0_3]] rfl (by (try simp only [List.map_toArray,List.map_cons,List.map_nil]);first|done|rfl|(simp only [List.length_drop,List.length_take];rfl)) ?_;(with_reducible refine (dioramaref19_Valid.calls k a0_0 a0_1 _ _ l0_2 _ _ l0_3 true _ ?side1 ?side2 ?side3 ?side4 A2.out).mono ?_);(case side1=>exact cV (Kd.C_below HR0_2.out HB.out));(case side2=>exact HC0_2.out);(case side3=>exact cV (Kd.C_below HR0_3.out HB.out));(case side4=>exact HC0_3.out);rintro e w6 ⟨rfl,hb⟩;refine ⟨_,rfl,?_⟩;have n0_:=Aside0.mk (blk_below (g:=gb311) (blkV BK311.out) hb);have n1_:=Aside0.mk (below_step (belV1 HB.out GE311.out) hb);clear BK311;clear HB;have BK311:=n0_;have HB:=n1_;clear n0_ n1_;(try clear hb);(try clear hb2);(try clear hk);(try clear hi)))
   go_loopg [4,5] k (fun kq v4 v5 w'=>∃ (x4_1:List Int) (x5_1:Int),v5=.int .i64 x5_1∧Aside0 (dioramaref19_Colours.l0 kq x4_1 x5_1 a0_0 a0_1 l0_2 l0_3=some (r1,r2))∧Aside0 (kq≤k)∧Aside0 (Kd.R (Kd.int .i64) 3 w' w.heap.size (fun _=>True) v4 x4_1)∧Aside0 (w'.heap[gb311]?=some (.cells #[.int .i64 a0_0,.int .i64 a0_1,(.slice A0_2 l0_2.length c0_2),(.slice A0_3 l0_3.length c0_3)] 41 (0,0)))∧Aside0 (Below w.heap.size w w'))
   case atStart=>exact ⟨(([]:List Int)),(0),okV,H',⟨Nat.le_refl _⟩,⟨by first|exact Kd.R_nil _ _ _ _ _|exact Kd.N_nil _ _ _ _ _|exact Kd.V_nil _ _ _ _ _|exact Kd.Q_nil _ _ _ _ _|exact Kd.S_nil _ _ _ _ _⟩,⟨blkV BK311.out⟩,⟨belV1 HB.out GE311.out⟩⟩
   case round =>
    clear H'
    try clear p2;try clear c3;try clear c6;try clear hcz5_0 hcz5_1 hcz5_2 hcz5_3;try clear hfz5_0 hfz5_1 hfz5_2 hfz5_3
    obtain ⟨x4_1,x5_1,rfl,HA,HK1,HO_4,BK311,HB⟩:=hrel
    cases gk with
    | zero=>exact absurd HA.out (by simp [dioramaref19_Colours.l0])
    | succ k1 =>
     have H:=HA.out;clear HA
     simp only [dioramaref19_Colours.l0] at H
     by_cases c7:x5_1 < (l0_3.length:Int)
     · rw [if_pos c7] at H
       have c7b0:decide (x5_1 < (l0_3.length:Int))=true:=decide_eq_true c7;clear c7
       by_cases c8:0≤x5_1
       · rw [if_pos c8] at H
         have c8b0:decide (0≤x5_1)=true:=decide_eq_true c8;clear c8
         by_cases c9:(rd l0_3 x5_1) < 0
         · rw [if_pos c9] at H
           have c9b0:decide ((rd l0_3 x5_1) < 0)=true:=decide_eq_true c9;clear c9
           by_cases c10:x4_1.length < 17592186044416
           · rw [if_pos c10] at H
             have LMc10:=Aside0.mk c10;clear c10
             obtain ⟨y314,hy314⟩:∃ y_:List Int,y_=(x4_1 ++ [(-1)]):=⟨_,rfl⟩
             replace H:(dioramaref19_Colours.l0 k1 y314 (wrap64 (x5_1+1)) a0_0 a0_1 l0_2 l0_3)=some (r1,r2):=by first|(rw [hy314];with_reducible exact H)|(have H2_:=(Option.bind_some _ _).symm.trans H;rw [hy314];with_reducible exact H2_)|(have H2_:=(Option.bind_some _ _).symm.trans H;with_reducible exact H2_)|with_reducible exact H|(rw [hy314];exact H)|exact H
             have Ny314:=Aside0.mk hy314;clear hy314
             have H':=Aside0.mk H;clear H
             obtain ⟨hcz11_0,hcz11_1,hcz11_2,hcz11_3,hfz11_0,hfz11_1,hfz11_2,hfz11_3⟩:=bcells4 BK311.out
             have p313:0≤(x5_1:Int):=of_decide_eq_true asV
             have q313:x5_1 < (l0_3.length:Int):=of_decide_eq_true asV
             obtain ⟨ad313,e313,hx313_0⟩:=Kd.at_int HR0_3.out x5_1 p313 q313
             cases e313
             replace hx313_0:=(HB.out.cell (World.block_lt_of_cell? w _ hx313_0)).trans hx313_0
             replace p313:=eq_true p313
             replace q313:=eq_true q313
             go_wp2_with (first|((with_reducible refine gate_builtin (b:=.append) (xs:=#[.tmp 28,.tmp 29]) rfl ?_);at_builtin;refine Kd.R_append (Kd.int .i64) (w0:=w) w.heap.size rfl (.tmp 28) (.tmp 29) 22 3 (.int .i64 0) 8 rfl Try.underlying22 info3 rfl (by decide) (by omega) u4 x4_1 (-1) [.int .i64 (-1)] (fun _=>True) (fun _=>False) rfl rfl ?aP (fun _ hk=>hk.elim) ?aF ?aO ?aB ?aS ?aL ?_;(case aP=>exact rfl);(case aB=>exact (belV1 HB.out GE311.out));(case aF=>exact (fun _ _=>trivial));(case aO=>exact (rowV HO_4.out));(case aS=>exact (below_size (belV1 HB.out GE311.out)));(case aL=>have:=LMc10.out;omega);intro v315 w12 ho hb hg hat;rw [← Ny314.out] at ho;have n0_:=Aside0.mk (blk_grown (g:=gb311) (blkV BK311.out) hg (Kd.R_ne HO_4.out BK311.out (by decide)));have n1_:=Aside0.mk (hb);have n2_:=Aside0.mk (ho);clear BK311;clear HB;clear HO_4;have BK311:=n0_;have HB:=n1_;have HO316:=n2_;clear n0_ n1_ n2_;clear ho hb hg hat))
             go_roundg k1
             case measure=>have:=HK1.out;omega
             case rel=>exact ⟨(y314),(wrap64 (x5_1+1)),okV,H',⟨by have:=HK1.out;omega⟩,⟨rowV HO316.out⟩,⟨blkV BK311.out⟩,⟨belV1 HB.out GE311.out⟩⟩
           rw [if_neg c10] at H
           exact absurd H (by simp)
         rw [if_neg c9] at H
         have c9b0:decide ((rd l0_3 x5_1) < 0)=false:=decide_eq_false c9;clear c9
         by_cases c13:(rd l0_3 x5_1) < (l0_2.length:Int)
         · rw [if_pos c13] at H
           have c13b0:decide ((rd l0_3 x5_1) < (l0_2.length:Int))=true:=decide_eq_true c13;clear c13
           by_cases c14:0≤(rd l0_3 x5_1)
           · rw [if_pos c14] at H
             have c14b0:decide (0≤(rd l0_3 x5_1))=true:=decide_eq_true c14;clear c14
             by_cases c15:x4_1.length < 17592186044416
             · rw [if_pos c15] at H
               have LMc15:=Aside0.mk c15;clear c15
               obtain ⟨y318,hy318⟩:∃ y_:List Int,y_=(x4_1 ++ [rd l0_2 (rd l0_3 x5_1)]):=⟨_,rfl⟩
               replace H:(dioramaref19_Colours.l0 k1 y318 (wrap64 (x5_1+1)) a0_0 a0_1 l0_2 l0_3)=some (r1,r2):=by first|(rw [hy318];with_reducible exact H)|(have H2_:=(Option.bind_some _ _).symm.trans H;rw [hy318];with_reducible exact H2_)|(have H2_:=(Option.bind_some _ _).symm.trans H;with_reducible exact H2_)|with_reducible exact H|(rw [hy318];exact H)|exact H
               have Ny318:=Aside0.mk hy318;clear hy318
               have H':=Aside0.mk H;clear H
               obtain ⟨hcz16_0,hcz16_1,hcz16_2,hcz16_3,hfz16_0,hfz16_1,hfz16_2,hfz16_3⟩:=bcells4 BK311.out
               have p313:0≤(x5_1:Int):=of_decide_eq_true asV
               have q313:x5_1 < (l0_3.length:Int):=of_decide_eq_true asV
               obtain ⟨ad313,e313,hx313_0⟩:=Kd.at_int HR0_3.out x5_1 p313 q313
               cases e313
               replace hx313_0:=(HB.out.cell (World.block_lt_of_cell? w _ hx313_0)).trans hx313_0
               replace p313:=eq_true p313
               replace q313:=eq_true q313
               have p317:0≤((rd l0_3 x5_1):Int):=of_decide_eq_true asV
               have q317:(rd l0_3 x5_1) < (l0_2.length:Int):=of_decide_eq_true asV
               obtain ⟨ad317,e317,hx317_0⟩:=Kd.at_int HR0_2.out (rd l0_3 x5_1) p317 q317
               cases e317
               replace hx317_0:=(HB.out.cell (World.block_lt_of_cell? w _ hx317_0)).trans hx317_0
               replace p317:=eq_true p317
               replace q317:=eq_true q317
               go_wp2_with (first|((with_reducible refine gate_builtin (b:=.append) (xs:=#[.tmp 37,.tmp 43]) rfl ?_);at_builtin;refine Kd.R_append (Kd.int .i64) (w0:=w) w.heap.size rfl (.tmp 37) (.tmp 43) 22 3 (.int .i64 0) 8 rfl Try.underlying22 info3 rfl (by decide) (by omega) u4 x4_1 (rd l0_2 (rd l0_3 x5_1)) [.int .i64 (rd l0_2 (rd l0_3 x5_1))] (fun _=>True) (fun _=>False) rfl rfl ?aP (fun _ hk=>hk.elim) ?aF ?aO ?aB ?aS ?aL ?_;(case aP=>exact rfl);(case aB=>exact (belV1 HB.out GE311.out));(case aF=>exact (fun _ _=>trivial));(case aO=>exact (rowV HO_4.out));(case aS=>exact (below_size (belV1 HB.out GE311.out)));(case aL=>have:=LMc15.out;omega);intro v319 w17 ho hb hg hat;rw [← Ny318.out] at ho;have n0_:=Aside0.mk (blk_grown (g:=gb311) (blkV BK311.out) hg (Kd.R_ne HO_4.out BK311.out (by decide)));have n1_:=Aside0.mk (hb);have n2_:=Aside0.mk (ho);clear BK311;clear HB;clear HO_4;have BK311:=n0_;have HB:=n1_;have HO320:=n2_;clear n0_ n1_ n2_;clear ho hb hg hat))
               go_roundg k1
               case measure=>have:=HK1.out;omega
               case rel=>exact ⟨(y318),(wrap64 (x5_1+1)),okV,H',⟨by have:=HK1.out;omega⟩,⟨rowV HO320.out⟩,⟨blkV BK311.out⟩,⟨belV1 HB.out GE311.out⟩⟩
             rw [if_neg c15] at H
             exact absurd H (by simp)
           rw [if_neg c14] at H
           exact absurd H (by simp)
         rw [if_neg c13] at H
         have c13b0:decide ((rd l0_3 x5_1) < (l0_2.length:Int))=false:=decide_eq_false c13;clear c13
         by_cases c18:x4_1.length < 17592186044416
         · rw [if_pos c18] at H
           have LMc18:=Aside0.mk c18;clear c18
           obtain ⟨y321,hy321⟩:∃ y_:List Int,y_=(x4_1 ++ [0]):=⟨_,rfl⟩
           replace H:(dioramaref19_Colours.l0 k1 y321 (wrap64 (x5_1+1)) a0_0 a0_1 l0_2 l0_3)=some (r1,r2):=by first|(rw [hy321];with_reducible exact H)|(have H2_:=(Option.bind_some _ _).symm.trans H;rw [hy321];with_reducible exact H2_)|(have H2_:=(Option.bind_some _ _).symm.trans H;with_reducible exact H2_)|with_reducible exact H|(rw [hy321];exact H)|exact H
           have Ny321:=Aside0.mk hy321;clear hy321
           have H':=Aside0.mk H;clear H
           obtain ⟨hcz19_0,hcz19_1,hcz19_2,hcz19_3,hfz19_0,hfz19_1,hfz19_2,hfz19_3⟩:=bcells4 BK311.out
           have p313:0≤(x5_1:Int):=of_decide_eq_true asV
           have q313:x5_1 < (l0_3.length:Int):=of_decide_eq_true asV
           obtain ⟨ad313,e313,hx313_0⟩:=Kd.at_int HR0_3.out x5_1 p313 q313
           cases e313
           replace hx313_0:=(HB.out.cell (World.block_lt_of_cell? w _ hx313_0)).trans hx313_0
           replace p313:=eq_true p313
           replace q313:=eq_true q313
           go_wp2_with (first|((with_reducible refine gate_builtin (b:=.append) (xs:=#[.tmp 22,.tmp 23]) rfl ?_);at_builtin;refine Kd.R_append (Kd.int .i64) (w0:=w) w.heap.size rfl (.tmp 22) (.tmp 23) 22 3 (.int .i64 0) 8 rfl Try.underlying22 info3 rfl (by decide) (by omega) u4 x4_1 0 [.int .i64 0] (fun _=>True) (fun _=>False) rfl rfl ?aP (fun _ hk=>hk.elim) ?aF ?aO ?aB ?aS ?aL ?_;(case aP=>exact rfl);(case aB=>exact (belV1 HB.out GE311.out));(case aF=>exact (fun _ _=>trivial));(case aO=>exact (rowV HO_4.out));(case aS=>exact (below_size (belV1 HB.out GE311.out)));(case aL=>have:=LMc18.out;omega);intro v322 w20 ho hb hg hat;rw [← Ny321.out] at ho;have n0_:=Aside0.mk (blk_grown (g:=gb311) (blkV BK311.out) hg (Kd.R_ne HO_4.out BK311.out (by decide)));have n1_:=Aside0.mk (hb);have n2_:=Aside0.mk (ho);clear BK311;clear HB;clear HO_4;have BK311:=n0_;have HB:=n1_;have HO323:=n2_;clear n0_ n1_ n2_;clear ho hb hg hat))
           go_roundg k1
           case measure=>have:=HK1.out;omega
           case rel=>exact ⟨(y321),(wrap64 (x5_1+1)),okV,H',⟨by have:=HK1.out;omega⟩,⟨rowV HO323.out⟩,⟨blkV BK311.out⟩,⟨belV1 HB.out GE311.out⟩⟩
         rw [if_neg c18] at H
         exact absurd H (by simp)
       rw [if_neg c8] at H
       exact absurd H (by simp)
     rw [if_neg c7] at H
     have c7b0:decide (x5_1 < (l0_3.length:Int))=false:=decide_eq_false c7;clear c7
     simp only [Option.some.injEq,Prod.mk.injEq] at H
     obtain ⟨rfl,rfl⟩:=H
     obtain ⟨hcz21_0,hcz21_1,hcz21_2,hcz21_3,hfz21_0,hfz21_1,hfz21_2,hfz21_3⟩:=bcells4 BK311.out
     go_wp2
     go_ret2
     exact ⟨_,by first|rfl|(simp [errW_none,errW_some] <;> rfl)|(simp [*,errW_none,errW_some] <;> rfl),by (with_reducible repeat (first|apply Kd.R_alloc|apply Kd.R_drewN|apply Kd.R_drew));exact HO_4.out,by repeat (first|(with_reducible first|exact HB.out|apply below_alloc|apply pw_below_drewN|apply below_drew1|refine below_set ?_ GE311.out)|exact HB.out)⟩
 replace c3:=Bool.eq_false_iff.mpr c3;subst c3
 have H1:(some (([]:List Int),4))=some (r1,r2):=by rw [if_neg (show ¬ (false=true) by decide)] at H;exact H
 clear H
 have H:=H1;clear H1
 simp only [Option.some.injEq,Prod.mk.injEq] at H
 obtain ⟨rfl,rfl⟩:=H
 go_enter Try.func33,Try.ntmps33
 go_wp2_with (first|((with_reducible refine gate_dst (N:=1) rfl ?_);refine box_event ?hg (N:=1) ?hd (cs:=#[.int .i64 a0_0,.int .i64 a0_1,.slice A0_2 l0_2.length c0_2,.slice A0_3 l0_3.length c0_3]) (t:=41) ?hr ?_;(case hd=>rfl);(case hg=>rfl);(case hr=>first|(go_simp;done)|(go_simp;rfl));intro gb311 hg w22 hbox hb;have n0_:=Aside0.mk (below_step (belV HB.out) hb);have n1_:=Aside0.mk (hbox);have n2_:=Aside0.mk ((by rw [hg];exact (below_size (belV HB.out)):w.heap.size≤gb311));have n3_:=Aside0.mk ((by rw [hg];exact (below_size (belV HB.out)):w.heap.size≤gb311));clear HB;have HB:=n0_;have BK311:=n1_;have GW311:=n2_;have GE311:=n3_;clear n0_ n1_ n2_ n3_;clear hb hbox hg;obtain ⟨hcz23_0,hcz23_1,hcz23_2,hcz23_3,hfz23_0,hfz23_1,hfz23_2,hfz23_3⟩:=bcells4 BK311.out)|((with_reducible refine gate_callee (f:=67) rfl ?_);refine goesL_ (some 8) rfl rfl Try.func67 (by kernel_rfl) rfl #[.agg #[.int .i64 a0_0,.int .i64 a0_1,.slice A0_2 l0_2.length c0_2,.slice A0_3 l0_3.length c0_3]] rfl (by (try simp only [List.map_toArray,List.map_cons,List.map_nil]);first|done|rfl|(simp only [List.length_drop,List.length_take];rfl)) ?_;(with_reducible refine (dioramaref19_Valid.calls k a0_0 a0_1 _ _ l0_2 _ _ l0_3 false _ ?side1 ?side2 ?side3 ?side4 A2.out).mono ?_);(case side1=>exact cV (Kd.C_below HR0_2.out HB.out));(case side2=>exact HC0_2.out);(case side3=>exact cV (Kd.C_below HR0_3.out HB.out));(case side4=>exact HC0_3.out);rintro e w24 ⟨rfl,hb⟩;refine ⟨_,rfl,?_⟩;have n0_:=Aside0.mk (blk_below (g:=gb311) (blkV BK311.out) hb);have n1_:=Aside0.mk (below_step (belV1 HB.out GE311.out) hb);clear BK311;clear HB;have BK311:=n0_;have HB:=n1_;clear n0_ n1_;(try clear hb);(try clear hb2);(try clear hk);(try clear hi)))
 go_ret2
 exact ⟨_,by first|rfl|(simp [errW_none,errW_some] <;> rfl)|(simp [*,errW_none,errW_some] <;> rfl),by first|exact Kd.R_nil _ _ _ _ _|exact Kd.N_nil _ _ _ _ _|exact Kd.V_nil _ _ _ _ _|exact Kd.Q_nil _ _ _ _ _|exact Kd.S_nil _ _ _ _ _,by repeat (first|(with_reducible first|exact HB.out|apply below_alloc|apply pw_below_drewN|apply below_drew1|refine below_set ?_ GE311.out)|exact HB.out)⟩

/-! ### slices_Equal_int_int: function 68 -/
def slices_Equal_int_int.l0 : Nat → List Int → List Int → Int → Int → Option (Bool)
 | 0,_,_,_,_=>none
 | k+1,x0,x1,x12,x13=>if x13 < x12 then (if 0≤x13 then (if x13 < (x0.length:Int) then (if x13 < (x1.length:Int) then (if (rd x0 x13)=(rd x1 x13) then (slices_Equal_int_int.l0 k x0 x1 x12 (wrap64 (x13+1))) else (some false)) else (none)) else (none)) else (none)) else (some true)
def slices_Equal_int_int.f (k : Nat) (l0 : List Int) (l1 : List Int) : Option (Bool) := if (l0.length : Int) = (l1.length : Int) then (slices_Equal_int_int.l0 k l0 l1 (l0.length : Int) 0) else (some false)
theorem slices_Equal_int_int.mono_l:∀ k,(∀ y0 y1 y2 y3,LeO (slices_Equal_int_int.l0 k y0 y1 y2 y3) (slices_Equal_int_int.l0 (k+1) y0 y1 y2 y3))
 | 0=>fun _ _ _ _ r h=>by simp [slices_Equal_int_int.l0] at h
 | k+1=>by
  have ih0:=slices_Equal_int_int.mono_l k
  · intro y0 y1 y2 y3
    unfold slices_Equal_int_int.l0
    repeat' first
    | (with_reducible exact ih0 _ _ _ _)
    | (with_reducible exact LeO.refl _)
    | (with_reducible exact LeO.none _)
    | (with_reducible refine LeO.ite ?_ ?_)
    | (with_reducible refine LeO.bind ?_ (fun _=>?_))
    | exact LeO.none _
    | refine LeO.ite ?_ ?_
    | refine LeO.bind ?_ (fun _=>?_)
theorem slices_Equal_int_int.mono:∀ a0 a1 k,LeO (slices_Equal_int_int.f k a0 a1) (slices_Equal_int_int.f (k+1) a0 a1):=by
 intro a0 a1 k
 have ih0:=slices_Equal_int_int.mono_l k
 unfold slices_Equal_int_int.f
 repeat' first
  | (with_reducible exact ih0 _ _ _ _)
  | (with_reducible exact LeO.refl _)
  | (with_reducible exact LeO.none _)
  | (with_reducible refine LeO.ite ?_ ?_)
  | (with_reducible refine LeO.bind ?_ (fun _=>?_))
  | exact LeO.none _
  | refine LeO.ite ?_ ?_
  | refine LeO.bind ?_ (fun _=>?_)
set_option maxHeartbeats 8000000 in
set_option maxRecDepth 100000 in
theorem slices_Equal_int_int.calls (k:Nat) (A0:Option Addr) (c0:Nat) (l0:List Int) (A1:Option Addr) (c1:Nat) (l1:List Int) (r:Bool) (w:World) (hr0:Kd.C (Kd.int .i64) w A0 l0.length l0) (hc0:l0.length≤c0) (hr1:Kd.C (Kd.int .i64) w A1 l1.length l1) (hc1:l1.length≤c1) (h:slices_Equal_int_int.f k l0 l1=some r) :
 Calls Try.prog 68 #[.slice A0 l0.length c0,.slice A1 l1.length c1] w fun e w'=>e=.returned (.bool r)∧Drawn0 w w':=by
 have HR0:=Aside0.mk hr0
 have HC0:=Aside0.mk hc0;clear hr0 hc0
 have HR1:=Aside0.mk hr1
 have HC1:=Aside0.mk hc1;clear hr1 hc1
 have H:(if (l0.length:Int)=(l1.length:Int) then (slices_Equal_int_int.l0 k l0 l1 (l0.length:Int) 0) else (some false))=some r:=h;clear h
 by_cases c3:(l0.length:Int)=(l1.length:Int)
 · rw [if_pos c3] at H
   have c3b0:((l0.length:Int) == (l1.length:Int))=true:=beq_iff_eq.mpr c3
   have c3b1:((l0.length:Int) != (l1.length:Int))=false:=bne_eq_false_iff_eq.mpr c3
   have c3b2:(l0.length == l1.length)=true:=by first|simpa using c3|(simp at c3 ⊢;omega)
   clear c3
   have H':=Aside0.mk H;clear H
   go_enter Try.func68,Try.ntmps68
   go_wp2
   repeat (go_quiet (fail);try go_wp2)
   go_loopg [13] k (fun kq v13 w'=>∃ (x13_1:Int),v13=.int .i64 x13_1∧Aside0 (slices_Equal_int_int.l0 kq l0 l1 (l0.length:Int) x13_1=some r)∧Aside0 (kq≤k)∧Drawn0 w w')
   case atStart=>exact ⟨(0),okV,H',⟨Nat.le_refl _⟩,by repeat (first|exact Drawn0.refl _|apply Drawn0.step)⟩
   case round =>
    clear H'
    try clear c1;try clear p2;try clear c3;try clear c3b0;try clear c3b1;try clear c3b2
    obtain ⟨x13_1,rfl,HA,HK1,⟨m1,rfl⟩⟩:=hrel
    cases gk with
    | zero=>exact absurd HA.out (by simp [slices_Equal_int_int.l0])
    | succ k1 =>
     have H:=HA.out;clear HA
     simp only [slices_Equal_int_int.l0] at H
     by_cases c4:x13_1 < (l0.length:Int)
     · rw [if_pos c4] at H
       have c4b0:decide (x13_1 < (l0.length:Int))=true:=decide_eq_true c4;clear c4
       by_cases c5:0≤x13_1
       · rw [if_pos c5] at H
         have c5b0:decide (0≤x13_1)=true:=decide_eq_true c5;clear c5
         by_cases c6:x13_1 < (l0.length:Int)
         · rw [if_pos c6] at H
           have c6b0:decide (x13_1 < (l0.length:Int))=true:=decide_eq_true c6;clear c6
           by_cases c7:x13_1 < (l1.length:Int)
           · rw [if_pos c7] at H
             have c7b0:decide (x13_1 < (l1.length:Int))=true:=decide_eq_true c7;clear c7
             by_cases c8:(rd l0 x13_1)=(rd l1 x13_1)
             · rw [if_pos c8] at H
               have c8b0:((rd l0 x13_1) == (rd l1 x13_1))=true:=beq_iff_eq.mpr c8
               have c8b1:((rd l0 x13_1) != (rd l1 x13_1))=false:=bne_eq_false_iff_eq.mpr c8;clear c8
               have H':=Aside0.mk H;clear H
               have p324:0≤(x13_1:Int):=of_decide_eq_true asV
               have q324:x13_1 < (l0.length:Int):=of_decide_eq_true asV
               obtain ⟨ad324,e324,hx324_0⟩:=Kd.at_int HR0.out x13_1 p324 q324
               cases e324
               replace p324:=eq_true p324
               replace q324:=eq_true q324
               have p325:0≤(x13_1:Int):=of_decide_eq_true asV
               have q325:x13_1 < (l1.length:Int):=of_decide_eq_true asV
               obtain ⟨ad325,e325,hx325_0⟩:=Kd.at_int HR1.out x13_1 p325 q325
               cases e325
               replace p325:=eq_true p325
               replace q325:=eq_true q325
               go_wp2
               repeat (go_quiet (fail);try go_wp2)
               go_roundg k1
               case measure=>have:=HK1.out;omega
               case rel=>exact ⟨(wrap64 (x13_1+1)),okV,H',⟨by have:=HK1.out;omega⟩,by repeat (first|exact Drawn0.refl _|apply Drawn0.step)⟩
             rw [if_neg c8] at H
             have c8b0:((rd l0 x13_1) == (rd l1 x13_1))=false:=beq_eq_false_iff_ne.mpr c8
             have c8b1:((rd l0 x13_1) != (rd l1 x13_1))=true:=bne_iff_ne.mpr c8
             obtain rfl:=Option.some.inj H
             have p324:0≤(x13_1:Int):=of_decide_eq_true asV
             have q324:x13_1 < (l0.length:Int):=of_decide_eq_true asV
             obtain ⟨ad324,e324,hx324_0⟩:=Kd.at_int HR0.out x13_1 p324 q324
             cases e324
             replace p324:=eq_true p324
             replace q324:=eq_true q324
             have p325:0≤(x13_1:Int):=of_decide_eq_true asV
             have q325:x13_1 < (l1.length:Int):=of_decide_eq_true asV
             obtain ⟨ad325,e325,hx325_0⟩:=Kd.at_int HR1.out x13_1 p325 q325
             cases e325
             replace p325:=eq_true p325
             replace q325:=eq_true q325
             go_wp2
             repeat (go_quiet (fail);try go_wp2)
             go_ret
             exact ⟨by first|rfl|(simp;done)|(simp [*];done),by repeat (first|exact Drawn0.refl _|apply Drawn0.step)⟩
           rw [if_neg c7] at H
           exact absurd H (by simp)
         rw [if_neg c6] at H
         exact absurd H (by simp)
       rw [if_neg c5] at H
       exact absurd H (by simp)
     rw [if_neg c4] at H
     have c4b0:decide (x13_1 < (l0.length:Int))=false:=decide_eq_false c4;clear c4
     obtain rfl:=Option.some.inj H
     go_wp2
     repeat (go_quiet (fail);try go_wp2)
     go_ret
     exact ⟨by first|rfl|(simp;done)|(simp [*];done),by repeat (first|exact Drawn0.refl _|apply Drawn0.step)⟩
 rw [if_neg c3] at H
 have c3b0:((l0.length:Int) == (l1.length:Int))=false:=beq_eq_false_iff_ne.mpr c3
 have c3b1:((l0.length:Int) != (l1.length:Int))=true:=bne_iff_ne.mpr c3
 have c3b2:(l0.length == l1.length)=false:=by first|simpa using c3|(simp at c3 ⊢;omega)
 obtain rfl:=Option.some.inj H
 go_enter Try.func68,Try.ntmps68
 go_wp2
 repeat (go_quiet (fail);try go_wp2)
 go_ret
 exact ⟨by first|rfl|(simp;done)|(simp [*];done),by repeat (first|exact Drawn0.refl _|apply Drawn0.step)⟩

/-! ### bitmap_SameCanvas: function 34 -/
def bitmap_SameCanvas.f (k : Nat) (a0_0 : Int) (a0_1 : Int) (l0_2 : List Int) (l0_3 : List Int) (a1_0 : Int) (a1_1 : Int) (l1_2 : List Int) (l1_3 : List Int) : Option (Bool) := if a0_0 = a1_0 then (if a0_1 = a1_1 then ((slices_Equal_int_int.f k l0_2 l1_2).bind fun t328 => (if t328 = true then ((slices_Equal_int_int.f k l0_3 l1_3).bind fun t329 => (some t329)) else (some false))) else (some false)) else (some false)
theorem bitmap_SameCanvas.mono:∀ a0 a1 a2 a3 a4 a5 a6 a7 k,LeO (bitmap_SameCanvas.f k a0 a1 a2 a3 a4 a5 a6 a7) (bitmap_SameCanvas.f (k+1) a0 a1 a2 a3 a4 a5 a6 a7):=by
 intro a0 a1 a2 a3 a4 a5 a6 a7 k
 unfold bitmap_SameCanvas.f
 repeat' first
  | (with_reducible exact slices_Equal_int_int.mono _ _ _)
  | (with_reducible exact LeO.refl _)
  | (with_reducible exact LeO.none _)
  | (with_reducible refine LeO.ite ?_ ?_)
  | (with_reducible refine LeO.bind ?_ (fun _=>?_))
  | exact LeO.none _
  | refine LeO.ite ?_ ?_
  | refine LeO.bind ?_ (fun _=>?_)
set_option maxHeartbeats 8000000 in
set_option maxRecDepth 100000 in
theorem bitmap_SameCanvas.calls (k:Nat) (a0_0:Int) (a0_1:Int) (A0_2:Option Addr) (c0_2:Nat) (l0_2:List Int) (A0_3:Option Addr) (c0_3:Nat) (l0_3:List Int) (a1_0:Int) (a1_1:Int) (A1_2:Option Addr) (c1_2:Nat) (l1_2:List Int) (A1_3:Option Addr) (c1_3:Nat) (l1_3:List Int) (r:Bool) (w:World) (hr0_2:Kd.C (Kd.int .i64) w A0_2 l0_2.length l0_2) (hc0_2:l0_2.length≤c0_2) (hr0_3:Kd.C (Kd.int .i64) w A0_3 l0_3.length l0_3) (hc0_3:l0_3.length≤c0_3) (hr1_2:Kd.C (Kd.int .i64) w A1_2 l1_2.length l1_2) (hc1_2:l1_2.length≤c1_2) (hr1_3:Kd.C (Kd.int .i64) w A1_3 l1_3.length l1_3) (hc1_3:l1_3.length≤c1_3) (h:bitmap_SameCanvas.f k a0_0 a0_1 l0_2 l0_3 a1_0 a1_1 l1_2 l1_3=some r) :
 Calls Try.prog 34 #[.agg #[.int .i64 a0_0,.int .i64 a0_1,.slice A0_2 l0_2.length c0_2,.slice A0_3 l0_3.length c0_3],.agg #[.int .i64 a1_0,.int .i64 a1_1,.slice A1_2 l1_2.length c1_2,.slice A1_3 l1_3.length c1_3]] w fun e w'=>e=.returned (.bool r)∧Below w.heap.size w w':=by
 have hu38:=Try.underlying38
 have HR0_2:=Aside0.mk hr0_2
 have HC0_2:=Aside0.mk hc0_2;clear hr0_2 hc0_2
 have HR0_3:=Aside0.mk hr0_3
 have HC0_3:=Aside0.mk hc0_3;clear hr0_3 hc0_3
 have HR1_2:=Aside0.mk hr1_2
 have HC1_2:=Aside0.mk hc1_2;clear hr1_2 hc1_2
 have HR1_3:=Aside0.mk hr1_3
 have HC1_3:=Aside0.mk hc1_3;clear hr1_3 hc1_3;have HB:=Aside0.mk (Below.refl w.heap.size w)
 have H:(if a0_0=a1_0 then (if a0_1=a1_1 then ((slices_Equal_int_int.f k l0_2 l1_2).bind fun t328=>(if t328=true then ((slices_Equal_int_int.f k l0_3 l1_3).bind fun t329=>(some t329)) else (some false))) else (some false)) else (some false))=some r:=h;clear h
 by_cases c3:a0_0=a1_0
 · rw [if_pos c3] at H
   have c3b0:(a0_0 == a1_0)=true:=beq_iff_eq.mpr c3
   have c3b1:(a0_0 != a1_0)=false:=bne_eq_false_iff_eq.mpr c3;clear c3
   by_cases c4:a0_1=a1_1
   · rw [if_pos c4] at H
     have c4b0:(a0_1 == a1_1)=true:=beq_iff_eq.mpr c4
     have c4b1:(a0_1 != a1_1)=false:=bne_eq_false_iff_eq.mpr c4;clear c4
     replace H:=Option.bind_eq_some_iff.mp H
     obtain ⟨t328,A50,H⟩:=H
     replace H:(if t328=true then ((slices_Equal_int_int.f k l0_3 l1_3).bind fun t329=>(some t329)) else (some false))=some r:=H
     have A5:=Aside0.mk A50;clear A50
     by_cases c6:t328=true
     · subst c6
       have H1:((slices_Equal_int_int.f k l0_3 l1_3).bind fun t329=>(some t329))=some r:=by rw [if_pos rfl] at H;exact H
       clear H
       have H:=H1;clear H1
       replace H:=Option.bind_eq_some_iff.mp H
       obtain ⟨t329,A70,H⟩:=H
       replace H:(some t329)=some r:=H
       have A7:=Aside0.mk A70;clear A70
       obtain rfl:=Option.some.inj H
       go_enter Try.func34,Try.ntmps34
       go_wp2_with (first|((with_reducible refine gate_dst (N:=2) rfl ?_);refine box_event ?hg (N:=2) ?hd (cs:=#[.int .i64 a0_0,.int .i64 a0_1,.slice A0_2 l0_2.length c0_2,.slice A0_3 l0_3.length c0_3]) (t:=38) ?hr ?_;(case hd=>rfl);(case hg=>rfl);(case hr=>first|(go_simp;done)|(go_simp;rfl));intro gb326 hg w8 hbox hb;have n0_:=Aside0.mk (below_step (belV HB.out) hb);have n1_:=Aside0.mk (hbox);have n2_:=Aside0.mk ((by rw [hg];exact (below_size (belV HB.out)):w.heap.size≤gb326));have n3_:=Aside0.mk ((by rw [hg];exact (below_size (belV HB.out)):w.heap.size≤gb326));clear HB;have HB:=n0_;have BK326:=n1_;have GW326:=n2_;have GE326:=n3_;clear n0_ n1_ n2_ n3_;clear hb hbox hg)|((with_reducible refine gate_dst (N:=3) rfl ?_);refine box_event ?hg (N:=3) ?hd (cs:=#[.int .i64 a1_0,.int .i64 a1_1,.slice A1_2 l1_2.length c1_2,.slice A1_3 l1_3.length c1_3]) (t:=38) ?hr ?_;(case hd=>rfl);(case hg=>rfl);(case hr=>first|(go_simp;done)|(go_simp;rfl));intro gb327 hg w9 hbox hb;have n0_:=Aside0.mk (blk_below (g:=gb326) (blkV BK326.out) hb);have n1_:=Aside0.mk (below_step (belV1 HB.out GE326.out) hb);have n2_:=Aside0.mk (hbox);have n3_:=Aside0.mk ((by rw [hg];exact (below_size (belV1 HB.out GE326.out)):w.heap.size≤gb327));have n4_:=Aside0.mk ((by rw [hg];exact (below_size (belV1 HB.out GE326.out)):w.heap.size≤gb327));have n5_:=Aside0.mk ((by rw [hg];exact Nat.ne_of_lt (blk_lt (g:=gb326) (blkV BK326.out)):gb326≠gb327));have n6_:=Aside0.mk ((by rw [hg];exact Nat.ne_of_gt (blk_lt (g:=gb326) (blkV BK326.out)):gb327≠gb326));clear BK326;clear HB;have BK326:=n0_;have HB:=n1_;have BK327:=n2_;have GW327:=n3_;have GE327:=n4_;have NB326_327:=n5_;have NB327_326:=n6_;clear n0_ n1_ n2_ n3_ n4_ n5_ n6_;clear hb hbox hg;have hnb10:=NB326_327.out;have hnc10:=NB327_326.out;obtain ⟨hcz11_0,hcz11_1,hcz11_2,hcz11_3,hfz11_0,hfz11_1,hfz11_2,hfz11_3⟩:=bcells4 BK326.out;obtain ⟨hcz12_0,hcz12_1,hcz12_2,hcz12_3,hfz12_0,hfz12_1,hfz12_2,hfz12_3⟩:=bcells4 BK327.out)|(go_at_call 68;(with_reducible refine (slices_Equal_int_int.calls k _ _ l0_2 _ _ l1_2 true _ ?side1 ?side2 ?side3 ?side4 A5.out).mono ?_);(case side1=>exact cV (Kd.C_below HR0_2.out HB.out));(case side2=>exact HC0_2.out);(case side3=>exact cV (Kd.C_below HR1_2.out HB.out));(case side4=>exact HC1_2.out);rintro e w' ⟨rfl,⟨nd,rfl⟩⟩)|(go_at_call 68;(with_reducible refine (slices_Equal_int_int.calls k _ _ l0_3 _ _ l1_3 t329 _ ?side1 ?side2 ?side3 ?side4 A7.out).mono ?_);(case side1=>repeat (first|exact (Kd.C_below HR0_3.out (belV2 HB.out GE326.out GE327.out))|(with_reducible refine Kd.C_alloc ?_ _)|(with_reducible refine Kd.C_drewN ?_ _)|(with_reducible refine Kd.C_drew ?_)));(case side2=>exact HC0_3.out);(case side3=>repeat (first|exact (Kd.C_below HR1_3.out (belV2 HB.out GE326.out GE327.out))|(with_reducible refine Kd.C_alloc ?_ _)|(with_reducible refine Kd.C_drewN ?_ _)|(with_reducible refine Kd.C_drew ?_)));(case side4=>exact HC1_3.out);rintro e w' ⟨rfl,⟨nd,rfl⟩⟩))
       go_ret
       exact ⟨by first|rfl|(simp [errW_none,errW_some] <;> rfl)|(simp [*,errW_none,errW_some] <;> rfl),by repeat (first|(with_reducible first|exact HB.out|apply below_alloc|apply pw_below_drewN|apply below_drew1|refine below_set ?_ GE326.out|refine below_set ?_ GE327.out)|exact HB.out)⟩
     replace c6:=Bool.eq_false_iff.mpr c6;subst c6
     have H1:(some false)=some r:=by rw [if_neg (show ¬ (false=true) by decide)] at H;exact H
     clear H
     have H:=H1;clear H1
     obtain rfl:=Option.some.inj H
     go_enter Try.func34,Try.ntmps34
     go_wp2_with (first|((with_reducible refine gate_dst (N:=2) rfl ?_);refine box_event ?hg (N:=2) ?hd (cs:=#[.int .i64 a0_0,.int .i64 a0_1,.slice A0_2 l0_2.length c0_2,.slice A0_3 l0_3.length c0_3]) (t:=38) ?hr ?_;(case hd=>rfl);(case hg=>rfl);(case hr=>first|(go_simp;done)|(go_simp;rfl));intro gb326 hg w13 hbox hb;have n0_:=Aside0.mk (below_step (belV HB.out) hb);have n1_:=Aside0.mk (hbox);have n2_:=Aside0.mk ((by rw [hg];exact (below_size (belV HB.out)):w.heap.size≤gb326));have n3_:=Aside0.mk ((by rw [hg];exact (below_size (belV HB.out)):w.heap.size≤gb326));clear HB;have HB:=n0_;have BK326:=n1_;have GW326:=n2_;have GE326:=n3_;clear n0_ n1_ n2_ n3_;clear hb hbox hg)|((with_reducible refine gate_dst (N:=3) rfl ?_);refine box_event ?hg (N:=3) ?hd (cs:=#[.int .i64 a1_0,.int .i64 a1_1,.slice A1_2 l1_2.length c1_2,.slice A1_3 l1_3.length c1_3]) (t:=38) ?hr ?_;(case hd=>rfl);(case hg=>rfl);(case hr=>first|(go_simp;done)|(go_simp;rfl));intro gb327 hg w14 hbox hb;have n0_:=Aside0.mk (blk_below (g:=gb326) (blkV BK326.out) hb);have n1_:=Aside0.mk (below_step (belV1 HB.out GE326.out) hb);have n2_:=Aside0.mk (hbox);have n3_:=Aside0.mk ((by rw [hg];exact (below_size (belV1 HB.out GE326.out)):w.heap.size≤gb327));have n4_:=Aside0.mk ((by rw [hg];exact (below_size (belV1 HB.out GE326.out)):w.heap.size≤gb327));have n5_:=Aside0.mk ((by rw [hg];exact Nat.ne_of_lt (blk_lt (g:=gb326) (blkV BK326.out)):gb326≠gb327));have n6_:=Aside0.mk ((by rw [hg];exact Nat.ne_of_gt (blk_lt (g:=gb326) (blkV BK326.out)):gb327≠gb326));clear BK326;clear HB;have BK326:=n0_;have HB:=n1_;have BK327:=n2_;have GW327:=n3_;have GE327:=n4_;have NB326_327:=n5_;have NB327_326:=n6_;clear n0_ n1_ n2_ n3_ n4_ n5_ n6_;clear hb hbox hg;have hnb15:=NB326_327.out;have hnc15:=NB327_326.out;obtain ⟨hcz16_0,hcz16_1,hcz16_2,hcz16_3,hfz16_0,hfz16_1,hfz16_2,hfz16_3⟩:=bcells4 BK326.out;obtain ⟨hcz17_0,hcz17_1,hcz17_2,hcz17_3,hfz17_0,hfz17_1,hfz17_2,hfz17_3⟩:=bcells4 BK327.out)|(go_at_call 68;(with_reducible refine (slices_Equal_int_int.calls k _ _ l0_2 _ _ l1_2 false _ ?side1 ?side2 ?side3 ?side4 A5.out).mono ?_);(case side1=>exact cV (Kd.C_below HR0_2.out HB.out));(case side2=>exact HC0_2.out);(case side3=>exact cV (Kd.C_below HR1_2.out HB.out));(case side4=>exact HC1_2.out);rintro e w' ⟨rfl,⟨nd,rfl⟩⟩))
     go_ret
     exact ⟨by first|rfl|(simp [errW_none,errW_some] <;> rfl)|(simp [*,errW_none,errW_some] <;> rfl),by repeat (first|(with_reducible first|exact HB.out|apply below_alloc|apply pw_below_drewN|apply below_drew1|refine below_set ?_ GE326.out|refine below_set ?_ GE327.out)|exact HB.out)⟩
   rw [if_neg c4] at H
   have c4b0:(a0_1 == a1_1)=false:=beq_eq_false_iff_ne.mpr c4
   have c4b1:(a0_1 != a1_1)=true:=bne_iff_ne.mpr c4
   obtain rfl:=Option.some.inj H
   go_enter Try.func34,Try.ntmps34
   go_wp2_with (first|((with_reducible refine gate_dst (N:=2) rfl ?_);refine box_event ?hg (N:=2) ?hd (cs:=#[.int .i64 a0_0,.int .i64 a0_1,.slice A0_2 l0_2.length c0_2,.slice A0_3 l0_3.length c0_3]) (t:=38) ?hr ?_;(case hd=>rfl);(case hg=>rfl);(case hr=>first|(go_simp;done)|(go_simp;rfl));intro gb326 hg w18 hbox hb;have n0_:=Aside0.mk (below_step (belV HB.out) hb);have n1_:=Aside0.mk (hbox);have n2_:=Aside0.mk ((by rw [hg];exact (below_size (belV HB.out)):w.heap.size≤gb326));have n3_:=Aside0.mk ((by rw [hg];exact (below_size (belV HB.out)):w.heap.size≤gb326));clear HB;have HB:=n0_;have BK326:=n1_;have GW326:=n2_;have GE326:=n3_;clear n0_ n1_ n2_ n3_;clear hb hbox hg)|((with_reducible refine gate_dst (N:=3) rfl ?_);refine box_event ?hg (N:=3) ?hd (cs:=#[.int .i64 a1_0,.int .i64 a1_1,.slice A1_2 l1_2.length c1_2,.slice A1_3 l1_3.length c1_3]) (t:=38) ?hr ?_;(case hd=>rfl);(case hg=>rfl);(case hr=>first|(go_simp;done)|(go_simp;rfl));intro gb327 hg w19 hbox hb;have n0_:=Aside0.mk (blk_below (g:=gb326) (blkV BK326.out) hb);have n1_:=Aside0.mk (below_step (belV1 HB.out GE326.out) hb);have n2_:=Aside0.mk (hbox);have n3_:=Aside0.mk ((by rw [hg];exact (below_size (belV1 HB.out GE326.out)):w.heap.size≤gb327));have n4_:=Aside0.mk ((by rw [hg];exact (below_size (belV1 HB.out GE326.out)):w.heap.size≤gb327));have n5_:=Aside0.mk ((by rw [hg];exact Nat.ne_of_lt (blk_lt (g:=gb326) (blkV BK326.out)):gb326≠gb327));have n6_:=Aside0.mk ((by rw [hg];exact Nat.ne_of_gt (blk_lt (g:=gb326) (blkV BK326.out)):gb327≠gb326));clear BK326;clear HB;have BK326:=n0_;have HB:=n1_;have BK327:=n2_;have GW327:=n3_;have GE327:=n4_;have NB326_327:=n5_;have NB327_326:=n6_;clear n0_ n1_ n2_ n3_ n4_ n5_ n6_;clear hb hbox hg;have hnb20:=NB326_327.out;have hnc20:=NB327_326.out;obtain ⟨hcz21_0,hcz21_1,hcz21_2,hcz21_3,hfz21_0,hfz21_1,hfz21_2,hfz21_3⟩:=bcells4 BK326.out;obtain ⟨hcz22_0,hcz22_1,hcz22_2,hcz22_3,hfz22_0,hfz22_1,hfz22_2,hfz22_3⟩:=bcells4 BK327.out))
   go_ret
   exact ⟨by first|rfl|(simp [errW_none,errW_some] <;> rfl)|(simp [*,errW_none,errW_some] <;> rfl),by repeat (first|(with_reducible first|exact HB.out|apply below_alloc|apply pw_below_drewN|apply below_drew1|refine below_set ?_ GE326.out|refine below_set ?_ GE327.out)|exact HB.out)⟩
 rw [if_neg c3] at H
 have c3b0:(a0_0 == a1_0)=false:=beq_eq_false_iff_ne.mpr c3
 have c3b1:(a0_0 != a1_0)=true:=bne_iff_ne.mpr c3
 obtain rfl:=Option.some.inj H
 go_enter Try.func34,Try.ntmps34
 go_wp2_with (first|((with_reducible refine gate_dst (N:=2) rfl ?_);refine box_event ?hg (N:=2) ?hd (cs:=#[.int .i64 a0_0,.int .i64 a0_1,.slice A0_2 l0_2.length c0_2,.slice A0_3 l0_3.length c0_3]) (t:=38) ?hr ?_;(case hd=>rfl);(case hg=>rfl);(case hr=>first|(go_simp;done)|(go_simp;rfl));intro gb326 hg w23 hbox hb;have n0_:=Aside0.mk (below_step (belV HB.out) hb);have n1_:=Aside0.mk (hbox);have n2_:=Aside0.mk ((by rw [hg];exact (below_size (belV HB.out)):w.heap.size≤gb326));have n3_:=Aside0.mk ((by rw [hg];exact (below_size (belV HB.out)):w.heap.size≤gb326));clear HB;have HB:=n0_;have BK326:=n1_;have GW326:=n2_;have GE326:=n3_;clear n0_ n1_ n2_ n3_;clear hb hbox hg)|((with_reducible refine gate_dst (N:=3) rfl ?_);refine box_event ?hg (N:=3) ?hd (cs:=#[.int .i64 a1_0,.int .i64 a1_1,.slice A1_2 l1_2.length c1_2,.slice A1_3 l1_3.length c1_3]) (t:=38) ?hr ?_;(case hd=>rfl);(case hg=>rfl);(case hr=>first|(go_simp;done)|(go_simp;rfl));intro gb327 hg w24 hbox hb;have n0_:=Aside0.mk (blk_below (g:=gb326) (blkV BK326.out) hb);have n1_:=Aside0.mk (below_step (belV1 HB.out GE326.out) hb);have n2_:=Aside0.mk (hbox);have n3_:=Aside0.mk ((by rw [hg];exact (below_size (belV1 HB.out GE326.out)):w.heap.size≤gb327));have n4_:=Aside0.mk ((by rw [hg];exact (below_size (belV1 HB.out GE326.out)):w.heap.size≤gb327));have n5_:=Aside0.mk ((by rw [hg];exact Nat.ne_of_lt (blk_lt (g:=gb326) (blkV BK326.out)):gb326≠gb327));have n6_:=Aside0.mk ((by rw [hg];exact Nat.ne_of_gt (blk_lt (g:=gb326) (blkV BK326.out)):gb327≠gb326));clear BK326;clear HB;have BK326:=n0_;have HB:=n1_;have BK327:=n2_;have GW327:=n3_;have GE327:=n4_;have NB326_327:=n5_;have NB327_326:=n6_;clear n0_ n1_ n2_ n3_ n4_ n5_ n6_;clear hb hbox hg;have hnb25:=NB326_327.out;have hnc25:=NB327_326.out;obtain ⟨hcz26_0,hcz26_1,hcz26_2,hcz26_3,hfz26_0,hfz26_1,hfz26_2,hfz26_3⟩:=bcells4 BK326.out;obtain ⟨hcz27_0,hcz27_1,hcz27_2,hcz27_3,hfz27_0,hfz27_1,hfz27_2,hfz27_3⟩:=bcells4 BK327.out))
 go_ret
 exact ⟨by first|rfl|(simp [errW_none,errW_some] <;> rfl)|(simp [*,errW_none,errW_some] <;> rfl),by repeat (first|(with_reducible first|exact HB.out|apply below_alloc|apply pw_below_drewN|apply below_drew1|refine below_set ?_ GE326.out|refine below_set ?_ GE327.out)|exact HB.out)⟩

-- NOT PRINTED: function 7 (dioramalaw19_BitmapDraws)

end Go.Proofs.Ytaebgjdaoloceaa.QBmpD
