/- Part of a proof: functions of the program as Lean functions, and that the machine's calls come to them. Made by a program of this session (wip/mp). -/
import Derived.Test.YtmbhafgnmdfjhaaQTaby0
import Derived.Test.YtmbhafgnmdfjhaaMX
namespace Go.Proofs.Ytmbhafgnmdfjhaa.QTab
open Go.RowKit Go.Proofs.YtmbhafgnmdfjhaaV Go.Proofs.YtmbhafgnmdfjhaaW.PrintWords Go.Proofs.YtmbhafgnmdfjhaaW.PrintLast Go.Proofs.YtmbhafgnmdfjhaaW.PrintMore
attribute [local go_sem] max2_int min2_int max_two min_two max_three min_three max_four min_four   -- for this text's walks alone
set_option linter.unusedVariables false
set_option linter.unusedSimpArgs false

/-! ### dioramaref09_Before: function 34 -/
mutual
def dioramaref09_Before.j0 : Nat → Int → List (S51) → Bool → Option (Int × Int)
 | 0,_,_,_=>none
 | k+1,x1,x6,x23=>if x23=true then (some (0,1)) else (dioramaref09_Before.l0 k x1 x6)
def dioramaref09_Before.l0 : Nat → Int → List (S51) → Option (Int × Int)
 | 0,_,_=>none
 | k+1,x1,x6=>if x1≥0 then (if 0≤x1 then (if x1 < (x6.length:Int) then (if ((rd_T51 x6 x1).f6=true) then (some (x1,0)) else (dioramaref09_Before.l0 k (wrap64 (x1 - 1)) x6)) else (none)) else (none)) else (some (x1,0))
end
def dioramaref09_Before.f (k : Nat) (a0_0 : Int) (l0_1 : List (S83)) (l0_2 : List (S83)) (l0_3 : List Int) (a0_4 : Bool) (a0_5 : Int) (l0_6 : List Int) (l0_7 : List (S86)) (l0_8 : List Int) (l0_9 : List (S83)) (l0_10 : List (List Int)) (a1 : Int) : Option (Int × Int) := (dioramaref09_Expand.f a0_0 l0_1 l0_2 l0_3 a0_4 a0_5 l0_6 l0_7 l0_8 l0_9 l0_10).bind fun bt326 => (if bt326.2 = 0 then (if a1 < 0 then (dioramaref09_Before.j0 k a1 bt326.1 true) else (dioramaref09_Before.j0 k a1 bt326.1 (decide (a1 ≥ (bt326.1.length : Int))))) else (some (0, bt326.2)))
theorem dioramaref09_Before.mono_l:∀ k,(∀ y0 y1 y2,LeO (dioramaref09_Before.j0 k y0 y1 y2) (dioramaref09_Before.j0 (k+1) y0 y1 y2))∧(∀ y0 y1,LeO (dioramaref09_Before.l0 k y0 y1) (dioramaref09_Before.l0 (k+1) y0 y1))
 | 0=>⟨fun _ _ _ r h=>by simp [dioramaref09_Before.j0] at h,fun _ _ r h=>by simp [dioramaref09_Before.l0] at h⟩
 | k+1=>by
  obtain ⟨ih0,ih1⟩:=dioramaref09_Before.mono_l k
  refine ⟨?_,?_⟩
  · intro y0 y1 y2
    unfold dioramaref09_Before.j0
    repeat' first
    | (with_reducible exact ih0 _ _ _)
    | (with_reducible exact ih1 _ _)
    | (with_reducible exact LeO.refl _)
    | (with_reducible exact LeO.none _)
    | (with_reducible refine LeO.ite ?_ ?_)
    | (with_reducible refine LeO.bind ?_ (fun _=>?_))
    | exact LeO.none _
    | refine LeO.ite ?_ ?_
    | refine LeO.bind ?_ (fun _=>?_)
  intro y0 y1
  unfold dioramaref09_Before.l0
  repeat' first
  | (with_reducible exact ih0 _ _ _)
  | (with_reducible exact ih1 _ _)
  | (with_reducible exact LeO.refl _)
  | (with_reducible exact LeO.none _)
  | (with_reducible refine LeO.ite ?_ ?_)
  | (with_reducible refine LeO.bind ?_ (fun _=>?_))
  | exact LeO.none _
  | refine LeO.ite ?_ ?_
  | refine LeO.bind ?_ (fun _=>?_)
theorem dioramaref09_Before.mono:∀ a0 a1 a2 a3 a4 a5 a6 a7 a8 a9 a10 a11 k,LeO (dioramaref09_Before.f k a0 a1 a2 a3 a4 a5 a6 a7 a8 a9 a10 a11) (dioramaref09_Before.f (k+1) a0 a1 a2 a3 a4 a5 a6 a7 a8 a9 a10 a11):=by
 intro a0 a1 a2 a3 a4 a5 a6 a7 a8 a9 a10 a11 k
 obtain ⟨ih0,ih1⟩:=dioramaref09_Before.mono_l k
 unfold dioramaref09_Before.f
 repeat' first
  | (with_reducible exact ih0 _ _ _)
  | (with_reducible exact ih1 _ _)
  | (with_reducible exact LeO.refl _)
  | (with_reducible exact LeO.none _)
  | (with_reducible refine LeO.ite ?_ ?_)
  | (with_reducible refine LeO.bind ?_ (fun _=>?_))
  | exact LeO.none _
  | refine LeO.ite ?_ ?_
  | refine LeO.bind ?_ (fun _=>?_)
set_option maxHeartbeats 8000000 in
set_option maxRecDepth 100000 in
theorem dioramaref09_Before.calls (k:Nat) (a0_0:Int) (A0_1:Option Addr) (c0_1:Nat) (l0_1:List (S83)) (A0_2:Option Addr) (c0_2:Nat) (l0_2:List (S83)) (A0_3:Option Addr) (c0_3:Nat) (l0_3:List Int) (a0_4:Bool) (a0_5:Int) (A0_6:Option Addr) (c0_6:Nat) (l0_6:List Int) (A0_7:Option Addr) (c0_7:Nat) (l0_7:List (S86)) (A0_8:Option Addr) (c0_8:Nat) (l0_8:List Int) (A0_9:Option Addr) (c0_9:Nat) (l0_9:List (S83)) (A0_10:Option Addr) (c0_10:Nat) (l0_10:List (List Int)) (a1:Int) (r1:Int) (r2:Int) (w:World) (hr0_1:Kd.C k83 w A0_1 l0_1.length l0_1) (hc0_1:l0_1.length≤c0_1) (hr0_2:Kd.C k83 w A0_2 l0_2.length l0_2) (hc0_2:l0_2.length≤c0_2) (hr0_3:Kd.C (Kd.int .i64) w A0_3 l0_3.length l0_3) (hc0_3:l0_3.length≤c0_3) (hr0_6:Kd.C (Kd.int .i64) w A0_6 l0_6.length l0_6) (hc0_6:l0_6.length≤c0_6) (hr0_7:Kd.C k86 w A0_7 l0_7.length l0_7) (hc0_7:l0_7.length≤c0_7) (hr0_8:Kd.C (Kd.int .i64) w A0_8 l0_8.length l0_8) (hc0_8:l0_8.length≤c0_8) (hr0_9:Kd.C k83 w A0_9 l0_9.length l0_9) (hc0_9:l0_9.length≤c0_9) (hr0_10:Kd.C (Kd.slice 3 (Kd.int .i64)) w A0_10 l0_10.length l0_10) (hc0_10:l0_10.length≤c0_10) (h:dioramaref09_Before.f k a0_0 l0_1 l0_2 l0_3 a0_4 a0_5 l0_6 l0_7 l0_8 l0_9 l0_10 a1=some (r1,r2)) :
 Calls Try.prog 34 #[.agg #[.int .i64 a0_0,.slice A0_1 l0_1.length c0_1,.slice A0_2 l0_2.length c0_2,.slice A0_3 l0_3.length c0_3,.bool a0_4,.int .i64 a0_5,.slice A0_6 l0_6.length c0_6,.slice A0_7 l0_7.length c0_7,.slice A0_8 l0_8.length c0_8,.slice A0_9 l0_9.length c0_9,.slice A0_10 l0_10.length c0_10],.int .i64 a1] w fun e w'=>e=.returned (.tuple #[.int .i64 r1,.int .i64 r2])∧Below w.heap.size w w':=by
 have hu27:=Try.underlying27
 have HR0_1:=Aside0.mk hr0_1
 have HC0_1:=Aside0.mk hc0_1;clear hr0_1 hc0_1
 have HR0_2:=Aside0.mk hr0_2
 have HC0_2:=Aside0.mk hc0_2;clear hr0_2 hc0_2
 have HR0_3:=Aside0.mk hr0_3
 have HC0_3:=Aside0.mk hc0_3;clear hr0_3 hc0_3
 have HR0_6:=Aside0.mk hr0_6
 have HC0_6:=Aside0.mk hc0_6;clear hr0_6 hc0_6
 have HR0_7:=Aside0.mk hr0_7
 have HC0_7:=Aside0.mk hc0_7;clear hr0_7 hc0_7
 have HR0_8:=Aside0.mk hr0_8
 have HC0_8:=Aside0.mk hc0_8;clear hr0_8 hc0_8
 have HR0_9:=Aside0.mk hr0_9
 have HC0_9:=Aside0.mk hc0_9;clear hr0_9 hc0_9
 have HR0_10:=Aside0.mk hr0_10
 have HC0_10:=Aside0.mk hc0_10;clear hr0_10 hc0_10;have HB:=Aside0.mk (Below.refl w.heap.size w)
 have H:((dioramaref09_Expand.f a0_0 l0_1 l0_2 l0_3 a0_4 a0_5 l0_6 l0_7 l0_8 l0_9 l0_10).bind fun bt326=>(if bt326.2=0 then (if a1 < 0 then (dioramaref09_Before.j0 k a1 bt326.1 true) else (dioramaref09_Before.j0 k a1 bt326.1 (decide (a1≥(bt326.1.length:Int))))) else (some (0,bt326.2))))=some (r1,r2):=h
 clear h
 replace H:=Option.bind_eq_some_iff.mp H
 obtain ⟨⟨t326,t329⟩,A30,H⟩:=H
 replace H:(if t329=0 then (if a1 < 0 then (dioramaref09_Before.j0 k a1 t326 true) else (dioramaref09_Before.j0 k a1 t326 (decide (a1≥(t326.length:Int))))) else (some (0,t329)))=some (r1,r2):=H
 have A3:=Aside0.mk A30;clear A30
 by_cases c4:t329=0
 · rw [if_pos c4] at H
   have c4b0:(t329 == 0)=true:=beq_iff_eq.mpr c4
   have c4b1:(t329 != 0)=false:=bne_eq_false_iff_eq.mpr c4;clear c4
   have HC5:=Aside0.mk H;clear H
   go_enter Try.func34,Try.ntmps34
   go_upto_region 4 with (first|((with_reducible refine gate_dst (N:=2) rfl ?_);(try (refine gate_guard (by rfl) ?_;dsimp only));refine box_event ?hg (N:=2) ?hd (cs:=#[.int .i64 a0_0,.slice A0_1 l0_1.length c0_1,.slice A0_2 l0_2.length c0_2,.slice A0_3 l0_3.length c0_3,.bool a0_4,.int .i64 a0_5,.slice A0_6 l0_6.length c0_6,.slice A0_7 l0_7.length c0_7,.slice A0_8 l0_8.length c0_8,.slice A0_9 l0_9.length c0_9,.slice A0_10 l0_10.length c0_10]) (t:=27) ?hr ?_;(case hd=>rfl);(case hg=>rfl);(case hr=>first|(go_simp;done)|(go_simp;rfl));intro gb325 hg w6 hbox hb;have n0_:=Aside0.mk (below_step (belV HB.out) hb);have n1_:=Aside0.mk (hbox);have n2_:=Aside0.mk ((by rw [hg];exact (below_size (belV HB.out)):w.heap.size≤gb325));have n3_:=Aside0.mk ((by rw [hg];exact (below_size (belV HB.out)):w.heap.size≤gb325));clear HB;have HB:=n0_;have BK325:=n1_;have GW325:=n2_;have GE325:=n3_;clear n0_ n1_ n2_ n3_;clear hb hbox hg;obtain ⟨hcz7_0,hcz7_1,hcz7_2,hcz7_3,hcz7_4,hcz7_5,hcz7_6,hcz7_7,hcz7_8,hcz7_9,hcz7_10,hfz7_0,hfz7_1,hfz7_2,hfz7_3,hfz7_4,hfz7_5,hfz7_6,hfz7_7,hfz7_8,hfz7_9,hfz7_10⟩:=bcells11 BK325.out)|((with_reducible refine gate_callee (f:=26) rfl ?_);refine goesL_ (some 10) rfl rfl Try.func26 (by kernel_rfl) rfl #[.agg #[.int .i64 a0_0,.slice A0_1 l0_1.length c0_1,.slice A0_2 l0_2.length c0_2,.slice A0_3 l0_3.length c0_3,.bool a0_4,.int .i64 a0_5,.slice A0_6 l0_6.length c0_6,.slice A0_7 l0_7.length c0_7,.slice A0_8 l0_8.length c0_8,.slice A0_9 l0_9.length c0_9,.slice A0_10 l0_10.length c0_10]] rfl (by (try simp only [List.map_toArray,List.map_cons,List.map_nil]);first|done|rfl|(simp only [List.length_drop,List.length_take];rfl)) ?_;(with_reducible refine (dioramaref09_Expand.calls a0_0 _ _ l0_1 _ _ l0_2 _ _ l0_3 a0_4 a0_5 _ _ l0_6 _ _ l0_7 _ _ l0_8 _ _ l0_9 _ _ l0_10 t326 t329 _ ?side1 ?side2 ?side3 ?side4 ?side5 ?side6 ?side7 ?side8 ?side9 ?side10 ?side11 ?side12 ?side13 ?side14 ?side15 ?side16 A3.out).mono ?_);(case side1=>exact cV (Kd.C_below HR0_1.out HB.out));(case side2=>exact HC0_1.out);(case side3=>exact cV (Kd.C_below HR0_2.out HB.out));(case side4=>exact HC0_2.out);(case side5=>exact cV (Kd.C_below HR0_3.out HB.out));(case side6=>exact HC0_3.out);(case side7=>exact cV (Kd.C_below HR0_6.out HB.out));(case side8=>exact HC0_6.out);(case side9=>exact cV (Kd.C_below HR0_7.out HB.out));(case side10=>exact HC0_7.out);(case side11=>exact cV (Kd.C_below HR0_8.out HB.out));(case side12=>exact HC0_8.out);(case side13=>exact cV (Kd.C_below HR0_9.out HB.out));(case side14=>exact HC0_9.out);(case side15=>exact cV (Kd.C_below HR0_10.out HB.out));(case side16=>exact HC0_10.out);rintro e w8 ⟨v327,rfl,ho0,hb⟩;refine ⟨_,rfl,?_⟩;have n0_:=Aside0.mk (Kd.S_lower ho0 (below_size (belV1 HB.out GE325.out)));have n1_:=Aside0.mk (blk_below (g:=gb325) (blkV BK325.out) hb);have n2_:=Aside0.mk (below_step (belV1 HB.out GE325.out) hb);clear BK325;clear HB;have HO328:=n0_;have BK325:=n1_;have HB:=n2_;clear n0_ n1_ n2_;(try clear hb);(try clear hb2);(try clear hk);(try clear hi);(try clear ho0)))
   (try simp only [Act.put,List.setIfInBounds_toArray,List.set_cons_zero,List.set_cons_succ])
   go_cut [23] (fun v23 wc=>∃ (kq:Nat) (x23_4:Bool),v23=.bool x23_4∧Aside0 (dioramaref09_Before.j0 kq a1 t326 x23_4=some (r1,r2))∧Aside0 (kq≤k)∧Aside0 (Kd.S k51 51 wc w.heap.size (fun _=>True) v327 t326)∧Aside0 (wc.heap[gb325]?=some (.cells #[.int .i64 a0_0,(.slice A0_1 l0_1.length c0_1),(.slice A0_2 l0_2.length c0_2),(.slice A0_3 l0_3.length c0_3),.bool a0_4,.int .i64 a0_5,(.slice A0_6 l0_6.length c0_6),(.slice A0_7 l0_7.length c0_7),(.slice A0_8 l0_8.length c0_8),(.slice A0_9 l0_9.length c0_9),(.slice A0_10 l0_10.length c0_10)] 27 (0,0)))∧Aside0 (Below w.heap.size w wc))
   case first =>
    have H:=HC5.out;clear HC5
    by_cases c9:a1 < 0
    · rw [if_pos c9] at H
      have c9b0:decide (a1 < 0)=true:=decide_eq_true c9;clear c9
      (first|rw [c9b0]|(simp only [i64_w,i32_w];rw [c9b0])|rw [c9b1]|skip)
      have H':=Aside0.mk H;clear H
      go_wp2
      go_meet
      case rel=>exact ⟨_,(true),okV,H',⟨by first|omega|exact Nat.le_refl _⟩,⟨by (with_reducible repeat (first|apply Kd.S_alloc|apply Kd.S_drewN|apply Kd.S_drew));exact HO328.out⟩,⟨blkV BK325.out⟩,⟨belV1 HB.out GE325.out⟩⟩
    rw [if_neg c9] at H
    have c9b0:decide (a1 < 0)=false:=decide_eq_false c9;clear c9
    (first|rw [c9b0]|(simp only [i64_w,i32_w];rw [c9b0])|rw [c9b1]|skip)
    have H':=Aside0.mk H;clear H
    obtain ⟨Ao10,co10,eo10⟩:=Kd.S_slice HO328.out;subst eo10
    go_wp2
    go_meet
    case rel=>exact ⟨_,(decide (a1≥(t326.length:Int))),okV,H',⟨by first|omega|exact Nat.le_refl _⟩,⟨by (with_reducible repeat (first|apply Kd.S_alloc|apply Kd.S_drewN|apply Kd.S_drew));exact HO328.out⟩,⟨blkV BK325.out⟩,⟨belV1 HB.out GE325.out⟩⟩
   case rest =>
    clear HC5
    try clear c2;try clear p2;try clear c3;try clear c4;try clear c4b0;try clear c4b1;try clear c9;try clear c9b0;try clear c9b1;try clear hcz7_0 hcz7_1 hcz7_10 hcz7_2 hcz7_3 hcz7_4 hcz7_5 hcz7_6 hcz7_7 hcz7_8 hcz7_9;try clear hfz7_0 hfz7_1 hfz7_10 hfz7_2 hfz7_3 hfz7_4 hfz7_5 hfz7_6 hfz7_7 hfz7_8 hfz7_9
    obtain ⟨kq,x23_4,rfl,HA,HJ4,HO_6,BK325,HB⟩:=hcut
    cases kq with
    | zero=>exact absurd HA.out (by simp [dioramaref09_Before.j0])
    | succ kj4 =>
     have H:=HA.out;clear HA
     simp only [dioramaref09_Before.j0] at H
     by_cases c11:x23_4=true
     · subst c11
       have H1:(some (0,1))=some (r1,r2):=by rw [if_pos rfl] at H;exact H
       clear H
       have H:=H1;clear H1
       simp only [Option.some.injEq,Prod.mk.injEq] at H
       obtain ⟨rfl,rfl⟩:=H
       go_wp2
       go_ret2
       exact ⟨by first|rfl|(simp [errW_none,errW_some] <;> rfl)|(simp [*,errW_none,errW_some] <;> rfl),by repeat (first|(with_reducible first|exact HB.out|apply below_alloc|apply pw_below_drewN|apply below_drew1|refine below_set ?_ GE325.out)|exact HB.out)⟩
     replace c11:=Bool.eq_false_iff.mpr c11;subst c11
     have H1:(dioramaref09_Before.l0 kj4 a1 t326)=some (r1,r2):=by rw [if_neg (show ¬ (false=true) by decide)] at H;exact H
     clear H
     have H:=H1;clear H1
     have H':=Aside0.mk H;clear H
     go_wp2
     go_loopg [1] kj4 (fun kq v1 w'=>∃ (x1_2:Int),v1=.int .i64 x1_2∧Aside0 (dioramaref09_Before.l0 kq x1_2 t326=some (r1,r2))∧Aside0 (kq≤kj4)∧Aside0 (Kd.S k51 51 w' w.heap.size (fun _=>True) v327 t326)∧Aside0 (w'.heap[gb325]?=some (.cells #[.int .i64 a0_0,(.slice A0_1 l0_1.length c0_1),(.slice A0_2 l0_2.length c0_2),(.slice A0_3 l0_3.length c0_3),.bool a0_4,.int .i64 a0_5,(.slice A0_6 l0_6.length c0_6),(.slice A0_7 l0_7.length c0_7),(.slice A0_8 l0_8.length c0_8),(.slice A0_9 l0_9.length c0_9),(.slice A0_10 l0_10.length c0_10)] 27 (0,0)))∧Aside0 (Below w.heap.size w w'))
     case atStart=>exact ⟨(a1),okV,H',⟨Nat.le_refl _⟩,⟨by (with_reducible repeat (first|apply Kd.S_alloc|apply Kd.S_drewN|apply Kd.S_drew));exact HO_6.out⟩,⟨blkV BK325.out⟩,⟨belV1 HB.out GE325.out⟩⟩
     case round =>
      clear H'
      try clear c1;try clear c2;try clear p2 p2;try clear c3;try clear c4;try clear c4b0;try clear c4b1;try clear c9;try clear c9b0;try clear c9b1;try clear c11;try clear hcz7_0 hcz7_1 hcz7_10 hcz7_2 hcz7_3 hcz7_4 hcz7_5 hcz7_6 hcz7_7 hcz7_8 hcz7_9;try clear hfz7_0 hfz7_1 hfz7_10 hfz7_2 hfz7_3 hfz7_4 hfz7_5 hfz7_6 hfz7_7 hfz7_8 hfz7_9
      obtain ⟨x1_2,rfl,HA,HK2,HO_6,BK325,HB⟩:=hrel
      cases gk with
      | zero=>exact absurd HA.out (by simp [dioramaref09_Before.l0])
      | succ k2 =>
       have H:=HA.out;clear HA
       simp only [dioramaref09_Before.l0] at H
       by_cases c12:x1_2≥0
       · rw [if_pos c12] at H
         have c12b0:decide (0≤x1_2)=true:=decide_eq_true c12;clear c12
         by_cases c13:0≤x1_2
         · rw [if_pos c13] at H
           have c13b0:decide (0≤x1_2)=true:=decide_eq_true c13;clear c13
           by_cases c14:x1_2 < (t326.length:Int)
           · rw [if_pos c14] at H
             have c14b0:decide (x1_2 < (t326.length:Int))=true:=decide_eq_true c14;clear c14
             obtain ⟨bq15,hbq15⟩:∃ b_:Bool,b_=((rd_T51 t326 x1_2).f6):=⟨_,rfl⟩
             replace H:(if (bq15=true) then (some (x1_2,0)) else (dioramaref09_Before.l0 k2 (wrap64 (x1_2 - 1)) t326))=some (r1,r2):=by rw [← hbq15] at H;exact H
             have Nbq15:=Aside0.mk hbq15;clear hbq15
             by_cases c16:(bq15=true)
             · subst c16
               have H1:(some (x1_2,0))=some (r1,r2):=by rw [if_pos rfl] at H;exact H
               clear H
               have H:=H1;clear H1
               simp only [Option.some.injEq,Prod.mk.injEq] at H
               obtain ⟨rfl,rfl⟩:=H
               obtain ⟨Ao17,co17,eo17⟩:=Kd.S_slice HO_6.out;subst eo17
               have p330:0≤(x1_2:Int):=of_decide_eq_true asV
               have q330:x1_2 < (t326.length:Int):=of_decide_eq_true asV
               obtain ⟨ad330,A330_7,c330_7,e330,hx330_0,hx330_1,hx330_2,hx330_3,hx330_4,hx330_5,hx330_6,hx330_7,hl330_7,hi330_7⟩:=at_T51 (Kd.S_reads' HO_6.out).2.2 x1_2 p330 q330
               (try rw [← Nbq15.out] at hx330_6)
               cases e330
               obtain ⟨ce330,hce330,hMe330,hcc330⟩:=Kd.S_get HO_6.out z51 x1_2 p330 (by first|exact q330|exact of_decide_eq_true asV|(have e_:=(Kd.S_reads' HO_6.out).1;omega))
               obtain ⟨ve330_7,rfl,ge330_7⟩:=k51_openM hMe330
               have hv330_7:=hcc330 7 _ rfl
               rw [add_field _ _ 7 (by omega)] at hv330_7
               replace hv330_7:=Option.some.inj (hv330_7.symm.trans hx330_7)
               rw [hv330_7] at ge330_7
               have HL330_7:=Aside0.mk (show Kd.R (Kd.int .i64) 3 _ _ _ _ ((rd_T51 t326 x1_2).f7) from ge330_7);clear hv330_7 ge330_7;clear hcc330 hce330
               have HR330_7:=Aside0.mk hi330_7
               have HC330_7:=Aside0.mk hl330_7;clear hi330_7 hl330_7
               replace p330:=eq_true p330
               replace q330:=eq_true q330
               go_wp2
               go_ret2
               exact ⟨by first|rfl|(simp [errW_none,errW_some] <;> rfl)|(simp [*,errW_none,errW_some] <;> rfl),by repeat (first|(with_reducible first|exact HB.out|apply below_alloc|apply pw_below_drewN|apply below_drew1|refine below_set ?_ GE325.out)|exact HB.out)⟩
             replace c16:=Bool.eq_false_iff.mpr c16;subst c16
             have H1:(dioramaref09_Before.l0 k2 (wrap64 (x1_2 - 1)) t326)=some (r1,r2):=by rw [if_neg (show ¬ (false=true) by decide)] at H;exact H
             clear H
             have H:=H1;clear H1
             have H':=Aside0.mk H;clear H
             obtain ⟨Ao18,co18,eo18⟩:=Kd.S_slice HO_6.out;subst eo18
             have p330:0≤(x1_2:Int):=of_decide_eq_true asV
             have q330:x1_2 < (t326.length:Int):=of_decide_eq_true asV
             obtain ⟨ad330,A330_7,c330_7,e330,hx330_0,hx330_1,hx330_2,hx330_3,hx330_4,hx330_5,hx330_6,hx330_7,hl330_7,hi330_7⟩:=at_T51 (Kd.S_reads' HO_6.out).2.2 x1_2 p330 q330
             (try rw [← Nbq15.out] at hx330_6)
             cases e330
             obtain ⟨ce330,hce330,hMe330,hcc330⟩:=Kd.S_get HO_6.out z51 x1_2 p330 (by first|exact q330|exact of_decide_eq_true asV|(have e_:=(Kd.S_reads' HO_6.out).1;omega))
             obtain ⟨ve330_7,rfl,ge330_7⟩:=k51_openM hMe330
             have hv330_7:=hcc330 7 _ rfl
             rw [add_field _ _ 7 (by omega)] at hv330_7
             replace hv330_7:=Option.some.inj (hv330_7.symm.trans hx330_7)
             rw [hv330_7] at ge330_7
             have HL330_7:=Aside0.mk (show Kd.R (Kd.int .i64) 3 _ _ _ _ ((rd_T51 t326 x1_2).f7) from ge330_7);clear hv330_7 ge330_7;clear hcc330 hce330
             have HR330_7:=Aside0.mk hi330_7
             have HC330_7:=Aside0.mk hl330_7;clear hi330_7 hl330_7
             replace p330:=eq_true p330
             replace q330:=eq_true q330
             go_wp2
             go_roundg k2
             case measure=>have:=HJ4.out;have:=HK2.out;omega
             case rel=>exact ⟨(wrap64 (x1_2 - 1)),okV,H',⟨by have:=HJ4.out;have:=HK2.out;omega⟩,⟨by (with_reducible repeat (first|apply Kd.S_alloc|apply Kd.S_drewN|apply Kd.S_drew));exact HO_6.out⟩,⟨blkV BK325.out⟩,⟨belV1 HB.out GE325.out⟩⟩
           rw [if_neg c14] at H
           exact absurd H (by simp)
         rw [if_neg c13] at H
         exact absurd H (by simp)
       rw [if_neg c12] at H
       have c12b0:decide (0≤x1_2)=false:=decide_eq_false c12;clear c12
       simp only [Option.some.injEq,Prod.mk.injEq] at H
       obtain ⟨rfl,rfl⟩:=H
       go_wp2
       go_ret2
       exact ⟨by first|rfl|(simp [errW_none,errW_some] <;> rfl)|(simp [*,errW_none,errW_some] <;> rfl),by repeat (first|(with_reducible first|exact HB.out|apply below_alloc|apply pw_below_drewN|apply below_drew1|refine below_set ?_ GE325.out)|exact HB.out)⟩
 rw [if_neg c4] at H
 have c4b0:(t329 == 0)=false:=beq_eq_false_iff_ne.mpr c4
 have c4b1:(t329 != 0)=true:=bne_iff_ne.mpr c4
 simp only [Option.some.injEq,Prod.mk.injEq] at H
 obtain ⟨rfl,rfl⟩:=H
 go_enter Try.func34,Try.ntmps34
 go_wp2_with (first|((with_reducible refine gate_dst (N:=2) rfl ?_);(try (refine gate_guard (by rfl) ?_;dsimp only));refine box_event ?hg (N:=2) ?hd (cs:=#[.int .i64 a0_0,.slice A0_1 l0_1.length c0_1,.slice A0_2 l0_2.length c0_2,.slice A0_3 l0_3.length c0_3,.bool a0_4,.int .i64 a0_5,.slice A0_6 l0_6.length c0_6,.slice A0_7 l0_7.length c0_7,.slice A0_8 l0_8.length c0_8,.slice A0_9 l0_9.length c0_9,.slice A0_10 l0_10.length c0_10]) (t:=27) ?hr ?_;(case hd=>rfl);(case hg=>rfl);(case hr=>first|(go_simp;done)|(go_simp;rfl));intro gb325 hg w19 hbox hb;have n0_:=Aside0.mk (below_step (belV HB.out) hb);have n1_:=Aside0.mk (hbox);have n2_:=Aside0.mk ((by rw [hg];exact (below_size (belV HB.out)):w.heap.size≤gb325));have n3_:=Aside0.mk ((by rw [hg];exact (below_size (belV HB.out)):w.heap.size≤gb325));clear HB;have HB:=n0_;have BK325:=n1_;have GW325:=n2_;have GE325:=n3_;clear n0_ n1_ n2_ n3_;clear hb hbox hg;obtain ⟨hcz20_0,hcz20_1,hcz20_2,hcz20_3,hcz20_4,hcz20_5,hcz20_6,hcz20_7,hcz20_8,hcz20_9,hcz20_10,hfz20_0,hfz20_1,hfz20_2,hfz20_3,hfz20_4,hfz20_5,hfz20_6,hfz20_7,hfz20_8,hfz20_9,hfz20_10⟩:=bcells11 BK325.out)|((with_reducible refine gate_callee (f:=26) rfl ?_);refine goesL_ (some 10) rfl rfl Try.func26 (by kernel_rfl) rfl #[.agg #[.int .i64 a0_0,.slice A0_1 l0_1.length c0_1,.slice A0_2 l0_2.length c0_2,.slice A0_3 l0_3.length c0_3,.bool a0_4,.int .i64 a0_5,.slice A0_6 l0_6.length c0_6,.slice A0_7 l0_7.length c0_7,.slice A0_8 l0_8.length c0_8,.slice A0_9 l0_9.length c0_9,.slice A0_10 l0_10.length c0_10]] rfl (by (try simp only [List.map_toArray,List.map_cons,List.map_nil]);first|done|rfl|(simp only [List.length_drop,List.length_take];rfl)) ?_;(with_reducible refine (dioramaref09_Expand.calls a0_0 _ _ l0_1 _ _ l0_2 _ _ l0_3 a0_4 a0_5 _ _ l0_6 _ _ l0_7 _ _ l0_8 _ _ l0_9 _ _ l0_10 t326 t329 _ ?side1 ?side2 ?side3 ?side4 ?side5 ?side6 ?side7 ?side8 ?side9 ?side10 ?side11 ?side12 ?side13 ?side14 ?side15 ?side16 A3.out).mono ?_);(case side1=>exact cV (Kd.C_below HR0_1.out HB.out));(case side2=>exact HC0_1.out);(case side3=>exact cV (Kd.C_below HR0_2.out HB.out));(case side4=>exact HC0_2.out);(case side5=>exact cV (Kd.C_below HR0_3.out HB.out));(case side6=>exact HC0_3.out);(case side7=>exact cV (Kd.C_below HR0_6.out HB.out));(case side8=>exact HC0_6.out);(case side9=>exact cV (Kd.C_below HR0_7.out HB.out));(case side10=>exact HC0_7.out);(case side11=>exact cV (Kd.C_below HR0_8.out HB.out));(case side12=>exact HC0_8.out);(case side13=>exact cV (Kd.C_below HR0_9.out HB.out));(case side14=>exact HC0_9.out);(case side15=>exact cV (Kd.C_below HR0_10.out HB.out));(case side16=>exact HC0_10.out);rintro e w21 ⟨v327,rfl,ho0,hb⟩;refine ⟨_,rfl,?_⟩;have n0_:=Aside0.mk (Kd.S_lower ho0 (below_size (belV1 HB.out GE325.out)));have n1_:=Aside0.mk (blk_below (g:=gb325) (blkV BK325.out) hb);have n2_:=Aside0.mk (below_step (belV1 HB.out GE325.out) hb);clear BK325;clear HB;have HO328:=n0_;have BK325:=n1_;have HB:=n2_;clear n0_ n1_ n2_;(try clear hb);(try clear hb2);(try clear hk);(try clear hi);(try clear ho0)))
 go_ret2
 exact ⟨by first|rfl|(simp [errW_none,errW_some] <;> rfl)|(simp [*,errW_none,errW_some] <;> rfl),by repeat (first|(with_reducible first|exact HB.out|apply below_alloc|apply pw_below_drewN|apply below_drew1|refine below_set ?_ GE325.out)|exact HB.out)⟩

end Go.Proofs.Ytmbhafgnmdfjhaa.QTab
