/- Part of a proof: functions of the program as Lean functions, and that the machine's calls come to them. Made by a program of this session (wip/mp). -/
import Derived.Test.YtaebgjdaoloceaaQBmpBx0
import Derived.Test.YtaebgjdaoloceaaQBmpBx1
import Derived.Test.YtaebgjdaoloceaaQBmpBx3
namespace Go.Proofs.Ytaebgjdaoloceaa.QBmpB
open Go.RowKit Go.Proofs.YtaebgjdaoloceaaV Go.Proofs.YtaebgjdaoloceaaW.PrintWords Go.Proofs.YtaebgjdaoloceaaW.PrintLast Go.Proofs.YtaebgjdaoloceaaW.PrintMore
attribute [local go_sem] max2_int min2_int max_two min_two max_three min_three max_four min_four   -- for this text's walks alone
set_option linter.unusedVariables false
set_option linter.unusedSimpArgs false

/-! ### slices_ContainsFunc_int_int__89: function 48 -/
def slices_ContainsFunc_int_int__89.f (k : Nat) (l0 : List Int)  : Option (Bool) := (slices_IndexFunc_int_int__89.f k l0).bind fun t209 => (some (decide (t209 ≥ 0)))
theorem slices_ContainsFunc_int_int__89.mono : ∀ a0 k, LeO (slices_ContainsFunc_int_int__89.f k a0) (slices_ContainsFunc_int_int__89.f (k + 1) a0) := by
  intro a0 k
  unfold slices_ContainsFunc_int_int__89.f
  repeat' first
      | (with_reducible exact slices_IndexFunc_int_int__89.mono _ _)
      | (with_reducible exact LeO.refl _)
      | (with_reducible exact LeO.none _)
      | (with_reducible refine LeO.ite ?_ ?_)
      | (with_reducible refine LeO.bind ?_ (fun _ => ?_))
      | exact slices_IndexFunc_int_int__89.mono _ _
      | exact LeO.none _
      | refine LeO.ite ?_ ?_
      | refine LeO.bind ?_ (fun _ => ?_)
set_option maxHeartbeats 8000000 in
set_option maxRecDepth 100000 in
theorem slices_ContainsFunc_int_int__89.calls (k : Nat) (A0 : Option Addr) (c0 : Nat) (l0 : List Int)  (r : Bool) (w : World) (hr0 : Kd.C (Kd.int .i64) w A0 l0.length l0) (hc0 : l0.length ≤ c0) (h : slices_ContainsFunc_int_int__89.f k l0 = some r) :
    Calls Try.prog 48 #[.slice A0 l0.length c0, .func (.func 89) #[] #[]] w fun e w' => e = .returned (.bool r) ∧ Drawn0 w w' := by
  have HR0 := Aside0.mk hr0
  have HC0 := Aside0.mk hc0
  clear hr0 hc0
  have H : ((slices_IndexFunc_int_int__89.f k l0).bind fun t209 => (some (decide (t209 ≥ 0)))) = some r := h
  clear h
  replace H := Option.bind_eq_some_iff.mp H
  obtain ⟨t209, A30, H⟩ := H
  replace H : (some (decide (t209 ≥ 0))) = some r := H
  have A3 := Aside0.mk A30
  clear A30
  obtain rfl := Option.some.inj H
  go_enter Try.func48, Try.ntmps48
  go_wp2_with (first | ((with_reducible refine gate_callee (f := 83) rfl ?_); refine goesL_ (some 7) rfl rfl Try.func83 (by kernel_rfl) rfl #[.slice A0 l0.length c0, .func (.func 89) #[] #[]] rfl (by (try simp only [List.map_toArray, List.map_cons, List.map_nil]); first | done | rfl | (simp only [List.length_drop, List.length_take]; rfl)) ?_; (with_reducible refine (slices_IndexFunc_int_int__89.calls k _ _ l0  t209 _ ?side1 ?side2 A3.out).mono ?_); (case side1 => repeat (first | exact HR0.out | (with_reducible refine Kd.C_alloc ?_ _) | (with_reducible refine Kd.C_drewN ?_ _) | (with_reducible refine Kd.C_drew ?_))); (case side2 => exact HC0.out); rintro e w' ⟨rfl, ⟨nd, rfl⟩⟩; refine ⟨_, rfl, ?_⟩))
  go_ret
  exact ⟨by first | rfl | (simp; done) | (simp [*]; done), by repeat (first | exact Drawn0.refl _ | apply Drawn0.step)⟩

/-! ### bitmap_checkPatch: function 72 -/
def bitmap_checkPatch.j0 : Nat → Bool → Int → Int → Int → Int → List Int → Option (Int)
 | 0,_,_,_,_,_,_=>none
 | k+1,x10,x211000,x211001,x211002,x211003,x211004=>if x10=true then (some 1) else (if (x211004.length:Int)=(wrap64 (x211002*x211003)) then (some 0) else (some 4))
def bitmap_checkPatch.f (k : Nat) (a0_0 : Int) (a0_1 : Int) (a0_2 : Int) (a0_3 : Int) (l0_4 : List Int) : Option (Int) := (bitmap_place.f a0_0 a0_1 a0_2 a0_3 l0_4).bind fun t211 => (if t211 = true then ((slices_ContainsFunc_int_int__89.f k l0_4).bind fun t212 => (bitmap_checkPatch.j0 k t212 a0_0 a0_1 a0_2 a0_3 l0_4)) else (bitmap_checkPatch.j0 k true a0_0 a0_1 a0_2 a0_3 l0_4))
theorem bitmap_checkPatch.mono_l:∀ k,(∀ y0 y1 y2 y3 y4 y5,LeO (bitmap_checkPatch.j0 k y0 y1 y2 y3 y4 y5) (bitmap_checkPatch.j0 (k+1) y0 y1 y2 y3 y4 y5))
 | 0=>fun _ _ _ _ _ _ r h=>by simp [bitmap_checkPatch.j0] at h
 | k+1=>by
  have ih0:=bitmap_checkPatch.mono_l k
  · intro y0 y1 y2 y3 y4 y5
    unfold bitmap_checkPatch.j0
    repeat' first
    | (with_reducible exact ih0 _ _ _ _ _ _)
    | (with_reducible exact slices_ContainsFunc_int_int__89.mono _ _)
    | (with_reducible exact LeO.refl _)
    | (with_reducible exact LeO.none _)
    | (with_reducible refine LeO.ite ?_ ?_)
    | (with_reducible refine LeO.bind ?_ (fun _=>?_))
    | exact LeO.none _
    | refine LeO.ite ?_ ?_
    | refine LeO.bind ?_ (fun _=>?_)
theorem bitmap_checkPatch.mono:∀ a0 a1 a2 a3 a4 k,LeO (bitmap_checkPatch.f k a0 a1 a2 a3 a4) (bitmap_checkPatch.f (k+1) a0 a1 a2 a3 a4):=by
 intro a0 a1 a2 a3 a4 k
 have ih0:=bitmap_checkPatch.mono_l k
 unfold bitmap_checkPatch.f
 repeat' first
  | (with_reducible exact ih0 _ _ _ _ _ _)
  | (with_reducible exact slices_ContainsFunc_int_int__89.mono _ _)
  | (with_reducible exact LeO.refl _)
  | (with_reducible exact LeO.none _)
  | (with_reducible refine LeO.ite ?_ ?_)
  | (with_reducible refine LeO.bind ?_ (fun _=>?_))
  | exact LeO.none _
  | refine LeO.ite ?_ ?_
  | refine LeO.bind ?_ (fun _=>?_)
set_option maxHeartbeats 8000000 in
set_option maxRecDepth 100000 in
theorem bitmap_checkPatch.calls (k:Nat) (a0_0:Int) (a0_1:Int) (a0_2:Int) (a0_3:Int) (A0_4:Option Addr) (c0_4:Nat) (l0_4:List Int) (r:Int) (w:World) (hr0_4:Kd.C (Kd.int .i64) w A0_4 l0_4.length l0_4) (hc0_4:l0_4.length≤c0_4) (h:bitmap_checkPatch.f k a0_0 a0_1 a0_2 a0_3 l0_4=some r) :
 Calls Try.prog 72 #[.agg #[.int .i64 a0_0,.int .i64 a0_1,.int .i64 a0_2,.int .i64 a0_3,.slice A0_4 l0_4.length c0_4]] w fun e w'=>e=.returned (.int .i64 r)∧Below w.heap.size w w':=by
 have hu91:=Try.underlying91
 have HR0_4:=Aside0.mk hr0_4
 have HC0_4:=Aside0.mk hc0_4;clear hr0_4 hc0_4;have HB:=Aside0.mk (Below.refl w.heap.size w)
 have H:((bitmap_place.f a0_0 a0_1 a0_2 a0_3 l0_4).bind fun t211=>(if t211=true then ((slices_ContainsFunc_int_int__89.f k l0_4).bind fun t212=>(bitmap_checkPatch.j0 k t212 a0_0 a0_1 a0_2 a0_3 l0_4)) else (bitmap_checkPatch.j0 k true a0_0 a0_1 a0_2 a0_3 l0_4)))=some r:=h;clear h
 have HC2:=Aside0.mk H;clear H
 go_enter Try.func72,Try.ntmps72
 go_upto_region 1 with (first|((with_reducible refine gate_dst (N:=1) rfl ?_);refine box_event ?hg (N:=1) ?hd (cs:=#[.int .i64 a0_0,.int .i64 a0_1,.int .i64 a0_2,.int .i64 a0_3,.slice A0_4 l0_4.length c0_4]) (t:=91) ?hr ?_;(case hd=>rfl);(case hg=>rfl);(case hr=>first|(go_simp;done)|(go_simp;rfl));intro gb210 hg w3 hbox hb;have n0_:=Aside0.mk (below_step (belV HB.out) hb);have n1_:=Aside0.mk (hbox);have n2_:=Aside0.mk ((by rw [hg];exact (below_size (belV HB.out)):w.heap.size≤gb210));have n3_:=Aside0.mk ((by rw [hg];exact (below_size (belV HB.out)):w.heap.size≤gb210));clear HB;have HB:=n0_;have BK210:=n1_;have GW210:=n2_;have GE210:=n3_;clear n0_ n1_ n2_ n3_;clear hb hbox hg))
 (try simp only [Act.put,List.setIfInBounds_toArray,List.set_cons_zero,List.set_cons_succ])
 go_cut [10] (fun v10 wc=>∃ (kq:Nat) (x10_1:Bool),v10=.bool x10_1∧Aside0 (bitmap_checkPatch.j0 kq x10_1 a0_0 a0_1 a0_2 a0_3 l0_4=some r)∧Aside0 (kq≤k)∧Aside0 (wc.heap[gb210]?=some (.cells #[.int .i64 a0_0,.int .i64 a0_1,.int .i64 a0_2,.int .i64 a0_3,(.slice A0_4 l0_4.length c0_4)] 91 (0,0)))∧Aside0 (Below w.heap.size w wc))
 case first =>
  have H:=HC2.out;clear HC2
  replace H:=Option.bind_eq_some_iff.mp H
  obtain ⟨t211,A40,H⟩:=H
  replace H:(if t211=true then ((slices_ContainsFunc_int_int__89.f k l0_4).bind fun t212=>(bitmap_checkPatch.j0 k t212 a0_0 a0_1 a0_2 a0_3 l0_4)) else (bitmap_checkPatch.j0 k true a0_0 a0_1 a0_2 a0_3 l0_4))=some r:=H
  have A4:=Aside0.mk A40;clear A40
  by_cases c5:t211=true
  · subst c5
    have H1:((slices_ContainsFunc_int_int__89.f k l0_4).bind fun t212=>(bitmap_checkPatch.j0 k t212 a0_0 a0_1 a0_2 a0_3 l0_4))=some r:=by rw [if_pos rfl] at H;exact H
    clear H
    have H:=H1;clear H1
    replace H:=Option.bind_eq_some_iff.mp H
    obtain ⟨t212,A60,H⟩:=H
    replace H:(bitmap_checkPatch.j0 k t212 a0_0 a0_1 a0_2 a0_3 l0_4)=some r:=H
    have A6:=Aside0.mk A60;clear A60
    have H':=Aside0.mk H;clear H
    obtain ⟨hcz7_0,hcz7_1,hcz7_2,hcz7_3,hcz7_4,hfz7_0,hfz7_1,hfz7_2,hfz7_3,hfz7_4⟩:=bcells5 BK210.out
    go_wp2_with (first|((with_reducible refine gate_callee (f:=58) rfl ?_);refine goesL_ (some 4) rfl rfl Try.func58 (by kernel_rfl) rfl #[.agg #[.int .i64 a0_0,.int .i64 a0_1,.int .i64 a0_2,.int .i64 a0_3,.slice A0_4 l0_4.length c0_4]] rfl (by (try simp only [List.map_toArray,List.map_cons,List.map_nil]);first|done|rfl|(simp only [List.length_drop,List.length_take];rfl)) ?_;(with_reducible refine (bitmap_place.calls a0_0 a0_1 a0_2 a0_3 _ _ l0_4 true _ ?side1 ?side2 A4.out).mono ?_);(case side1=>exact cV (Kd.C_below HR0_4.out HB.out));(case side2=>exact HC0_4.out);rintro e w8 ⟨rfl,hb⟩;refine ⟨_,rfl,?_⟩;have n0_:=Aside0.mk (blk_below (g:=gb210) (blkV BK210.out) hb);have n1_:=Aside0.mk (below_step (belV1 HB.out GE210.out) hb);clear BK210;clear HB;have BK210:=n0_;have HB:=n1_;clear n0_ n1_;(try clear hb);(try clear hb2);(try clear hk);(try clear hi);obtain ⟨hcz9_0,hcz9_1,hcz9_2,hcz9_3,hcz9_4,hfz9_0,hfz9_1,hfz9_2,hfz9_3,hfz9_4⟩:=bcells5 BK210.out)|(go_at_call 48;(with_reducible refine (slices_ContainsFunc_int_int__89.calls k _ _ l0_4  t212 _ ?side1 ?side2 A6.out).mono ?_);(case side1=>exact cV (Kd.C_below HR0_4.out HB.out));(case side2=>exact HC0_4.out);rintro e w' ⟨rfl,⟨nd,rfl⟩⟩))
    go_meet
    case rel=>exact ⟨_,(t212),okV,H',⟨by first|omega|exact Nat.le_refl _⟩,⟨blkV BK210.out⟩,⟨belV1 HB.out GE210.out⟩⟩
  replace c5:=Bool.eq_false_iff.mpr c5;subst c5
  have H1:(bitmap_checkPatch.j0 k true a0_0 a0_1 a0_2 a0_3 l0_4)=some r:=by rw [if_neg (show ¬ (false=true) by decide)] at H;exact H
  clear H
  have H:=H1;clear H1
  have H':=Aside0.mk H;clear H
  obtain ⟨hcz10_0,hcz10_1,hcz10_2,hcz10_3,hcz10_4,hfz10_0,hfz10_1,hfz10_2,hfz10_3,hfz10_4⟩:=bcells5 BK210.out
  go_wp2_with (first|((with_reducible refine gate_callee (f:=58) rfl ?_);refine goesL_ (some 4) rfl rfl Try.func58 (by kernel_rfl) rfl #[.agg #[.int .i64 a0_0,.int .i64 a0_1,.int .i64 a0_2,.int .i64 a0_3,.slice A0_4 l0_4.length c0_4]] rfl (by (try simp only [List.map_toArray,List.map_cons,List.map_nil]);first|done|rfl|(simp only [List.length_drop,List.length_take];rfl)) ?_;(with_reducible refine (bitmap_place.calls a0_0 a0_1 a0_2 a0_3 _ _ l0_4 false _ ?side1 ?side2 A4.out).mono ?_);(case side1=>exact cV (Kd.C_below HR0_4.out HB.out));(case side2=>exact HC0_4.out);rintro e w11 ⟨rfl,hb⟩;refine ⟨_,rfl,?_⟩;have n0_:=Aside0.mk (blk_below (g:=gb210) (blkV BK210.out) hb);have n1_:=Aside0.mk (below_step (belV1 HB.out GE210.out) hb);clear BK210;clear HB;have BK210:=n0_;have HB:=n1_;clear n0_ n1_;(try clear hb);(try clear hb2);(try clear hk);(try clear hi)))
  go_meet
  case rel=>exact ⟨_,(true),okV,H',⟨by first|omega|exact Nat.le_refl _⟩,⟨blkV BK210.out⟩,⟨belV1 HB.out GE210.out⟩⟩
 case rest =>
  clear HC2
  try clear p2;try clear c5;try clear c7;try clear hcz10_0 hcz10_1 hcz10_2 hcz10_3 hcz10_4;try clear hcz7_0 hcz7_1 hcz7_2 hcz7_3 hcz7_4;try clear hcz9_0 hcz9_1 hcz9_2 hcz9_3 hcz9_4;try clear hfz10_0 hfz10_1 hfz10_2 hfz10_3 hfz10_4;try clear hfz7_0 hfz7_1 hfz7_2 hfz7_3 hfz7_4;try clear hfz9_0 hfz9_1 hfz9_2 hfz9_3 hfz9_4
  obtain ⟨kq,x10_1,rfl,HA,HJ1,BK210,HB⟩:=hcut
  cases kq with
  | zero=>exact absurd HA.out (by simp [bitmap_checkPatch.j0])
  | succ kj1 =>
   have H:=HA.out;clear HA
   simp only [bitmap_checkPatch.j0] at H
   by_cases c12:x10_1=true
   · subst c12
     have H1:(some 1)=some r:=by rw [if_pos rfl] at H;exact H
     clear H
     have H:=H1;clear H1
     obtain rfl:=Option.some.inj H
     go_wp2
     go_ret
     exact ⟨by first|rfl|(simp [errW_none,errW_some] <;> rfl)|(simp [*,errW_none,errW_some] <;> rfl),by repeat (first|(with_reducible first|exact HB.out|apply below_alloc|apply pw_below_drewN|apply below_drew1|refine below_set ?_ GE210.out)|exact HB.out)⟩
   replace c12:=Bool.eq_false_iff.mpr c12;subst c12
   have H1:(if (l0_4.length:Int)=(wrap64 (a0_2*a0_3)) then (some 0) else (some 4))=some r:=by rw [if_neg (show ¬ (false=true) by decide)] at H;exact H
   clear H
   have H:=H1;clear H1
   by_cases c13:(l0_4.length:Int)=(wrap64 (a0_2*a0_3))
   · rw [if_pos c13] at H
     have c13b0:((l0_4.length:Int) == (wrap64 (a0_2*a0_3)))=true:=beq_iff_eq.mpr c13
     have c13b1:((l0_4.length:Int) != (wrap64 (a0_2*a0_3)))=false:=bne_eq_false_iff_eq.mpr c13;clear c13
     obtain rfl:=Option.some.inj H
     obtain ⟨hcz14_0,hcz14_1,hcz14_2,hcz14_3,hcz14_4,hfz14_0,hfz14_1,hfz14_2,hfz14_3,hfz14_4⟩:=bcells5 BK210.out
     go_wp2
     go_ret
     exact ⟨by first|rfl|(simp [errW_none,errW_some] <;> rfl)|(simp [*,errW_none,errW_some] <;> rfl),by repeat (first|(with_reducible first|exact HB.out|apply below_alloc|apply pw_below_drewN|apply below_drew1|refine below_set ?_ GE210.out)|exact HB.out)⟩
   rw [if_neg c13] at H
   have c13b0:((l0_4.length:Int) == (wrap64 (a0_2*a0_3)))=false:=beq_eq_false_iff_ne.mpr c13
   have c13b1:((l0_4.length:Int) != (wrap64 (a0_2*a0_3)))=true:=bne_iff_ne.mpr c13
   obtain rfl:=Option.some.inj H
   obtain ⟨hcz15_0,hcz15_1,hcz15_2,hcz15_3,hcz15_4,hfz15_0,hfz15_1,hfz15_2,hfz15_3,hfz15_4⟩:=bcells5 BK210.out
   go_wp2
   go_ret
   exact ⟨by first|rfl|(simp [errW_none,errW_some] <;> rfl)|(simp [*,errW_none,errW_some] <;> rfl),by repeat (first|(with_reducible first|exact HB.out|apply below_alloc|apply pw_below_drewN|apply below_drew1|refine below_set ?_ GE210.out)|exact HB.out)⟩

/-! ### bitmap_Check: function 39 -/
mutual
def bitmap_Check.j0 : Nat → Bool → Bool → List Int → List (S91) → Option (Int)
 | 0,_,_,_,_=>none
 | k+1,x15,x214000,x214001,x214002=>if x15=true then (some 2) else ((bitmap_colours.f k x214001).bind fun t214=>(if t214=true then (bitmap_Check.l0 k x214002 (x214002.length:Int) 0) else (some 1)))
def bitmap_Check.l0 : Nat → List (S91) → Int → Int → Option (Int)
 | 0,_,_,_=>none
 | k+1,x21,x22,x23=>if x23 < x22 then (if 0≤x23 then (if x23 < (x21.length:Int) then ((bitmap_checkPatch.f k ((rd_T91 x21 x23).f0) ((rd_T91 x21 x23).f1) ((rd_T91 x21 x23).f2) ((rd_T91 x21 x23).f3) ((rd_T91 x21 x23).f4)).bind fun t217=>(if t217=0 then (bitmap_Check.l0 k x21 x22 (wrap64 (x23+1))) else (some t217))) else (none)) else (none)) else (some 0)
end
def bitmap_Check.f (k : Nat) (a0_0 : Bool) (l0_1 : List Int) (l0_2 : List (S91)) : Option (Int) := if (l0_1.length : Int) > 16 then (bitmap_Check.j0 k true a0_0 l0_1 l0_2) else (bitmap_Check.j0 k (decide ((l0_2.length : Int) > 8)) a0_0 l0_1 l0_2)
theorem bitmap_Check.mono_l:∀ k,(∀ y0 y1 y2 y3,LeO (bitmap_Check.j0 k y0 y1 y2 y3) (bitmap_Check.j0 (k+1) y0 y1 y2 y3))∧(∀ y0 y1 y2,LeO (bitmap_Check.l0 k y0 y1 y2) (bitmap_Check.l0 (k+1) y0 y1 y2))
 | 0=>⟨fun _ _ _ _ r h=>by simp [bitmap_Check.j0] at h,fun _ _ _ r h=>by simp [bitmap_Check.l0] at h⟩
 | k+1=>by
  obtain ⟨ih0,ih1⟩:=bitmap_Check.mono_l k
  refine ⟨?_,?_⟩
  · intro y0 y1 y2 y3
    unfold bitmap_Check.j0
    repeat' first
    | (with_reducible exact ih0 _ _ _ _)
    | (with_reducible exact ih1 _ _ _)
    | (with_reducible exact bitmap_checkPatch.mono _ _ _ _ _ _)
    | (with_reducible exact bitmap_colours.mono _ _)
    | (with_reducible exact LeO.refl _)
    | (with_reducible exact LeO.none _)
    | (with_reducible refine LeO.ite ?_ ?_)
    | (with_reducible refine LeO.bind ?_ (fun _=>?_))
    | exact LeO.none _
    | refine LeO.ite ?_ ?_
    | refine LeO.bind ?_ (fun _=>?_)
  intro y0 y1 y2
  unfold bitmap_Check.l0
  repeat' first
  | (with_reducible exact ih0 _ _ _ _)
  | (with_reducible exact ih1 _ _ _)
  | (with_reducible exact bitmap_checkPatch.mono _ _ _ _ _ _)
  | (with_reducible exact bitmap_colours.mono _ _)
  | (with_reducible exact LeO.refl _)
  | (with_reducible exact LeO.none _)
  | (with_reducible refine LeO.ite ?_ ?_)
  | (with_reducible refine LeO.bind ?_ (fun _=>?_))
  | exact LeO.none _
  | refine LeO.ite ?_ ?_
  | refine LeO.bind ?_ (fun _=>?_)
theorem bitmap_Check.mono:∀ a0 a1 a2 k,LeO (bitmap_Check.f k a0 a1 a2) (bitmap_Check.f (k+1) a0 a1 a2):=by
 intro a0 a1 a2 k
 obtain ⟨ih0,ih1⟩:=bitmap_Check.mono_l k
 unfold bitmap_Check.f
 repeat' first
  | (with_reducible exact ih0 _ _ _ _)
  | (with_reducible exact ih1 _ _ _)
  | (with_reducible exact bitmap_checkPatch.mono _ _ _ _ _ _)
  | (with_reducible exact bitmap_colours.mono _ _)
  | (with_reducible exact LeO.refl _)
  | (with_reducible exact LeO.none _)
  | (with_reducible refine LeO.ite ?_ ?_)
  | (with_reducible refine LeO.bind ?_ (fun _=>?_))
  | exact LeO.none _
  | refine LeO.ite ?_ ?_
  | refine LeO.bind ?_ (fun _=>?_)
set_option maxHeartbeats 8000000 in
set_option maxRecDepth 100000 in
theorem bitmap_Check.calls (k:Nat) (a0_0:Bool) (A0_1:Option Addr) (c0_1:Nat) (l0_1:List Int) (A0_2:Option Addr) (c0_2:Nat) (l0_2:List (S91)) (r:Int) (w:World) (hr0_1:Kd.C (Kd.int .i64) w A0_1 l0_1.length l0_1) (hc0_1:l0_1.length≤c0_1) (hr0_2:Kd.C k91 w A0_2 l0_2.length l0_2) (hc0_2:l0_2.length≤c0_2) (h:bitmap_Check.f k a0_0 l0_1 l0_2=some r) :
 Calls Try.prog 39 #[.agg #[.bool a0_0,.slice A0_1 l0_1.length c0_1,.slice A0_2 l0_2.length c0_2]] w fun e w'=>e=.returned (.int .i64 r)∧Below w.heap.size w w':=by
 have hu51:=Try.underlying51
 have hu91:=Try.underlying91
 have HR0_1:=Aside0.mk hr0_1
 have HC0_1:=Aside0.mk hc0_1;clear hr0_1 hc0_1
 have HR0_2:=Aside0.mk hr0_2
 have HC0_2:=Aside0.mk hc0_2;clear hr0_2 hc0_2;have HB:=Aside0.mk (Below.refl w.heap.size w)
 have H:(if (l0_1.length:Int) > 16 then (bitmap_Check.j0 k true a0_0 l0_1 l0_2) else (bitmap_Check.j0 k (decide ((l0_2.length:Int) > 8)) a0_0 l0_1 l0_2))=some r:=h;clear h
 have HC2:=Aside0.mk H;clear H
 go_enter Try.func39,Try.ntmps39
 go_upto_region 1 with (first|((with_reducible refine gate_dst (N:=1) rfl ?_);(try (refine gate_guard (by rfl) ?_;dsimp only));refine box_event ?hg (N:=1) ?hd (cs:=#[.bool a0_0,.slice A0_1 l0_1.length c0_1,.slice A0_2 l0_2.length c0_2]) (t:=51) ?hr ?_;(case hd=>rfl);(case hg=>rfl);(case hr=>first|(go_simp;done)|(go_simp;rfl));intro gb213 hg w3 hbox hb;have n0_:=Aside0.mk (below_step (belV HB.out) hb);have n1_:=Aside0.mk (hbox);have n2_:=Aside0.mk ((by rw [hg];exact (below_size (belV HB.out)):w.heap.size≤gb213));have n3_:=Aside0.mk ((by rw [hg];exact (below_size (belV HB.out)):w.heap.size≤gb213));clear HB;have HB:=n0_;have BK213:=n1_;have GW213:=n2_;have GE213:=n3_;clear n0_ n1_ n2_ n3_;clear hb hbox hg))
 (try simp only [Act.put,List.setIfInBounds_toArray,List.set_cons_zero,List.set_cons_succ])
 go_cut [15] (fun v15 wc=>∃ (kq:Nat) (x15_1:Bool),v15=.bool x15_1∧Aside0 (bitmap_Check.j0 kq x15_1 a0_0 l0_1 l0_2=some r)∧Aside0 (kq≤k)∧Aside0 (wc.heap[gb213]?=some (.cells #[.bool a0_0,(.slice A0_1 l0_1.length c0_1),(.slice A0_2 l0_2.length c0_2)] 51 (0,0)))∧Aside0 (Below w.heap.size w wc))
 case first =>
  have H:=HC2.out;clear HC2
  by_cases c4:(l0_1.length:Int) > 16
  · rw [if_pos c4] at H
    have c4b0:decide (16 < (l0_1.length:Int))=true:=decide_eq_true c4
    have c4b1:decide (16 < l0_1.length)=true:=decide_eq_true (by omega);clear c4
    (first|rw [c4b0]|(simp only [i64_w,i32_w];rw [c4b0])|rw [c4b1]|skip)
    have H':=Aside0.mk H;clear H
    obtain ⟨hcz5_0,hcz5_1,hcz5_2,hfz5_0,hfz5_1,hfz5_2⟩:=bcells3 BK213.out
    go_wp2
    go_meet
    case rel=>exact ⟨_,(true),okV,H',⟨by first|omega|exact Nat.le_refl _⟩,⟨blkV BK213.out⟩,⟨belV1 HB.out GE213.out⟩⟩
  rw [if_neg c4] at H
  have c4b0:decide (16 < (l0_1.length:Int))=false:=decide_eq_false c4
  have c4b1:decide (16 < l0_1.length)=false:=decide_eq_false (by omega);clear c4
  (first|rw [c4b0]|(simp only [i64_w,i32_w];rw [c4b0])|rw [c4b1]|skip)
  have H':=Aside0.mk H;clear H
  obtain ⟨hcz6_0,hcz6_1,hcz6_2,hfz6_0,hfz6_1,hfz6_2⟩:=bcells3 BK213.out
  go_wp2
  go_meet
  case rel=>exact ⟨_,(decide ((l0_2.length:Int) > 8)),okV,H',⟨by first|omega|exact Nat.le_refl _⟩,⟨blkV BK213.out⟩,⟨belV1 HB.out GE213.out⟩⟩
 case rest =>
  clear HC2
  try clear p2;try clear c3;try clear c4;try clear c4b0;try clear c4b1;try clear hcz5_0 hcz5_1 hcz5_2;try clear hcz6_0 hcz6_1 hcz6_2;try clear hfz5_0 hfz5_1 hfz5_2;try clear hfz6_0 hfz6_1 hfz6_2
  obtain ⟨kq,x15_1,rfl,HA,HJ1,BK213,HB⟩:=hcut
  cases kq with
  | zero=>exact absurd HA.out (by simp [bitmap_Check.j0])
  | succ kj1 =>
   have H:=HA.out;clear HA
   simp only [bitmap_Check.j0] at H
   by_cases c7:x15_1=true
   · subst c7
     have H1:(some 2)=some r:=by rw [if_pos rfl] at H;exact H
     clear H
     have H:=H1;clear H1
     obtain rfl:=Option.some.inj H
     go_wp2
     go_ret
     exact ⟨by first|rfl|(simp [errW_none,errW_some] <;> rfl)|(simp [*,errW_none,errW_some] <;> rfl),by repeat (first|(with_reducible first|exact HB.out|apply below_alloc|apply pw_below_drewN|apply below_drew1|refine below_set ?_ GE213.out)|exact HB.out)⟩
   replace c7:=Bool.eq_false_iff.mpr c7;subst c7
   have H1:((bitmap_colours.f kj1 l0_1).bind fun t214=>(if t214=true then (bitmap_Check.l0 kj1 l0_2 (l0_2.length:Int) 0) else (some 1)))=some r:=by rw [if_neg (show ¬ (false=true) by decide)] at H;exact H
   clear H
   have H:=H1;clear H1
   replace H:=Option.bind_eq_some_iff.mp H
   obtain ⟨t214,A80,H⟩:=H
   replace H:(if t214=true then (bitmap_Check.l0 kj1 l0_2 (l0_2.length:Int) 0) else (some 1))=some r:=H
   have A8:=Aside0.mk A80;clear A80
   by_cases c9:t214=true
   · subst c9
     have H1:(bitmap_Check.l0 kj1 l0_2 (l0_2.length:Int) 0)=some r:=by rw [if_pos rfl] at H;exact H
     clear H
     have H:=H1;clear H1
     have H':=Aside0.mk H;clear H
     obtain ⟨hcz10_0,hcz10_1,hcz10_2,hfz10_0,hfz10_1,hfz10_2⟩:=bcells3 BK213.out
     go_wp2_with (first|((with_reducible refine gate_callee (f:=71) rfl ?_);refine goesL_ (some 18) rfl rfl Try.func71 (by kernel_rfl) rfl #[.slice A0_1 l0_1.length c0_1] rfl (by (try simp only [List.map_toArray,List.map_cons,List.map_nil]);first|done|rfl|(simp only [List.length_drop,List.length_take];rfl)) ?_;(with_reducible refine (bitmap_colours.calls kj1 _ _ l0_1 true _ ?side1 ?side2 A8.out).mono ?_);(case side1=>exact cV (Kd.C_below HR0_1.out HB.out));(case side2=>exact HC0_1.out);rintro e w' ⟨rfl,⟨nd,rfl⟩⟩;refine ⟨_,rfl,?_⟩))
     go_loopg [23] kj1 (fun kq v23 w'=>∃ (x23_2:Int),v23=.int .i64 x23_2∧Aside0 (bitmap_Check.l0 kq l0_2 (l0_2.length:Int) x23_2=some r)∧Aside0 (kq≤kj1)∧Aside0 (w'.heap[gb213]?=some (.cells #[.bool a0_0,(.slice A0_1 l0_1.length c0_1),(.slice A0_2 l0_2.length c0_2)] 51 (0,0)))∧Aside0 (Below w.heap.size w w'))
     case atStart=>exact ⟨(0),okV,H',⟨Nat.le_refl _⟩,⟨blkV BK213.out⟩,⟨belV1 HB.out GE213.out⟩⟩
     case round =>
      clear H'
      try clear p2 p2;try clear c3;try clear c4;try clear c4b0;try clear c4b1;try clear c7;try clear c9;try clear hcz10_0 hcz10_1 hcz10_2;try clear hcz5_0 hcz5_1 hcz5_2;try clear hcz6_0 hcz6_1 hcz6_2;try clear hfz10_0 hfz10_1 hfz10_2;try clear hfz5_0 hfz5_1 hfz5_2;try clear hfz6_0 hfz6_1 hfz6_2
      obtain ⟨x23_2,rfl,HA,HK2,BK213,HB⟩:=hrel
      cases gk with
      | zero=>exact absurd HA.out (by simp [bitmap_Check.l0])
      | succ k2 =>
       have H:=HA.out;clear HA
       simp only [bitmap_Check.l0] at H
       by_cases c11:x23_2 < (l0_2.length:Int)
       · rw [if_pos c11] at H
         have c11b0:decide (x23_2 < (l0_2.length:Int))=true:=decide_eq_true c11;clear c11
         by_cases c12:0≤x23_2
         · rw [if_pos c12] at H
           have c12b0:decide (0≤x23_2)=true:=decide_eq_true c12;clear c12
           by_cases c13:x23_2 < (l0_2.length:Int)
           · rw [if_pos c13] at H
             have c13b0:decide (x23_2 < (l0_2.length:Int))=true:=decide_eq_true c13;clear c13
             replace H:=Option.bind_eq_some_iff.mp H
             obtain ⟨t217,A140,H⟩:=H
             replace H:(if t217=0 then (bitmap_Check.l0 k2 l0_2 (l0_2.length:Int) (wrap64 (x23_2+1))) else (some t217))=some r:=H
             have A14:=Aside0.mk A140;clear A140
             by_cases c15:t217=0
             · rw [if_pos c15] at H
               have c15b0:(t217 == 0)=true:=beq_iff_eq.mpr c15
               have c15b1:(t217 != 0)=false:=bne_eq_false_iff_eq.mpr c15;clear c15
               have H':=Aside0.mk H;clear H
               have p215:0≤(x23_2:Int):=of_decide_eq_true asV
               have q215:x23_2 < (l0_2.length:Int):=of_decide_eq_true asV
               obtain ⟨ad215,A215_4,c215_4,e215,hx215_0,hx215_1,hx215_2,hx215_3,hx215_4,hl215_4,hi215_4⟩:=at_T91 HR0_2.out x23_2 p215 q215
               cases e215
               replace hx215_0:=(HB.out.cell (World.block_lt_of_cell? w _ hx215_0)).trans hx215_0
               replace hx215_1:=(HB.out.cell (World.block_lt_of_cell? w _ hx215_1)).trans hx215_1
               replace hx215_2:=(HB.out.cell (World.block_lt_of_cell? w _ hx215_2)).trans hx215_2
               replace hx215_3:=(HB.out.cell (World.block_lt_of_cell? w _ hx215_3)).trans hx215_3
               replace hx215_4:=(HB.out.cell (World.block_lt_of_cell? w _ hx215_4)).trans hx215_4
               have HR215_4:=Aside0.mk hi215_4
               have HC215_4:=Aside0.mk hl215_4;clear hi215_4 hl215_4
               replace p215:=eq_true p215
               replace q215:=eq_true q215
               go_wp2_with (first|((with_reducible refine gate_dst (N:=4) rfl ?_);(try (refine gate_guard (by rfl) ?_;dsimp only));refine box_event ?hg (N:=4) ?hd (cs:=#[.int .i64 0,.int .i64 0,.int .i64 0,.int .i64 0,.slice none 0 0]) (t:=91) ?hr ?_;(case hd=>rfl);(case hg=>rfl);(case hr=>first|(go_simp;done)|(go_simp;rfl));intro gb216 hg w16 hbox hb;have n0_:=Aside0.mk (blk_below (g:=gb213) (blkV BK213.out) hb);have n1_:=Aside0.mk (below_step (belV1 HB.out GE213.out) hb);have n2_:=Aside0.mk (hbox);have n3_:=Aside0.mk ((by rw [hg];exact (below_size (belV1 HB.out GE213.out)):w.heap.size≤gb216));have n4_:=Aside0.mk ((by rw [hg];exact (below_size (belV1 HB.out GE213.out)):w.heap.size≤gb216));have n5_:=Aside0.mk ((by rw [hg];exact Nat.ne_of_lt (blk_lt (g:=gb213) (blkV BK213.out)):gb213≠gb216));have n6_:=Aside0.mk ((by rw [hg];exact Nat.ne_of_gt (blk_lt (g:=gb213) (blkV BK213.out)):gb216≠gb213));clear BK213;clear HB;have BK213:=n0_;have HB:=n1_;have BK216:=n2_;have GW216:=n3_;have GE216:=n4_;have NB213_216:=n5_;have NB216_213:=n6_;clear n0_ n1_ n2_ n3_ n4_ n5_ n6_;clear hb hbox hg;have hnb17:=NB216_213.out;have hnc17:=NB213_216.out;obtain ⟨hcz18_0,hcz18_1,hcz18_2,hcz18_3,hcz18_4,hfz18_0,hfz18_1,hfz18_2,hfz18_3,hfz18_4⟩:=bcells5 BK216.out)|((with_reducible refine gate_callee (f:=72) rfl ?_);refine goesL_ (some 28) rfl rfl Try.func72 (by kernel_rfl) rfl #[.agg #[.int .i64 ((rd_T91 l0_2 x23_2).f0),.int .i64 ((rd_T91 l0_2 x23_2).f1),.int .i64 ((rd_T91 l0_2 x23_2).f2),.int .i64 ((rd_T91 l0_2 x23_2).f3),.slice A215_4 ((rd_T91 l0_2 x23_2).f4).length c215_4]] rfl (by (try simp only [List.map_toArray,List.map_cons,List.map_nil]);first|done|rfl|(simp only [List.length_drop,List.length_take];rfl)) ?_;(with_reducible refine (bitmap_checkPatch.calls k2 ((rd_T91 l0_2 x23_2).f0) ((rd_T91 l0_2 x23_2).f1) ((rd_T91 l0_2 x23_2).f2) ((rd_T91 l0_2 x23_2).f3) _ _ ((rd_T91 l0_2 x23_2).f4) t217 _ ?side1 ?side2 A14.out).mono ?_);(case side1=>exact Kd.C_below HR215_4.out (belV2 HB.out GE213.out GE216.out));(case side2=>exact HC215_4.out);rintro e w19 ⟨rfl,hb⟩;refine ⟨_,rfl,?_⟩;have n0_:=Aside0.mk (blk_below (g:=gb213) (o:=.cells #[.bool a0_0,.slice A0_1 l0_1.length c0_1,.slice (some ad215) l0_2.length c0_2] 51 (0,0)) (blkW BK213.out NB213_216.out) hb);have n1_:=Aside0.mk (blk_below (g:=gb216) (o:=.cells #[.int .i64 ((rd_T91 l0_2 x23_2).f0),.int .i64 ((rd_T91 l0_2 x23_2).f1),.int .i64 ((rd_T91 l0_2 x23_2).f2),.int .i64 ((rd_T91 l0_2 x23_2).f3),.slice A215_4 ((rd_T91 l0_2 x23_2).f4).length c215_4] 91 (0,0)) (by (with_reducible repeat (first|refine blk_drewN ?_ _|refine blk_drew ?_|refine blk_alloc ?_ _));refine blk_put (cs:=#[.int .i64 ((rd_T91 l0_2 x23_2).f0),.int .i64 ((rd_T91 l0_2 x23_2).f1),.int .i64 ((rd_T91 l0_2 x23_2).f2),.int .i64 ((rd_T91 l0_2 x23_2).f3),.slice none 0 0]) ?_ 4 _ rfl;(with_reducible repeat (first|refine blk_drewN ?_ _|refine blk_drew ?_|refine blk_alloc ?_ _));refine blk_put (cs:=#[.int .i64 ((rd_T91 l0_2 x23_2).f0),.int .i64 ((rd_T91 l0_2 x23_2).f1),.int .i64 ((rd_T91 l0_2 x23_2).f2),.int .i64 0,.slice none 0 0]) ?_ 3 _ rfl;(with_reducible repeat (first|refine blk_drewN ?_ _|refine blk_drew ?_|refine blk_alloc ?_ _));refine blk_put (cs:=#[.int .i64 ((rd_T91 l0_2 x23_2).f0),.int .i64 ((rd_T91 l0_2 x23_2).f1),.int .i64 0,.int .i64 0,.slice none 0 0]) ?_ 2 _ rfl;(with_reducible repeat (first|refine blk_drewN ?_ _|refine blk_drew ?_|refine blk_alloc ?_ _));refine blk_put (cs:=#[.int .i64 ((rd_T91 l0_2 x23_2).f0),.int .i64 0,.int .i64 0,.int .i64 0,.slice none 0 0]) ?_ 1 _ rfl;(with_reducible repeat (first|refine blk_drewN ?_ _|refine blk_drew ?_|refine blk_alloc ?_ _));refine blk_put (cs:=#[.int .i64 0,.int .i64 0,.int .i64 0,.int .i64 0,.slice none 0 0]) ?_ 0 _ rfl;(with_reducible repeat (first|refine blk_drewN ?_ _|refine blk_drew ?_|refine blk_alloc ?_ _));exact BK216.out) hb);have n2_:=Aside0.mk (below_step (belV2 HB.out GE213.out GE216.out) hb);clear BK213;clear BK216;clear HB;have BK213:=n0_;have BK216:=n1_;have HB:=n2_;clear n0_ n1_ n2_;(try clear hb);(try clear hb2);(try clear hk);(try clear hi)))
               go_roundg k2
               case measure=>have:=HJ1.out;have:=HK2.out;omega
               case rel=>exact ⟨(wrap64 (x23_2+1)),okV,H',⟨by have:=HJ1.out;have:=HK2.out;omega⟩,⟨blkV BK213.out⟩,⟨belV2 HB.out GE213.out GE216.out⟩⟩
             rw [if_neg c15] at H
             have c15b0:(t217 == 0)=false:=beq_eq_false_iff_ne.mpr c15
             have c15b1:(t217 != 0)=true:=bne_iff_ne.mpr c15
             obtain rfl:=Option.some.inj H
             have p215:0≤(x23_2:Int):=of_decide_eq_true asV
             have q215:x23_2 < (l0_2.length:Int):=of_decide_eq_true asV
             obtain ⟨ad215,A215_4,c215_4,e215,hx215_0,hx215_1,hx215_2,hx215_3,hx215_4,hl215_4,hi215_4⟩:=at_T91 HR0_2.out x23_2 p215 q215
             cases e215
             replace hx215_0:=(HB.out.cell (World.block_lt_of_cell? w _ hx215_0)).trans hx215_0
             replace hx215_1:=(HB.out.cell (World.block_lt_of_cell? w _ hx215_1)).trans hx215_1
             replace hx215_2:=(HB.out.cell (World.block_lt_of_cell? w _ hx215_2)).trans hx215_2
             replace hx215_3:=(HB.out.cell (World.block_lt_of_cell? w _ hx215_3)).trans hx215_3
             replace hx215_4:=(HB.out.cell (World.block_lt_of_cell? w _ hx215_4)).trans hx215_4
             have HR215_4:=Aside0.mk hi215_4
             have HC215_4:=Aside0.mk hl215_4;clear hi215_4 hl215_4
             replace p215:=eq_true p215
             replace q215:=eq_true q215
             go_wp2_with (first|((with_reducible refine gate_dst (N:=4) rfl ?_);(try (refine gate_guard (by rfl) ?_;dsimp only));refine box_event ?hg (N:=4) ?hd (cs:=#[.int .i64 0,.int .i64 0,.int .i64 0,.int .i64 0,.slice none 0 0]) (t:=91) ?hr ?_;(case hd=>rfl);(case hg=>rfl);(case hr=>first|(go_simp;done)|(go_simp;rfl));intro gb216 hg w20 hbox hb;have n0_:=Aside0.mk (blk_below (g:=gb213) (blkV BK213.out) hb);have n1_:=Aside0.mk (below_step (belV1 HB.out GE213.out) hb);have n2_:=Aside0.mk (hbox);have n3_:=Aside0.mk ((by rw [hg];exact (below_size (belV1 HB.out GE213.out)):w.heap.size≤gb216));have n4_:=Aside0.mk ((by rw [hg];exact (below_size (belV1 HB.out GE213.out)):w.heap.size≤gb216));have n5_:=Aside0.mk ((by rw [hg];exact Nat.ne_of_lt (blk_lt (g:=gb213) (blkV BK213.out)):gb213≠gb216));have n6_:=Aside0.mk ((by rw [hg];exact Nat.ne_of_gt (blk_lt (g:=gb213) (blkV BK213.out)):gb216≠gb213));clear BK213;clear HB;have BK213:=n0_;have HB:=n1_;have BK216:=n2_;have GW216:=n3_;have GE216:=n4_;have NB213_216:=n5_;have NB216_213:=n6_;clear n0_ n1_ n2_ n3_ n4_ n5_ n6_;clear hb hbox hg;have hnb21:=NB216_213.out;have hnc21:=NB213_216.out;obtain ⟨hcz22_0,hcz22_1,hcz22_2,hcz22_3,hcz22_4,hfz22_0,hfz22_1,hfz22_2,hfz22_3,hfz22_4⟩:=bcells5 BK216.out)|((with_reducible refine gate_callee (f:=72) rfl ?_);refine goesL_ (some 28) rfl rfl Try.func72 (by kernel_rfl) rfl #[.agg #[.int .i64 ((rd_T91 l0_2 x23_2).f0),.int .i64 ((rd_T91 l0_2 x23_2).f1),.int .i64 ((rd_T91 l0_2 x23_2).f2),.int .i64 ((rd_T91 l0_2 x23_2).f3),.slice A215_4 ((rd_T91 l0_2 x23_2).f4).length c215_4]] rfl (by (try simp only [List.map_toArray,List.map_cons,List.map_nil]);first|done|rfl|(simp only [List.length_drop,List.length_take];rfl)) ?_;(with_reducible refine (bitmap_checkPatch.calls k2 ((rd_T91 l0_2 x23_2).f0) ((rd_T91 l0_2 x23_2).f1) ((rd_T91 l0_2 x23_2).f2) ((rd_T91 l0_2 x23_2).f3) _ _ ((rd_T91 l0_2 x23_2).f4) t217 _ ?side1 ?side2 A14.out).mono ?_);(case side1=>exact Kd.C_below HR215_4.out (belV2 HB.out GE213.out GE216.out));(case side2=>exact HC215_4.out);rintro e w23 ⟨rfl,hb⟩;refine ⟨_,rfl,?_⟩;have n0_:=Aside0.mk (blk_below (g:=gb213) (o:=.cells #[.bool a0_0,.slice A0_1 l0_1.length c0_1,.slice (some ad215) l0_2.length c0_2] 51 (0,0)) (blkW BK213.out NB213_216.out) hb);have n1_:=Aside0.mk (blk_below (g:=gb216) (o:=.cells #[.int .i64 ((rd_T91 l0_2 x23_2).f0),.int .i64 ((rd_T91 l0_2 x23_2).f1),.int .i64 ((rd_T91 l0_2 x23_2).f2),.int .i64 ((rd_T91 l0_2 x23_2).f3),.slice A215_4 ((rd_T91 l0_2 x23_2).f4).length c215_4] 91 (0,0)) (by (with_reducible repeat (first|refine blk_drewN ?_ _|refine blk_drew ?_|refine blk_alloc ?_ _));refine blk_put (cs:=#[.int .i64 ((rd_T91 l0_2 x23_2).f0),.int .i64 ((rd_T91 l0_2 x23_2).f1),.int .i64 ((rd_T91 l0_2 x23_2).f2),.int .i64 ((rd_T91 l0_2 x23_2).f3),.slice none 0 0]) ?_ 4 _ rfl;(with_reducible repeat (first|refine blk_drewN ?_ _|refine blk_drew ?_|refine blk_alloc ?_ _));refine blk_put (cs:=#[.int .i64 ((rd_T91 l0_2 x23_2).f0),.int .i64 ((rd_T91 l0_2 x23_2).f1),.int .i64 ((rd_T91 l0_2 x23_2).f2),.int .i64 0,.slice none 0 0]) ?_ 3 _ rfl;(with_reducible repeat (first|refine blk_drewN ?_ _|refine blk_drew ?_|refine blk_alloc ?_ _));refine blk_put (cs:=#[.int .i64 ((rd_T91 l0_2 x23_2).f0),.int .i64 ((rd_T91 l0_2 x23_2).f1),.int .i64 0,.int .i64 0,.slice none 0 0]) ?_ 2 _ rfl;(with_reducible repeat (first|refine blk_drewN ?_ _|refine blk_drew ?_|refine blk_alloc ?_ _));refine blk_put (cs:=#[.int .i64 ((rd_T91 l0_2 x23_2).f0),.int .i64 0,.int .i64 0,.int .i64 0,.slice none 0 0]) ?_ 1 _ rfl;(with_reducible repeat (first|refine blk_drewN ?_ _|refine blk_drew ?_|refine blk_alloc ?_ _));refine blk_put (cs:=#[.int .i64 0,.int .i64 0,.int .i64 0,.int .i64 0,.slice none 0 0]) ?_ 0 _ rfl;(with_reducible repeat (first|refine blk_drewN ?_ _|refine blk_drew ?_|refine blk_alloc ?_ _));exact BK216.out) hb);have n2_:=Aside0.mk (below_step (belV2 HB.out GE213.out GE216.out) hb);clear BK213;clear BK216;clear HB;have BK213:=n0_;have BK216:=n1_;have HB:=n2_;clear n0_ n1_ n2_;(try clear hb);(try clear hb2);(try clear hk);(try clear hi)))
             go_ret
             exact ⟨by first|rfl|(simp [errW_none,errW_some] <;> rfl)|(simp [*,errW_none,errW_some] <;> rfl),by repeat (first|(with_reducible first|exact HB.out|apply below_alloc|apply pw_below_drewN|apply below_drew1|refine below_set ?_ GE213.out|refine below_set ?_ GE216.out)|exact HB.out)⟩
           rw [if_neg c13] at H
           exact absurd H (by simp)
         rw [if_neg c12] at H
         exact absurd H (by simp)
       rw [if_neg c11] at H
       have c11b0:decide (x23_2 < (l0_2.length:Int))=false:=decide_eq_false c11;clear c11
       obtain rfl:=Option.some.inj H
       go_wp2
       go_ret
       exact ⟨by first|rfl|(simp [errW_none,errW_some] <;> rfl)|(simp [*,errW_none,errW_some] <;> rfl),by repeat (first|(with_reducible first|exact HB.out|apply below_alloc|apply pw_below_drewN|apply below_drew1|refine below_set ?_ GE213.out)|exact HB.out)⟩
   replace c9:=Bool.eq_false_iff.mpr c9;subst c9
   have H1:(some 1)=some r:=by rw [if_neg (show ¬ (false=true) by decide)] at H;exact H
   clear H
   have H:=H1;clear H1
   obtain rfl:=Option.some.inj H
   obtain ⟨hcz24_0,hcz24_1,hcz24_2,hfz24_0,hfz24_1,hfz24_2⟩:=bcells3 BK213.out
   go_wp2_with (first|((with_reducible refine gate_callee (f:=71) rfl ?_);refine goesL_ (some 18) rfl rfl Try.func71 (by kernel_rfl) rfl #[.slice A0_1 l0_1.length c0_1] rfl (by (try simp only [List.map_toArray,List.map_cons,List.map_nil]);first|done|rfl|(simp only [List.length_drop,List.length_take];rfl)) ?_;(with_reducible refine (bitmap_colours.calls kj1 _ _ l0_1 false _ ?side1 ?side2 A8.out).mono ?_);(case side1=>exact cV (Kd.C_below HR0_1.out HB.out));(case side2=>exact HC0_1.out);rintro e w' ⟨rfl,⟨nd,rfl⟩⟩;refine ⟨_,rfl,?_⟩))
   go_ret
   exact ⟨by first|rfl|(simp [errW_none,errW_some] <;> rfl)|(simp [*,errW_none,errW_some] <;> rfl),by repeat (first|(with_reducible first|exact HB.out|apply below_alloc|apply pw_below_drewN|apply below_drew1|refine below_set ?_ GE213.out)|exact HB.out)⟩

/-! ### bits_big: function 97 -/
def bits_big.l0 : Nat → Int → List Int → Int → Option (List Int)
 | 0,_,_,_=>none
 | k+1,x0,x5,x6=>if x6≥0 then (if 0≤x6 then (if x6 < (x5.length:Int) then (bits_big.l0 k (x0 / 256) (x5.set (x6:Int).toNat ((x0) % 256)) (wrap64 (x6 - 1))) else (none)) else (none)) else (some x5)
def bits_big.f (k : Nat) (a0 : Int) (a1 : Int) : Option (List Int) := if 0 ≤ a1 then (if (a1 : Int).toNat ≤ 281474976710656 then (bits_big.l0 k a0 (List.replicate (a1 : Int).toNat 0) (wrap64 (a1 - 1))) else (none)) else (none)
theorem bits_big.mono_l:∀ k,(∀ y0 y1 y2,LeO (bits_big.l0 k y0 y1 y2) (bits_big.l0 (k+1) y0 y1 y2))
 | 0=>fun _ _ _ r h=>by simp [bits_big.l0] at h
 | k+1=>by
  have ih0:=bits_big.mono_l k
  · intro y0 y1 y2
    unfold bits_big.l0
    repeat' first
    | (with_reducible exact ih0 _ _ _)
    | (with_reducible exact LeO.refl _)
    | (with_reducible exact LeO.none _)
    | (with_reducible refine LeO.ite ?_ ?_)
    | (with_reducible refine LeO.bind ?_ (fun _=>?_))
    | exact LeO.none _
    | refine LeO.ite ?_ ?_
    | refine LeO.bind ?_ (fun _=>?_)
theorem bits_big.mono:∀ a0 a1 k,LeO (bits_big.f k a0 a1) (bits_big.f (k+1) a0 a1):=by
 intro a0 a1 k
 have ih0:=bits_big.mono_l k
 unfold bits_big.f
 repeat' first
  | (with_reducible exact ih0 _ _ _)
  | (with_reducible exact LeO.refl _)
  | (with_reducible exact LeO.none _)
  | (with_reducible refine LeO.ite ?_ ?_)
  | (with_reducible refine LeO.bind ?_ (fun _=>?_))
  | exact LeO.none _
  | refine LeO.ite ?_ ?_
  | refine LeO.bind ?_ (fun _=>?_)
set_option maxHeartbeats 8000000 in
set_option maxRecDepth 100000 in
theorem bits_big.calls (k:Nat) (a0:Int) (a1:Int) (r:List Int) (w:World) (h:bits_big.f k a0 a1=some r) :
 Calls Try.prog 97 #[.int .u64 a0,.int .i64 a1] w fun e w'=>∃ v0_:Value,e=.returned (v0_)∧Kd.R (Kd.int .u8) 5 w' w.heap.size (fun _=>True) v0_ r∧Below w.heap.size w w':=by
 have HB:=Aside0.mk (Below.refl w.heap.size w)
 have H:(if 0≤a1 then (if (a1:Int).toNat≤281474976710656 then (bits_big.l0 k a0 (List.replicate (a1:Int).toNat 0) (wrap64 (a1 - 1))) else (none)) else (none))=some r:=h;clear h
 by_cases c3:0≤a1
 · rw [if_pos c3] at H
   have c3b0:=eq_true c3
   have c3b1:decide (0≤a1)=true:=decide_eq_true c3;clear c3
   by_cases c4:(a1:Int).toNat≤281474976710656
   · rw [if_pos c4] at H
     have c4b0:=eq_true c4
     have c4b1:decide ((a1:Int).toNat≤281474976710656)=true:=decide_eq_true c4;clear c4
     obtain ⟨y218,hy218⟩:∃ y_:List Int,y_=(List.replicate (a1:Int).toNat 0):=⟨_,rfl⟩
     replace H:(bits_big.l0 k a0 y218 (wrap64 (a1 - 1)))=some r:=by first|(rw [hy218];with_reducible exact H)|(have H2_:=(Option.bind_some _ _).symm.trans H;rw [hy218];with_reducible exact H2_)|(have H2_:=(Option.bind_some _ _).symm.trans H;with_reducible exact H2_)|with_reducible exact H|(rw [hy218];exact H)|exact H
     have Ny218:=Aside0.mk hy218;clear hy218
     have H':=Aside0.mk H;clear H
     go_enter Try.func97,Try.ntmps97
     go_wp2_with (first|((with_reducible refine gate_dst (N:=8) rfl ?_);refine Kd.R_make (Kd.int .u8) _ 5 rfl (N:=8) rfl 23 _ _ rfl a1 rfl rfl Try.underlying23 (.int .u8 0) 1 info5 rfl (by decide) (by omega) 0 (ok:=fun _=>True) (okp:=fun _=>True) rfl (fun _ hk=>hk) trivial (of_decide_eq_true asV) (Nat.le_trans (Nat.mul_le_mul_right _ (of_decide_eq_true asV:a1.toNat≤281474976710656)) (by omega)) (Below.refl _ _) (Nat.le_refl _) ?_;intro v219 w5 ho6 hb hg_ hnew_;clear hg_ hnew_;(first|rw [← Ny218.out] at ho6|(simp only [Int.reduceToNat] at ho6;rw [← Ny218.out] at ho6));have n0_:=Aside0.mk (Kd.R_lower ho6 (below_size (belV HB.out)));have n1_:=Aside0.mk (below_step (belV HB.out) hb);clear HB;have HO220:=n0_;have HB:=n1_;clear n0_ n1_;clear hb ho6))
     go_loopg [0,6] k (fun kq v0 v6 w'=>∃ (x0_1:Int) (x5_1:List Int) (x6_1:Int),v0=.int .u64 x0_1∧v6=.int .i64 x6_1∧Aside0 (bits_big.l0 kq x0_1 x5_1 x6_1=some r)∧Aside0 (kq≤k)∧Aside0 (Kd.R (Kd.int .u8) 5 w' w.heap.size (fun _=>True) v219 x5_1)∧Aside0 (Below w.heap.size w w'))
     case atStart=>exact ⟨(a0),(y218),(wrap64 (a1 - 1)),okV,okV,H',⟨Nat.le_refl _⟩,⟨rowV HO220.out⟩,⟨belV HB.out⟩⟩
     case round =>
      clear H'
      try clear p2;try clear c3;try clear c3b0;try clear c3b1;try clear c4;try clear c4b0;try clear c4b1;try clear p6
      obtain ⟨x0_1,x5_1,x6_1,rfl,rfl,HA,HK1,HO_5,HB⟩:=hrel
      cases gk with
      | zero=>exact absurd HA.out (by simp [bits_big.l0])
      | succ k1 =>
       have H:=HA.out;clear HA
       simp only [bits_big.l0] at H
       by_cases c7:x6_1≥0
       · rw [if_pos c7] at H
         have c7b0:decide (0≤x6_1)=true:=decide_eq_true c7;clear c7
         by_cases c8:0≤x6_1
         · rw [if_pos c8] at H
           have c8b0:decide (0≤x6_1)=true:=decide_eq_true c8;clear c8
           by_cases c9:x6_1 < (x5_1.length:Int)
           · rw [if_pos c9] at H
             have c9b0:decide (x6_1 < (x5_1.length:Int))=true:=decide_eq_true c9;clear c9
             obtain ⟨y221,hy221⟩:∃ y_:List Int,y_=(x5_1.set (x6_1:Int).toNat ((x0_1) % 256)):=⟨_,rfl⟩
             replace H:(bits_big.l0 k1 (x0_1 / 256) y221 (wrap64 (x6_1 - 1)))=some r:=by first|(rw [hy221];with_reducible exact H)|(have H2_:=(Option.bind_some _ _).symm.trans H;rw [hy221];with_reducible exact H2_)|(have H2_:=(Option.bind_some _ _).symm.trans H;with_reducible exact H2_)|with_reducible exact H|(rw [hy221];exact H)|exact H
             have Ny221:=Aside0.mk hy221;clear hy221
             have H':=Aside0.mk H;clear H
             have p10:0≤(x6_1:Int):=of_decide_eq_true asV
             have q10:(x6_1:Int) < ((x5_1.length:Int):Int):=of_decide_eq_true asV
             obtain ⟨go10,co10,eo10,gb10,gl10,cl10,HG10⟩:=Kd.R_form HO_5.out (by omega)
             (first|cases eo10|(injection eo10 with ea_ en_ ec_;(first|subst ea_|(injection ea_ with ea_;subst ea_));subst ec_;clear en_))
             have GB10:=Aside0.mk gb10
             have GG10:=Aside0.mk HG10;clear gb10 gl10 HG10
             obtain ⟨hx10_0,hf10_0⟩:=Kd.R_celln 0 HO_5.out (x6_1:Int) p10 q10
             replace p10:=eq_true p10
             replace q10:=eq_true q10
             have HP11:=Kd.R_putg HO_5.out (x6_1:Int) ((x0_1) % 256)
             go_wp2_with (first|((with_reducible refine gate_store (t:=5) (p:=19) rfl ?_);refine store_event (t:=5) (p:=19) (v:=?vo_w12) (w1:=(wr.setCell ⟨go10,(x6_1:Int).toNat,none⟩ (.int .u8 ((x0_1) % 256)))) ?hg ?ho ?hn ?hr ?_;(case ho=>rfl);(case hg=>rfl);(case hn=>rfl);(case hr=>first|(go_simp;done)|(go_simp;rfl));intro w12 hw;have hg:wr.grownBy w12 (some go10):=(by rw [hw];exact HP11.2);have hp_:Kd.R (Kd.int .u8) 5 w12 w.heap.size (fun _=>True) (.slice (some ⟨go10,0,none⟩) x5_1.length co10) y221:=(by rw [hw,Ny221.out];exact HP11.1);clear HP11;have n0_:=Aside0.mk (hp_);have n1_:=Aside0.mk ((by rw [hw];exact below_set (HB.out) GB10.out:Below w.heap.size w w12));clear HO_5;clear HB;have HO_5:=n0_;have HB:=n1_;clear n0_ n1_;clear hg hw hp_))
             go_roundg k1
             case measure=>have:=HK1.out;omega
             case rel=>exact ⟨(x0_1 / 256),(y221),(wrap64 (x6_1 - 1)),okV,okV,H',⟨by have:=HK1.out;omega⟩,⟨rowV HO_5.out⟩,⟨belV HB.out⟩⟩
           rw [if_neg c9] at H
           exact absurd H (by simp)
         rw [if_neg c8] at H
         exact absurd H (by simp)
       rw [if_neg c7] at H
       have c7b0:decide (0≤x6_1)=false:=decide_eq_false c7;clear c7
       obtain rfl:=Option.some.inj H
       go_wp2
       go_ret
       exact ⟨_,by first|rfl|(simp [errW_none,errW_some] <;> rfl)|(simp [*,errW_none,errW_some] <;> rfl),by (with_reducible repeat (first|apply Kd.R_alloc|apply Kd.R_drewN|apply Kd.R_drew));exact HO_5.out,by repeat (first|(with_reducible first|exact HB.out|apply below_alloc|apply pw_below_drewN|apply below_drew1)|exact HB.out)⟩
   rw [if_neg c4] at H
   exact absurd H (by simp)
 rw [if_neg c3] at H
 exact absurd H (by simp)

/-! ### bits_PutInt: function 86 -/
def bits_PutInt.f (k : Nat) (a0 : Int) (a1 : Int) : Option (List Int × Int) := if a1 < 1 then (some (([] : List Int), 1)) else (if a1 > 8 then (some (([] : List Int), 1)) else (if a0 < 0 then (some (([] : List Int), 1)) else (if a1 < 8 then (if 0 ≤ (wrap64 (8 * a1)) then (if (shr .i64 a0 (wrap64 (8 * a1))) > 0 then (some (([] : List Int), 1)) else ((bits_big.f k (IntKind.u64.wrap (a0)) a1).bind fun t222 => (some (t222, 0)))) else (none)) else ((bits_big.f k (IntKind.u64.wrap (a0)) a1).bind fun t225 => (some (t225, 0))))))
theorem bits_PutInt.mono:∀ a0 a1 k,LeO (bits_PutInt.f k a0 a1) (bits_PutInt.f (k+1) a0 a1):=by
 intro a0 a1 k
 unfold bits_PutInt.f
 repeat' first
  | (with_reducible exact bits_big.mono _ _ _)
  | (with_reducible exact LeO.refl _)
  | (with_reducible exact LeO.none _)
  | (with_reducible refine LeO.ite ?_ ?_)
  | (with_reducible refine LeO.bind ?_ (fun _=>?_))
  | exact LeO.none _
  | refine LeO.ite ?_ ?_
  | refine LeO.bind ?_ (fun _=>?_)
set_option maxHeartbeats 8000000 in
set_option maxRecDepth 100000 in
theorem bits_PutInt.calls (k:Nat) (a0:Int) (a1:Int) (r1:List Int) (r2:Int) (w:World) (h:bits_PutInt.f k a0 a1=some (r1,r2)) :
 Calls Try.prog 86 #[.int .i64 a0,.int .i64 a1] w fun e w'=>∃ v0_:Value,e=.returned (.tuple #[v0_,.int .i64 r2])∧Kd.R (Kd.int .u8) 5 w' w.heap.size (fun _=>True) v0_ r1∧Below w.heap.size w w':=by
 have HB:=Aside0.mk (Below.refl w.heap.size w)
 have H:(if a1 < 1 then (some (([]:List Int),1)) else (if a1 > 8 then (some (([]:List Int),1)) else (if a0 < 0 then (some (([]:List Int),1)) else (if a1 < 8 then (if 0≤(wrap64 (8*a1)) then (if (shr .i64 a0 (wrap64 (8*a1))) > 0 then (some (([]:List Int),1)) else ((bits_big.f k (IntKind.u64.wrap (a0)) a1).bind fun t222=>(some (t222,0)))) else (none)) else ((bits_big.f k (IntKind.u64.wrap (a0)) a1).bind fun t225=>(some (t225,0)))))))=some (r1,r2):=h;clear h
 by_cases c3:a1 < 1
 · rw [if_pos c3] at H
   have c3b0:decide (a1 < 1)=true:=decide_eq_true c3;clear c3
   simp only [Option.some.injEq,Prod.mk.injEq] at H
   obtain ⟨rfl,rfl⟩:=H
   go_enter Try.func86,Try.ntmps86
   go_wp2
   go_ret2
   exact ⟨_,by first|rfl|(simp [errW_none,errW_some] <;> rfl)|(simp [*,errW_none,errW_some] <;> rfl),by first|exact Kd.R_nil _ _ _ _ _|exact Kd.N_nil _ _ _ _ _|exact Kd.V_nil _ _ _ _ _|exact Kd.Q_nil _ _ _ _ _|exact Kd.S_nil _ _ _ _ _,by repeat (first|(with_reducible first|exact HB.out|apply below_alloc|apply pw_below_drewN|apply below_drew1)|exact HB.out)⟩
 rw [if_neg c3] at H
 have c3b0:decide (a1 < 1)=false:=decide_eq_false c3;clear c3
 by_cases c4:a1 > 8
 · rw [if_pos c4] at H
   have c4b0:decide (8 < a1)=true:=decide_eq_true c4;clear c4
   simp only [Option.some.injEq,Prod.mk.injEq] at H
   obtain ⟨rfl,rfl⟩:=H
   go_enter Try.func86,Try.ntmps86
   go_wp2
   go_ret2
   exact ⟨_,by first|rfl|(simp [errW_none,errW_some] <;> rfl)|(simp [*,errW_none,errW_some] <;> rfl),by first|exact Kd.R_nil _ _ _ _ _|exact Kd.N_nil _ _ _ _ _|exact Kd.V_nil _ _ _ _ _|exact Kd.Q_nil _ _ _ _ _|exact Kd.S_nil _ _ _ _ _,by repeat (first|(with_reducible first|exact HB.out|apply below_alloc|apply pw_below_drewN|apply below_drew1)|exact HB.out)⟩
 rw [if_neg c4] at H
 have c4b0:decide (8 < a1)=false:=decide_eq_false c4;clear c4
 by_cases c5:a0 < 0
 · rw [if_pos c5] at H
   have c5b0:decide (a0 < 0)=true:=decide_eq_true c5;clear c5
   simp only [Option.some.injEq,Prod.mk.injEq] at H
   obtain ⟨rfl,rfl⟩:=H
   go_enter Try.func86,Try.ntmps86
   go_wp2
   go_ret2
   exact ⟨_,by first|rfl|(simp [errW_none,errW_some] <;> rfl)|(simp [*,errW_none,errW_some] <;> rfl),by first|exact Kd.R_nil _ _ _ _ _|exact Kd.N_nil _ _ _ _ _|exact Kd.V_nil _ _ _ _ _|exact Kd.Q_nil _ _ _ _ _|exact Kd.S_nil _ _ _ _ _,by repeat (first|(with_reducible first|exact HB.out|apply below_alloc|apply pw_below_drewN|apply below_drew1)|exact HB.out)⟩
 rw [if_neg c5] at H
 have c5b0:decide (a0 < 0)=false:=decide_eq_false c5;clear c5
 by_cases c6:a1 < 8
 · rw [if_pos c6] at H
   have c6b0:decide (a1 < 8)=true:=decide_eq_true c6;clear c6
   obtain ⟨ji7,hji7⟩:∃ j_:Int,(wrap64 (8*a1))=j_:=⟨_,rfl⟩
   replace H:(if 0≤(ji7) then (if (shr .i64 a0 (ji7)) > 0 then (some (([]:List Int),1)) else ((bits_big.f k (IntKind.u64.wrap (a0)) a1).bind fun t222=>(some (t222,0)))) else (none))=some (r1,r2):=by first|(rw [hji7] at H;exact H)|(simp only [hji7] at H ⊢;exact H)
   have hji7w:(IntKind.i64.wrap (8*a1))=ji7:=(i64_w _).trans hji7
   by_cases c8:0≤(ji7)
   · rw [if_pos c8] at H
     have c8b0:=eq_true c8
     have c8b1:decide (0≤(ji7))=true:=decide_eq_true c8;clear c8
     obtain ⟨ji9,hji9⟩:∃ j_:Int,(shr .i64 a0 (ji7))=j_:=⟨_,rfl⟩
     replace H:(if (ji9) > 0 then (some (([]:List Int),1)) else ((bits_big.f k (IntKind.u64.wrap (a0)) a1).bind fun t222=>(some (t222,0))))=some (r1,r2):=by first|(rw [hji9] at H;exact H)|(simp only [hji9] at H ⊢;exact H)
     have hji9_:(a0 / 2 ^ min (ji7).toNat 64)=ji9:=hji9
     have hji9z:(ji7)≤64→(a0 / 2 ^ (ji7).toNat)=ji9:=shr_small hji9
     by_cases c10:(ji9) > 0
     · rw [if_pos c10] at H
       have c10b0:decide (0 < (ji9))=true:=decide_eq_true c10;clear c10
       simp only [Option.some.injEq,Prod.mk.injEq] at H
       obtain ⟨rfl,rfl⟩:=H
       go_enter Try.func86,Try.ntmps86
       go_wp2
       go_ret2
       exact ⟨_,by first|rfl|(simp [errW_none,errW_some] <;> rfl)|(simp only [← hji7,← hji9];first|rfl|(simp [errW_none,errW_some] <;> rfl))|(simp [*,errW_none,errW_some] <;> rfl),by first|exact Kd.R_nil _ _ _ _ _|exact Kd.N_nil _ _ _ _ _|exact Kd.V_nil _ _ _ _ _|exact Kd.Q_nil _ _ _ _ _|exact Kd.S_nil _ _ _ _ _,by repeat (first|(with_reducible first|exact HB.out|apply below_alloc|apply pw_below_drewN|apply below_drew1)|exact HB.out)⟩
     rw [if_neg c10] at H
     have c10b0:decide (0 < (ji9))=false:=decide_eq_false c10;clear c10
     replace H:=Option.bind_eq_some_iff.mp H
     obtain ⟨t222,A110,H⟩:=H
     replace H:(some (t222,0))=some (r1,r2):=H
     have A11:=Aside0.mk A110;clear A110
     simp only [Option.some.injEq,Prod.mk.injEq] at H
     obtain ⟨rfl,rfl⟩:=H
     go_enter Try.func86,Try.ntmps86
     go_wp2_with (first|((with_reducible refine gate_callee (f:=97) rfl ?_);refine goesL_ (some 30) rfl rfl Try.func97 (by kernel_rfl) rfl #[.int .u64 (IntKind.u64.wrap (a0)),.int .i64 a1] rfl (by (try simp only [List.map_toArray,List.map_cons,List.map_nil]);first|done|rfl|(simp only [List.length_drop,List.length_take];rfl)) ?_;(with_reducible refine (bits_big.calls k (IntKind.u64.wrap (a0)) a1 t222 _ A11.out).mono ?_);rintro e w12 ⟨v223,rfl,ho0,hb⟩;refine ⟨_,rfl,?_⟩;have n0_:=Aside0.mk (Kd.R_lower ho0 (below_size (belV HB.out)));have n1_:=Aside0.mk (below_step (belV HB.out) hb);clear HB;have HO224:=n0_;have HB:=n1_;clear n0_ n1_;(try clear hb);(try clear hb2);(try clear hk);(try clear hi);(try clear ho0)))
     go_ret2
     exact ⟨_,by first|rfl|(simp [errW_none,errW_some] <;> rfl)|(simp only [← hji7,← hji9];first|rfl|(simp [errW_none,errW_some] <;> rfl))|(simp [*,errW_none,errW_some] <;> rfl),by (with_reducible repeat (first|apply Kd.R_alloc|apply Kd.R_drewN|apply Kd.R_drew));exact HO224.out,by repeat (first|(with_reducible first|exact HB.out|apply below_alloc|apply pw_below_drewN|apply below_drew1)|exact HB.out)⟩
   rw [if_neg c8] at H
   exact absurd H (by simp)
 rw [if_neg c6] at H
 have c6b0:decide (a1 < 8)=false:=decide_eq_false c6;clear c6
 replace H:=Option.bind_eq_some_iff.mp H
 obtain ⟨t225,A130,H⟩:=H
 replace H:(some (t225,0))=some (r1,r2):=H
 have A13:=Aside0.mk A130;clear A130
 simp only [Option.some.injEq,Prod.mk.injEq] at H
 obtain ⟨rfl,rfl⟩:=H
 go_enter Try.func86,Try.ntmps86
 go_wp2_with (first|((with_reducible refine gate_callee (f:=97) rfl ?_);refine goesL_ (some 30) rfl rfl Try.func97 (by kernel_rfl) rfl #[.int .u64 (IntKind.u64.wrap (a0)),.int .i64 a1] rfl (by (try simp only [List.map_toArray,List.map_cons,List.map_nil]);first|done|rfl|(simp only [List.length_drop,List.length_take];rfl)) ?_;(with_reducible refine (bits_big.calls k (IntKind.u64.wrap (a0)) a1 t225 _ A13.out).mono ?_);rintro e w14 ⟨v226,rfl,ho0,hb⟩;refine ⟨_,rfl,?_⟩;have n0_:=Aside0.mk (Kd.R_lower ho0 (below_size (belV HB.out)));have n1_:=Aside0.mk (below_step (belV HB.out) hb);clear HB;have HO227:=n0_;have HB:=n1_;clear n0_ n1_;(try clear hb);(try clear hb2);(try clear hk);(try clear hi);(try clear ho0)))
 go_ret2
 exact ⟨_,by first|rfl|(simp [errW_none,errW_some] <;> rfl)|(simp [*,errW_none,errW_some] <;> rfl),by (with_reducible repeat (first|apply Kd.R_alloc|apply Kd.R_drewN|apply Kd.R_drew));exact HO227.out,by repeat (first|(with_reducible first|exact HB.out|apply below_alloc|apply pw_below_drewN|apply below_drew1)|exact HB.out)⟩

/-! ### bitmap_number: function 69 -/
def bitmap_number.f (k : Nat) (l0 : List Int) (a1 : Int) (a2 : Int) : Option (List Int) := (bits_PutInt.f k a1 a2).bind fun bt228 => (if l0.length + bt228.1.length < 140737488355328 then (some (l0 ++ bt228.1)) else (none))
theorem bitmap_number.mono:∀ a0 a1 a2 k,LeO (bitmap_number.f k a0 a1 a2) (bitmap_number.f (k+1) a0 a1 a2):=by
 intro a0 a1 a2 k
 unfold bitmap_number.f
 repeat' first
  | (with_reducible exact bits_PutInt.mono _ _ _)
  | (with_reducible exact LeO.refl _)
  | (with_reducible exact LeO.none _)
  | (with_reducible refine LeO.ite ?_ ?_)
  | (with_reducible refine LeO.bind ?_ (fun _=>?_))
  | exact LeO.none _
  | refine LeO.ite ?_ ?_
  | refine LeO.bind ?_ (fun _=>?_)
set_option maxHeartbeats 8000000 in
set_option maxRecDepth 100000 in
theorem bitmap_number.calls (k:Nat) (P0_:Nat→Prop) (u9000_:Value) (l0:List Int) (a1:Int) (a2:Int) (r:List Int) (w0 w:World) (hB:Below w0.heap.size w0 w) (ho0:Kd.R (Kd.int .u8) 5 w w0.heap.size P0_ u9000_ l0) (h:bitmap_number.f k l0 a1 a2=some r) :
 Calls Try.prog 69 #[u9000_,.int .i64 a1,.int .i64 a2] w fun e w'=>∃ v0_:Value,e=.returned (v0_)∧Kd.R (Kd.int .u8) 5 w' w0.heap.size (fun k_=>(P0_ k_∨w.heap.size≤k_)) v0_ r∧Below w0.heap.size w0 w'∧Kept w w' (fun k_=>P0_ k_):=by
 have HO0:=Aside0.mk (show Kd.R (Kd.int .u8) 5 w w0.heap.size (fun k_=>(P0_ k_∨w.heap.size≤k_)) u9000_ l0 from Kd.R_mono ho0 (fun k_ hk=>(.inl hk)))
 have HK:=Aside0.mk (Kept.refl w (fun k_=>P0_ k_))
 have HW0:=Aside0.mk hB.size;have HB:=Aside0.mk hB;clear hB
 have H:((bits_PutInt.f k a1 a2).bind fun bt228=>(if l0.length+bt228.1.length < 140737488355328 then (some (l0 ++ bt228.1)) else (none)))=some r:=h;clear h
 replace H:=Option.bind_eq_some_iff.mp H
 obtain ⟨⟨t228,t229⟩,A40,H⟩:=H
 replace H:(if l0.length+t228.length < 140737488355328 then (some (l0 ++ t228)) else (none))=some r:=H
 have A4:=Aside0.mk A40;clear A40
 by_cases c5:l0.length+t228.length < 140737488355328
 · rw [if_pos c5] at H
   have LMc5:=Aside0.mk c5;clear c5
   obtain ⟨y232,hy232⟩:∃ y_:List Int,y_=(l0 ++ t228):=⟨_,rfl⟩
   replace H:(some y232)=some r:=by first|(rw [hy232];with_reducible exact H)|(have H2_:=(Option.bind_some _ _).symm.trans H;rw [hy232];with_reducible exact H2_)|(have H2_:=(Option.bind_some _ _).symm.trans H;with_reducible exact H2_)|with_reducible exact H|(rw [hy232];exact H)|exact H
   have Ny232:=Aside0.mk hy232;clear hy232
   obtain rfl:=Option.some.inj H
   go_enter Try.func69,Try.ntmps69
   go_wp2_with (first|((with_reducible refine gate_callee (f:=86) rfl ?_);refine goesL_ (some 12) rfl rfl Try.func86 (by kernel_rfl) rfl #[.int .i64 a1,.int .i64 a2] rfl (by (try simp only [List.map_toArray,List.map_cons,List.map_nil]);first|done|rfl|(simp only [List.length_drop,List.length_take];rfl)) ?_;(with_reducible refine (bits_PutInt.calls k a1 a2 t228 t229 _ A4.out).mono ?_);rintro e w6 ⟨v230,rfl,ho0,hb⟩;refine ⟨_,rfl,?_⟩;have n0_:=Aside0.mk (Kd.R_elder' (rowV HO0.out) (Kd.R_base ho0) hb);have n1_:=Aside0.mk (Kd.R_lower (Kd.R_new' (Kd.R_newM (M:=fun k_=>(P0_ k_∨w.heap.size≤k_)) ho0 (by first|exact HK.out.1|exact (show Kept w _ (fun k_=>P0_ k_) from by repeat (first|(with_reducible first|exact HK.out|apply Kept.alloc|apply Kept.drewN|apply Kept.drew)|exact HK.out)).1) (fun k_ h_=>.inr h_)) (Kd.R_lt (rowV HO0.out))) (below_size (belV HB.out)));have n2_:=Aside0.mk (Kept.below (S:=(fun k_=>P0_ k_)) (by repeat (first|(with_reducible first|exact HK.out|apply Kept.alloc|apply Kept.drewN|apply Kept.drew)|exact HK.out)) hb);have n3_:=Aside0.mk (below_step (belV HB.out) hb);clear HO0;clear HK;clear HB;have HO0:=n0_;have HO231:=n1_;have HK:=n2_;have HB:=n3_;clear n0_ n1_ n2_ n3_;(try clear hb);(try clear hb2);(try clear hk);(try clear hi);(try clear ho0);obtain ⟨Ao8,co8,eo8⟩:=Kd.R_slice HO231.out;subst eo8)|((with_reducible refine gate_builtin (b:=.append) (xs:=#[.tmp 15,.tmp 16]) rfl ?_);at_builtin;refine Kd.R_append_rows (Kd.int .u8) (w0:=w0) w0.heap.size rfl (.tmp 15) (.tmp 16) 23 5 (.int .u8 0) 1 rfl Try.underlying23 info5 rfl (by decide) (by omega) u9000_ l0 t228 _ _ _ (fun k_=>(P0_ k_∨w.heap.size≤k_)∧some k_≠(.slice Ao8 t228.length co8:Value).ownBlock) (fun _=>False) rfl rfl ?aO ?aR (fun _ _ h=>h) (fun _ h=>h.elim) ?aF ?aB ?aS ?aL ?_;(case aR=>exact cV (Kd.R_reads' HO231.out).2.2);(case aB=>exact (belV HB.out));(case aF=>exact (fun k_ hk=>⟨(.inr (Nat.le_trans (by first|exact HK.out.1|exact (show Kept w _ (fun k_=>P0_ k_) from by repeat (first|(with_reducible first|exact HK.out|apply Kept.alloc|apply Kept.drewN|apply Kept.drew)|exact HK.out)).1) hk)),Kd.fresh' (Kd.R_lt (rowV HO231.out)) k_ hk⟩));(case aO=>exact (rowV HO0.out));(case aS=>exact (below_size (belV HB.out)));(case aL=>have:=LMc5.out;omega);intro v233 w7 ho hb hg hat;rw [← Ny232.out] at ho;have n0_:=Aside0.mk (Kd.R_after (ok:=(fun k_=>(P0_ k_∨w.heap.size≤k_))) (by (with_reducible repeat (first|apply Kd.R_alloc|apply Kd.R_drewN|apply Kd.R_drew));exact Kd.R_mono HO231.out (fun _ hk=>⟨hk.1.1,hk.2⟩)) hg hat);have n1_:=Aside0.mk (hb);have n2_:=Aside0.mk (Kept.of_grown (S:=(fun k_=>P0_ k_)) hg (by repeat (first|(with_reducible first|exact HK.out|apply Kept.alloc|apply Kept.drewN|apply Kept.drew)|exact HK.out)) (fun k_ e_=>(HO0.out.1 k_ e_).1));have n3_:=Aside0.mk (ho);clear HO231;clear HB;clear HK;clear HO0;have HO231:=n0_;have HB:=n1_;have HK:=n2_;have HO234:=n3_;clear n0_ n1_ n2_ n3_;clear ho hb hg hat))
   go_ret
   exact ⟨_,by first|rfl|(simp [errW_none,errW_some] <;> rfl)|(simp [*,errW_none,errW_some] <;> rfl),by (with_reducible repeat (first|apply Kd.R_alloc|apply Kd.R_drewN|apply Kd.R_drew));exact Kd.R_mono HO234.out (fun _ hk=>hk.1),by repeat (first|(with_reducible first|exact HB.out|apply below_alloc|apply pw_below_drewN|apply below_drew1)|exact HB.out),by repeat (first|(with_reducible first|exact HK.out|apply Kept.alloc|apply Kept.drewN|apply Kept.drew)|exact HK.out)⟩
 rw [if_neg c5] at H
 exact absurd H (by simp)

/-! ### bitmap_Encode: function 35 -/
mutual
def bitmap_Encode.j0 : Nat → List Int → Bool → List Int → List (S91) → Option (List Int × Int)
 | 0,_,_,_,_=>none
 | k+1,x5,x236000,x236001,x236002=>bitmap_Encode.l0 k x5 x236001 (x236001.length:Int) 0 x236000 x236001 x236002
def bitmap_Encode.l0 : Nat → List Int → List Int → Int → Int → Bool → List Int → List (S91) → Option (List Int × Int)
 | 0,_,_,_,_,_,_,_=>none
 | k+1,x5,x27,x28,x29,x236000,x236001,x236002=>if x29 < x28 then (if 0≤x29 then (if x29 < (x27.length:Int) then ((bitmap_number.f k x5 (rd x27 x29) 3).bind fun t242=>(bitmap_Encode.l0 k t242 x27 x28 (wrap64 (x29+1)) x236000 x236001 x236002)) else (none)) else (none)) else (if x5.length < 140737488355328 then (bitmap_Encode.l1 k (x5 ++ [((x236002.length:Int)) % 256]) x236002 (x236002.length:Int) 0) else (none))
def bitmap_Encode.l1 : Nat → List Int → List (S91) → Int → Int → Option (List Int × Int)
 | 0,_,_,_,_=>none
 | k+1,x5,x45,x46,x47=>if x47 < x46 then (if 0≤x47 then (if x47 < (x45.length:Int) then ((bitmap_Runs.f k ((rd_T91 x45 x47).f4) ((rd_T91 x45 x47).f2)).bind fun bt254=>((bitmap_number.f k x5 ((rd_T91 x45 x47).f0) 2).bind fun t258=>((bitmap_number.f k t258 ((rd_T91 x45 x47).f1) 2).bind fun t261=>((some (([((rd_T91 x45 x47).f2) % 256,((rd_T91 x45 x47).f3) % 256]:List Int):List Int)).bind fun y264=>(if t261.length+y264.length < 140737488355328 then ((bitmap_number.f k (t261 ++ y264) (bt254.1.length:Int) 2).bind fun t270=>(if t270.length+bt254.1.length < 140737488355328 then (bitmap_Encode.l1 k (t270 ++ bt254.1) x45 x46 (wrap64 (x47+1))) else (none))) else (none)))))) else (none)) else (none)) else ((bits_Sum.f k x5).bind fun t248=>((bitmap_number.f k x5 (wrap64 (t248)) 4).bind fun t249=>(some (t249,0))))
end
def bitmap_Encode.f (k : Nat) (a0_0 : Bool) (l0_1 : List Int) (l0_2 : List (S91)) : Option (List Int × Int) := (bitmap_Check.f k a0_0 l0_1 l0_2).bind fun t236 => (if t236 = 0 then ((some (([0, ((l0_1.length : Int)) % 256] : List Int) : List Int)).bind fun y237 => (if a0_0 = true then (if 0 < (y237.length : Int) then (bitmap_Encode.j0 k (y237.set (0 : Int).toNat 1) a0_0 l0_1 l0_2) else (none)) else (bitmap_Encode.j0 k y237 a0_0 l0_1 l0_2))) else (some (([] : List Int), t236)))
theorem bitmap_Encode.mono_l:∀ k,(∀ y0 y1 y2 y3,LeO (bitmap_Encode.j0 k y0 y1 y2 y3) (bitmap_Encode.j0 (k+1) y0 y1 y2 y3))∧(∀ y0 y1 y2 y3 y4 y5 y6,LeO (bitmap_Encode.l0 k y0 y1 y2 y3 y4 y5 y6) (bitmap_Encode.l0 (k+1) y0 y1 y2 y3 y4 y5 y6))∧(∀ y0 y1 y2 y3,LeO (bitmap_Encode.l1 k y0 y1 y2 y3) (bitmap_Encode.l1 (k+1) y0 y1 y2 y3))
 | 0=>⟨fun _ _ _ _ r h=>by simp [bitmap_Encode.j0] at h,fun _ _ _ _ _ _ _ r h=>by simp [bitmap_Encode.l0] at h,fun _ _ _ _ r h=>by simp [bitmap_Encode.l1] at h⟩
 | k+1=>by
  obtain ⟨ih0,ih1,ih2⟩:=bitmap_Encode.mono_l k
  refine ⟨?_,?_,?_⟩
  · intro y0 y1 y2 y3
    unfold bitmap_Encode.j0
    repeat' first
    | (with_reducible exact ih0 _ _ _ _)
    | (with_reducible exact ih1 _ _ _ _ _ _ _)
    | (with_reducible exact ih2 _ _ _ _)
    | (with_reducible exact bitmap_Check.mono _ _ _ _)
    | (with_reducible exact bitmap_Runs.mono _ _ _)
    | (with_reducible exact bitmap_number.mono _ _ _ _)
    | (with_reducible exact bits_Sum.mono _ _)
    | (with_reducible exact LeO.refl _)
    | (with_reducible exact LeO.none _)
    | (with_reducible refine LeO.ite ?_ ?_)
    | (with_reducible refine LeO.bind ?_ (fun _=>?_))
    | exact LeO.none _
    | refine LeO.ite ?_ ?_
    | refine LeO.bind ?_ (fun _=>?_)
  · intro y0 y1 y2 y3 y4 y5 y6
    unfold bitmap_Encode.l0
    repeat' first
    | (with_reducible exact ih0 _ _ _ _)
    | (with_reducible exact ih1 _ _ _ _ _ _ _)
    | (with_reducible exact ih2 _ _ _ _)
    | (with_reducible exact bitmap_Check.mono _ _ _ _)
    | (with_reducible exact bitmap_Runs.mono _ _ _)
    | (with_reducible exact bitmap_number.mono _ _ _ _)
    | (with_reducible exact bits_Sum.mono _ _)
    | (with_reducible exact LeO.refl _)
    | (with_reducible exact LeO.none _)
    | (with_reducible refine LeO.ite ?_ ?_)
    | (with_reducible refine LeO.bind ?_ (fun _=>?_))
    | exact LeO.none _
    | refine LeO.ite ?_ ?_
    | refine LeO.bind ?_ (fun _=>?_)
  intro y0 y1 y2 y3
  unfold bitmap_Encode.l1
  repeat' first
  | (with_reducible exact ih0 _ _ _ _)
  | (with_reducible exact ih1 _ _ _ _ _ _ _)
  | (with_reducible exact ih2 _ _ _ _)
  | (with_reducible exact bitmap_Check.mono _ _ _ _)
  | (with_reducible exact bitmap_Runs.mono _ _ _)
  | (with_reducible exact bitmap_number.mono _ _ _ _)
  | (with_reducible exact bits_Sum.mono _ _)
  | (with_reducible exact LeO.refl _)
  | (with_reducible exact LeO.none _)
  | (with_reducible refine LeO.ite ?_ ?_)
  | (with_reducible refine LeO.bind ?_ (fun _=>?_))
  | exact LeO.none _
  | refine LeO.ite ?_ ?_
  | refine LeO.bind ?_ (fun _=>?_)
theorem bitmap_Encode.mono:∀ a0 a1 a2 k,LeO (bitmap_Encode.f k a0 a1 a2) (bitmap_Encode.f (k+1) a0 a1 a2):=by
 intro a0 a1 a2 k
 obtain ⟨ih0,ih1,ih2⟩:=bitmap_Encode.mono_l k
 unfold bitmap_Encode.f
 repeat' first
  | (with_reducible exact ih0 _ _ _ _)
  | (with_reducible exact ih1 _ _ _ _ _ _ _)
  | (with_reducible exact ih2 _ _ _ _)
  | (with_reducible exact bitmap_Check.mono _ _ _ _)
  | (with_reducible exact bitmap_Runs.mono _ _ _)
  | (with_reducible exact bitmap_number.mono _ _ _ _)
  | (with_reducible exact bits_Sum.mono _ _)
  | (with_reducible exact LeO.refl _)
  | (with_reducible exact LeO.none _)
  | (with_reducible refine LeO.ite ?_ ?_)
  | (with_reducible refine LeO.bind ?_ (fun _=>?_))
  | exact LeO.none _
  | refine LeO.ite ?_ ?_
  | refine LeO.bind ?_ (fun _=>?_)
def bitmap_Encode.T17 : Bool × List (List Nat × List Nat) := (true, [([], []), ([], []), ([1], [1]), ([0, 2], [0, 2]), ([], []), ([4], [4]), ([3, 5, 3], [3, 5]), ([6, 6, 0, 1, 2, 3, 4, 5, 6], [0, 6])])
def bitmap_Encode.B17 : List Nat := [0, 0, 2, 7, 0, 16, 63, 127]
theorem bitmap_Encode.tab17:rtab .any (opsOf Try.f35 17)=bitmap_Encode.T17:=by kernel_rfl
theorem bitmap_Encode.bits17:waitsOk bitmap_Encode.T17.2 bitmap_Encode.B17=true:=by kernel_rfl
set_option maxHeartbeats 8000000 in
set_option maxRecDepth 100000 in
theorem bitmap_Encode.calls (k:Nat) (a0_0:Bool) (A0_1:Option Addr) (c0_1:Nat) (l0_1:List Int) (A0_2:Option Addr) (c0_2:Nat) (l0_2:List (S91)) (r1:List Int) (r2:Int) (w:World) (hr0_1:Kd.C (Kd.int .i64) w A0_1 l0_1.length l0_1) (hc0_1:l0_1.length≤c0_1) (hr0_2:Kd.C k91 w A0_2 l0_2.length l0_2) (hc0_2:l0_2.length≤c0_2) (h:bitmap_Encode.f k a0_0 l0_1 l0_2=some (r1,r2)) :
 Calls Try.prog 35 #[.agg #[.bool a0_0,.slice A0_1 l0_1.length c0_1,.slice A0_2 l0_2.length c0_2]] w fun e w'=>∃ v0_:Value,e=.returned (.tuple #[v0_,.int .i64 r2])∧Kd.R (Kd.int .u8) 5 w' w.heap.size (fun _=>True) v0_ r1∧Below w.heap.size w w':=by
 have hu51:=Try.underlying51
 have hu91:=Try.underlying91
 have HR0_1:=Aside0.mk hr0_1
 have HC0_1:=Aside0.mk hc0_1;clear hr0_1 hc0_1
 have HR0_2:=Aside0.mk hr0_2
 have HC0_2:=Aside0.mk hc0_2;clear hr0_2 hc0_2;have HB:=Aside0.mk (Below.refl w.heap.size w)
 have H:((bitmap_Check.f k a0_0 l0_1 l0_2).bind fun t236=>(if t236=0 then ((some (([0,((l0_1.length:Int)) % 256]:List Int):List Int)).bind fun y237=>(if a0_0=true then (if 0 < (y237.length:Int) then (bitmap_Encode.j0 k (y237.set (0:Int).toNat 1) a0_0 l0_1 l0_2) else (none)) else (bitmap_Encode.j0 k y237 a0_0 l0_1 l0_2))) else (some (([]:List Int),t236))))=some (r1,r2):=h
 clear h
 replace H:=Option.bind_eq_some_iff.mp H
 obtain ⟨t236,A20,H⟩:=H
 replace H:(if t236=0 then ((some (([0,((l0_1.length:Int)) % 256]:List Int):List Int)).bind fun y237=>(if a0_0=true then (if 0 < (y237.length:Int) then (bitmap_Encode.j0 k (y237.set (0:Int).toNat 1) a0_0 l0_1 l0_2) else (none)) else (bitmap_Encode.j0 k y237 a0_0 l0_1 l0_2))) else (some (([]:List Int),t236)))=some (r1,r2):=H
 have A2:=Aside0.mk A20;clear A20
 by_cases c3:t236=0
 · rw [if_pos c3] at H
   have c3b0:(t236 == 0)=true:=beq_iff_eq.mpr c3
   have c3b1:(t236 != 0)=false:=bne_eq_false_iff_eq.mpr c3;clear c3
   obtain ⟨y237,hy237⟩:∃ y_:List Int,y_=(([0,((l0_1.length:Int)) % 256]:List Int)):=⟨_,rfl⟩
   replace H:(if a0_0=true then (if 0 < (y237.length:Int) then (bitmap_Encode.j0 k (y237.set (0:Int).toNat 1) a0_0 l0_1 l0_2) else (none)) else (bitmap_Encode.j0 k y237 a0_0 l0_1 l0_2))=some (r1,r2):=by first|(rw [hy237];with_reducible exact H)|(have H2_:=(Option.bind_some _ _).symm.trans H;rw [hy237];with_reducible exact H2_)|(have H2_:=(Option.bind_some _ _).symm.trans H;with_reducible exact H2_)|with_reducible exact H|(rw [hy237];exact H)|exact H
   have Ny237:=Aside0.mk hy237;clear hy237
   have HC4:=Aside0.mk H;clear H
   go_enter Try.func35,Try.ntmps35
   go_upto_if 23 with (first|((with_reducible refine gate_dst (N:=1) rfl ?_);refine box_event ?hg (N:=1) ?hd (cs:=#[.bool a0_0,.slice A0_1 l0_1.length c0_1,.slice A0_2 l0_2.length c0_2]) (t:=51) ?hr ?_;(case hd=>rfl);(case hg=>rfl);(case hr=>first|(go_simp;done)|(go_simp;rfl));intro gb235 hg w5 hbox hb;have n0_:=Aside0.mk (below_step (belV HB.out) hb);have n1_:=Aside0.mk (hbox);have n2_:=Aside0.mk ((by rw [hg];exact (below_size (belV HB.out)):w.heap.size≤gb235));have n3_:=Aside0.mk ((by rw [hg];exact (below_size (belV HB.out)):w.heap.size≤gb235));clear HB;have HB:=n0_;have BK235:=n1_;have GW235:=n2_;have GE235:=n3_;clear n0_ n1_ n2_ n3_;clear hb hbox hg;obtain ⟨hcz6_0,hcz6_1,hcz6_2,hfz6_0,hfz6_1,hfz6_2⟩:=bcells3 BK235.out)|((with_reducible refine gate_callee (f:=39) rfl ?_);refine goesL_ (some 13) rfl rfl Try.func39 (by kernel_rfl) rfl #[.agg #[.bool a0_0,.slice A0_1 l0_1.length c0_1,.slice A0_2 l0_2.length c0_2]] rfl (by (try simp only [List.map_toArray,List.map_cons,List.map_nil]);first|done|rfl|(simp only [List.length_drop,List.length_take];rfl)) ?_;(with_reducible refine (bitmap_Check.calls k a0_0 _ _ l0_1 _ _ l0_2 t236 _ ?side1 ?side2 ?side3 ?side4 A2.out).mono ?_);(case side1=>exact cV (Kd.C_below HR0_1.out HB.out));(case side2=>exact HC0_1.out);(case side3=>exact cV (Kd.C_below HR0_2.out HB.out));(case side4=>exact HC0_2.out);rintro e w7 ⟨rfl,hb⟩;refine ⟨_,rfl,?_⟩;have n0_:=Aside0.mk (blk_below (g:=gb235) (blkV BK235.out) hb);have n1_:=Aside0.mk (below_step (belV1 HB.out GE235.out) hb);clear BK235;clear HB;have BK235:=n0_;have HB:=n1_;clear n0_ n1_;(try clear hb);(try clear hb2);(try clear hk);(try clear hi);obtain ⟨hcz8_0,hcz8_1,hcz8_2,hfz8_0,hfz8_1,hfz8_2⟩:=bcells3 BK235.out)|((with_reducible refine gate_dst (N:=21) rfl ?_);refine Kd.R_lit (Kd.int .u8) _ 5 ?hg (N:=21) ?hd (xs:=([0,((l0_1.length:Int)) % 256]:List Int)) (inner:=[.int .u8 0,.int .u8 (((l0_1.length:Int)) % 256)]) (ok:=fun _=>True) (okp:=fun _=>True) ?hr ?hp (fun _ hk=>hk) trivial (Below.refl _ _) (Nat.le_refl _) (by simp) ?_;(case hd=>rfl);(case hg=>rfl);(case hr=>first|(go_simp;done)|(go_simp;rfl));(case hp=>exact (Reps.one (show Kd.M (Kd.int .u8) _ _ _ 0 [.int .u8 0] from rfl) (Reps.one (show Kd.M (Kd.int .u8) _ _ _ (((l0_1.length:Int)) % 256) [.int .u8 (((l0_1.length:Int)) % 256)] from rfl) (Reps.none _ _))));intro v238 w9 ho10 hb hg_ hnew_;clear hg_ hnew_;(first|rw [← Ny237.out] at ho10|(simp only [Int.reduceToNat] at ho10;rw [← Ny237.out] at ho10));have n0_:=Aside0.mk (Kd.R_lower ho10 (below_size (belV1 HB.out GE235.out)));have n1_:=Aside0.mk (blk_below (g:=gb235) (blkV BK235.out) hb);have n2_:=Aside0.mk (below_step (belV1 HB.out GE235.out) hb);clear BK235;clear HB;have HO239:=n0_;have BK235:=n1_;have HB:=n2_;clear n0_ n1_ n2_;clear hb ho10;obtain ⟨hcz11_0,hcz11_1,hcz11_2,hfz11_0,hfz11_1,hfz11_2⟩:=bcells3 BK235.out))
   (try simp only [Act.put,List.setIfInBounds_toArray,List.set_cons_zero,List.set_cons_succ])
   go_cut [] (fun wc=>∃ (kq:Nat) (x5_3:List Int),Aside0 (bitmap_Encode.j0 kq x5_3 a0_0 l0_1 l0_2=some (r1,r2))∧Aside0 (kq≤k)∧Aside0 (Kd.R (Kd.int .u8) 5 wc w.heap.size (fun _=>True) v238 x5_3)∧Aside0 (wc.heap[gb235]?=some (.cells #[.bool a0_0,(.slice A0_1 l0_1.length c0_1),(.slice A0_2 l0_2.length c0_2)] 51 (0,0)))∧Aside0 (Below w.heap.size w wc))
   case first =>
    have H:=HC4.out;clear HC4
    by_cases c12:a0_0=true
    · subst c12
      have H1:(if 0 < (y237.length:Int) then (bitmap_Encode.j0 k (y237.set (0:Int).toNat 1) true l0_1 l0_2) else (none))=some (r1,r2):=by rw [if_pos rfl] at H;exact H
      clear H
      have H:=H1;clear H1
      by_cases c13:0 < (y237.length:Int)
      · rw [if_pos c13] at H
        have c13b0:decide (0 < (y237.length:Int))=true:=decide_eq_true c13
        have c13b1:decide (0 < y237.length)=true:=decide_eq_true (by omega);clear c13
        (first|rw [c13b0]|(simp only [i64_w,i32_w];rw [c13b0])|rw [c13b1]|skip)
        obtain ⟨y240,hy240⟩:∃ y_:List Int,y_=(y237.set (0:Int).toNat 1):=⟨_,rfl⟩
        replace H:(bitmap_Encode.j0 k y240 true l0_1 l0_2)=some (r1,r2):=by first|(rw [hy240];with_reducible exact H)|(have H2_:=(Option.bind_some _ _).symm.trans H;rw [hy240];with_reducible exact H2_)|(have H2_:=(Option.bind_some _ _).symm.trans H;with_reducible exact H2_)|with_reducible exact H|(rw [hy240];exact H)|exact H
        have Ny240:=Aside0.mk hy240;clear hy240
        have H':=Aside0.mk H;clear H
        have p14:0≤(0:Int):=(by omega)
        have q14:(0:Int) < ((y237.length:Int):Int):=of_decide_eq_true asV
        have qi14:(0 < y237.length)=True:=eq_true (by omega)
        obtain ⟨go14,co14,eo14,gb14,gl14,cl14,HG14⟩:=Kd.R_form HO239.out (by omega)
        (first|cases eo14|(injection eo14 with ea_ en_ ec_;(first|subst ea_|(injection ea_ with ea_;subst ea_));subst ec_;clear en_))
        have GB14:=Aside0.mk gb14
        have GG14:=Aside0.mk HG14;clear gb14 gl14 HG14
        obtain ⟨hx14_0,hf14_0⟩:=Kd.R_celln 0 HO239.out (0:Int) p14 q14
        (try rw [show ((0:Int)).toNat=0 from rfl] at hx14_0)
        (try simp only [Nat.reduceMul,Nat.zero_mul,Nat.zero_add,Nat.reduceAdd] at hx14_0)
        (try rw [show ((0:Int)).toNat=0 from rfl] at hf14_0)
        (try simp only [Nat.reduceMul,Nat.zero_mul,Nat.zero_add,Nat.reduceAdd] at hf14_0)
        replace p14:=eq_true p14
        replace q14:=eq_true q14
        have HP15:=Kd.R_putg HO239.out (0:Int) 1
        go_wp2_with (first|((with_reducible refine gate_store (t:=5) (p:=25) rfl ?_);refine store_event (t:=5) (p:=25) (v:=?vo_w16) (w1:=(w9.setCell ⟨go14,(0:Int).toNat,none⟩ (.int .u8 1))) ?hg ?ho ?hn ?hr ?_;(case ho=>rfl);(case hg=>rfl);(case hn=>rfl);(case hr=>first|(go_simp;done)|(go_simp;rfl));intro w16 hw;have hg:w9.grownBy w16 (some go14):=(by rw [hw];exact HP15.2);have hp_:Kd.R (Kd.int .u8) 5 w16 w.heap.size (fun _=>True) (.slice (some ⟨go14,0,none⟩) y237.length co14) y240:=(by rw [hw,Ny240.out];exact HP15.1);clear HP15;have n0_:=Aside0.mk (blk_grown (g:=gb235) (blkV BK235.out) hg (Kd.R_ne HO239.out BK235.out (by decide)));have n1_:=Aside0.mk (hp_);have n2_:=Aside0.mk ((by rw [hw];exact below_set (HB.out) GB14.out:Below w.heap.size w w16));clear BK235;clear HO239;clear HB;have BK235:=n0_;have HO239:=n1_;have HB:=n2_;clear n0_ n1_ n2_;clear hg hw hp_))
        go_meet
        case rel=>exact ⟨_,(y240),H',⟨by first|omega|exact Nat.le_refl _⟩,⟨rowV HO239.out⟩,⟨blkV BK235.out⟩,⟨belV1 HB.out GE235.out⟩⟩
      rw [if_neg c13] at H
      exact absurd H (by simp)
    replace c12:=Bool.eq_false_iff.mpr c12;subst c12
    have H1:(bitmap_Encode.j0 k y237 false l0_1 l0_2)=some (r1,r2):=by rw [if_neg (show ¬ (false=true) by decide)] at H;exact H
    clear H
    have H:=H1;clear H1
    have H':=Aside0.mk H;clear H
    go_wp2
    go_meet
    case rel=>exact ⟨_,(y237),H',⟨by first|omega|exact Nat.le_refl _⟩,⟨rowV HO239.out⟩,⟨blkV BK235.out⟩,⟨belV1 HB.out GE235.out⟩⟩
   case rest =>
    clear HC4
    try clear c1;try clear p1;try clear q1;try clear hx1;try clear qi1;try clear hf1;try clear p2;try clear c3;try clear c3b0;try clear c3b1;try clear c12;try clear c13;try clear c13b0;try clear c13b1;try clear p14 p14;try clear q14 q14;try clear hx14;try clear qi14;try clear hf14;try clear hcz11_0 hcz11_1 hcz11_2;try clear hcz6_0 hcz6_1 hcz6_2;try clear hcz8_0 hcz8_1 hcz8_2;try clear hfz11_0 hfz11_1 hfz11_2;try clear hfz6_0 hfz6_1 hfz6_2;try clear hfz8_0 hfz8_1 hfz8_2;try clear hx14_0
    obtain ⟨kq,x5_3,HA,HJ3,HO_5,BK235,HB⟩:=hcut
    cases kq with
    | zero=>exact absurd HA.out (by simp [bitmap_Encode.j0])
    | succ kj3 =>
     have H:=HA.out;clear HA
     simp only [bitmap_Encode.j0] at H
     have H':=Aside0.mk H;clear H
     obtain ⟨hcz17_0,hcz17_1,hcz17_2,hfz17_0,hfz17_1,hfz17_2⟩:=bcells3 BK235.out
     go_wp2
     go_loopg [5,29] kj3 (fun kq v5 v29 w'=>∃ (x5_2:List Int) (x29_2:Int),v29=.int .i64 x29_2∧Aside0 (bitmap_Encode.l0 kq x5_2 l0_1 (l0_1.length:Int) x29_2 a0_0 l0_1 l0_2=some (r1,r2))∧Aside0 (kq≤kj3)∧Aside0 (Kd.R (Kd.int .u8) 5 w' w.heap.size (fun _=>True) v5 x5_2)∧Aside0 (w'.heap[gb235]?=some (.cells #[.bool a0_0,(.slice A0_1 l0_1.length c0_1),(.slice A0_2 l0_2.length c0_2)] 51 (0,0)))∧Aside0 (Below w.heap.size w w'))
     case atStart=>exact ⟨(x5_3),(0),okV,H',⟨Nat.le_refl _⟩,⟨rowV HO_5.out⟩,⟨blkV BK235.out⟩,⟨belV1 HB.out GE235.out⟩⟩
     case round =>
      clear H'
      try clear c1;try clear p1 p1;try clear q1 q1;try clear hx1;try clear qi1;try clear hf1;try clear p2 p2;try clear c3;try clear c3b0;try clear c3b1;try clear c12;try clear c13;try clear c13b0;try clear c13b1;try clear p14 p14;try clear q14 q14;try clear hx14;try clear qi14;try clear hf14;try clear hcz11_0 hcz11_1 hcz11_2;try clear hcz17_0 hcz17_1 hcz17_2;try clear hcz6_0 hcz6_1 hcz6_2;try clear hcz8_0 hcz8_1 hcz8_2;try clear hfz11_0 hfz11_1 hfz11_2;try clear hfz17_0 hfz17_1 hfz17_2;try clear hfz6_0 hfz6_1 hfz6_2;try clear hfz8_0 hfz8_1 hfz8_2;try clear hx14_0
      obtain ⟨x5_2,x29_2,rfl,HA,HK2,HO_5,BK235,HB⟩:=hrel
      cases gk with
      | zero=>exact absurd HA.out (by simp [bitmap_Encode.l0])
      | succ k2 =>
       have H:=HA.out;clear HA
       simp only [bitmap_Encode.l0] at H
       by_cases c18:x29_2 < (l0_1.length:Int)
       · rw [if_pos c18] at H
         have c18b0:decide (x29_2 < (l0_1.length:Int))=true:=decide_eq_true c18;clear c18
         by_cases c19:0≤x29_2
         · rw [if_pos c19] at H
           have c19b0:decide (0≤x29_2)=true:=decide_eq_true c19;clear c19
           by_cases c20:x29_2 < (l0_1.length:Int)
           · rw [if_pos c20] at H
             have c20b0:decide (x29_2 < (l0_1.length:Int))=true:=decide_eq_true c20;clear c20
             replace H:=Option.bind_eq_some_iff.mp H
             obtain ⟨t242,A210,H⟩:=H
             replace H:(bitmap_Encode.l0 k2 t242 l0_1 (l0_1.length:Int) (wrap64 (x29_2+1)) a0_0 l0_1 l0_2)=some (r1,r2):=H
             have A21:=Aside0.mk A210;clear A210
             have H':=Aside0.mk H;clear H
             have p241:0≤(x29_2:Int):=of_decide_eq_true asV
             have q241:x29_2 < (l0_1.length:Int):=of_decide_eq_true asV
             obtain ⟨ad241,e241,hx241_0⟩:=Kd.at_int HR0_1.out x29_2 p241 q241
             cases e241
             replace hx241_0:=(HB.out.cell (World.block_lt_of_cell? w _ hx241_0)).trans hx241_0
             replace p241:=eq_true p241
             replace q241:=eq_true q241
             obtain ⟨Ao22,co22,eo22⟩:=Kd.R_slice HO_5.out;subst eo22
             go_wp2_with (first|((with_reducible refine gate_callee (f:=69) rfl ?_);refine goesL_ (some 35) rfl rfl Try.func69 (by kernel_rfl) rfl #[.slice Ao22 x5_2.length co22,.int .i64 (rd l0_1 x29_2),.int .i64 3] rfl (by (try simp only [List.map_toArray,List.map_cons,List.map_nil]);first|done|rfl|(simp only [List.length_drop,List.length_take];rfl)) ?_;(with_reducible refine (bitmap_number.calls k2 (fun k_=>some k_=(.slice Ao22 x5_2.length co22:Value).ownBlock) (.slice Ao22 x5_2.length co22) x5_2 (rd l0_1 x29_2) 3 t242 w _ ?side1 ?side2 A21.out).mono ?_);(case side1=>exact belV1 HB.out GE235.out);(case side2=>exact Kd.R_tight rfl HO_5.out);rintro e w23 ⟨v243,rfl,ho0,hb,hkp⟩;refine ⟨_,rfl,?_⟩;have n0_:=Aside0.mk (blk_kept (blkV BK235.out) hkp (fun hs_=>(fun e_=>(Kd.R_ne HO_5.out BK235.out (by decide)) e_) hs_));have n1_:=Aside0.mk (Kd.R_mono (ok':=fun k_=>True) ho0 (fun k_ hk_=>trivial));have n2_:=Aside0.mk (hb);clear BK235;clear HB;clear HO_5;have BK235:=n0_;have HO244:=n1_;have HB:=n2_;clear n0_ n1_ n2_;(try clear hb);(try clear hkp);(try clear ho0)))
             go_roundg k2
             case measure=>have:=HJ3.out;have:=HK2.out;omega
             case rel=>exact ⟨(t242),(wrap64 (x29_2+1)),okV,H',⟨by have:=HJ3.out;have:=HK2.out;omega⟩,⟨rowV HO244.out⟩,⟨blkV BK235.out⟩,⟨belV1 HB.out GE235.out⟩⟩
           rw [if_neg c20] at H
           exact absurd H (by simp)
         rw [if_neg c19] at H
         exact absurd H (by simp)
       rw [if_neg c18] at H
       have c18b0:decide (x29_2 < (l0_1.length:Int))=false:=decide_eq_false c18;clear c18
       by_cases c24:x5_2.length < 140737488355328
       · rw [if_pos c24] at H
         have LMc24:=Aside0.mk c24;clear c24
         obtain ⟨y245,hy245⟩:∃ y_:List Int,y_=(x5_2 ++ [((l0_2.length:Int)) % 256]):=⟨_,rfl⟩
         replace H:(bitmap_Encode.l1 k2 y245 l0_2 (l0_2.length:Int) 0)=some (r1,r2):=by first|(rw [hy245];with_reducible exact H)|(have H2_:=(Option.bind_some _ _).symm.trans H;rw [hy245];with_reducible exact H2_)|(have H2_:=(Option.bind_some _ _).symm.trans H;with_reducible exact H2_)|with_reducible exact H|(rw [hy245];exact H)|exact H
         have Ny245:=Aside0.mk hy245;clear hy245
         have H':=Aside0.mk H;clear H
         obtain ⟨hcz25_0,hcz25_1,hcz25_2,hfz25_0,hfz25_1,hfz25_2⟩:=bcells3 BK235.out
         go_wp2_with (first|((with_reducible refine gate_builtin (b:=.append) (xs:=#[.tmp 37,.tmp 42]) rfl ?_);at_builtin;refine Kd.R_append (Kd.int .u8) (w0:=w) w.heap.size rfl (.tmp 37) (.tmp 42) 23 5 (.int .u8 0) 1 rfl Try.underlying23 info5 rfl (by decide) (by omega) u5 x5_2 (((l0_2.length:Int)) % 256) [.int .u8 (((l0_2.length:Int)) % 256)] (fun _=>True) (fun _=>False) rfl rfl ?aP (fun _ hk=>hk.elim) ?aF ?aO ?aB ?aS ?aL ?_;(case aP=>exact rfl);(case aB=>exact (belV1 HB.out GE235.out));(case aF=>exact (fun _ _=>trivial));(case aO=>exact (rowV HO_5.out));(case aS=>exact (below_size (belV1 HB.out GE235.out)));(case aL=>have:=LMc24.out;omega);intro v246 w26 ho hb hg hat;rw [← Ny245.out] at ho;have n0_:=Aside0.mk (blk_grown (g:=gb235) (blkV BK235.out) hg (Kd.R_ne HO_5.out BK235.out (by decide)));have n1_:=Aside0.mk (hb);have n2_:=Aside0.mk (ho);clear BK235;clear HB;clear HO_5;have BK235:=n0_;have HB:=n1_;have HO247:=n2_;clear n0_ n1_ n2_;clear ho hb hg hat;obtain ⟨hcz27_0,hcz27_1,hcz27_2,hfz27_0,hfz27_1,hfz27_2⟩:=bcells3 BK235.out))
         go_loopg [5,47] k2 (fun kq v5 v47 w'=>∃ (x5_3:List Int) (x47_3:Int),v47=.int .i64 x47_3∧Aside0 (bitmap_Encode.l1 kq x5_3 l0_2 (l0_2.length:Int) x47_3=some (r1,r2))∧Aside0 (kq≤k2)∧Aside0 (Kd.R (Kd.int .u8) 5 w' w.heap.size (fun _=>True) v5 x5_3)∧Aside0 (w'.heap[gb235]?=some (.cells #[.bool a0_0,(.slice A0_1 l0_1.length c0_1),(.slice A0_2 l0_2.length c0_2)] 51 (0,0)))∧Aside0 (Below w.heap.size w w'))
         case atStart=>exact ⟨(y245),(0),okV,H',⟨Nat.le_refl _⟩,⟨rowV HO247.out⟩,⟨blkV BK235.out⟩,⟨belV1 HB.out GE235.out⟩⟩
         case round =>
          clear H'
          try clear c1;try clear p1 p1;try clear q1 q1;try clear hx1;try clear qi1;try clear hf1;try clear c2;try clear p2 p2;try clear q2;try clear hx2;try clear c3;try clear c3b0;try clear c3b1;try clear c6;try clear p6;try clear c12;try clear c13;try clear c13b0;try clear c13b1;try clear p14 p14;try clear q14 q14;try clear hx14;try clear qi14;try clear hf14;try clear c18;try clear c18b0;try clear c19;try clear c19b0;try clear c20;try clear c20b0;try clear c24;try clear p24;try clear q24;try clear hx24;try clear hcz11_0 hcz11_1 hcz11_2;try clear hcz17_0 hcz17_1 hcz17_2;try clear hcz25_0 hcz25_1 hcz25_2;try clear hcz27_0 hcz27_1 hcz27_2;try clear hcz6_0 hcz6_1 hcz6_2;try clear hcz8_0 hcz8_1 hcz8_2;try clear hfz11_0 hfz11_1 hfz11_2;try clear hfz17_0 hfz17_1 hfz17_2;try clear hfz25_0 hfz25_1 hfz25_2;try clear hfz27_0 hfz27_1 hfz27_2;try clear hfz6_0 hfz6_1 hfz6_2;try clear hfz8_0 hfz8_1 hfz8_2;try clear hx14_0;try clear hx241_0;try clear p241;try clear q241
          obtain ⟨x5_3,x47_3,rfl,HA,HK3,HO_5,BK235,HB⟩:=hrel
          cases gk with
          | zero=>exact absurd HA.out (by simp [bitmap_Encode.l1])
          | succ k3 =>
           have H:=HA.out;clear HA
           simp only [bitmap_Encode.l1] at H
           by_cases c28:x47_3 < (l0_2.length:Int)
           · rw [if_pos c28] at H
             have c28b0:decide (x47_3 < (l0_2.length:Int))=true:=decide_eq_true c28;clear c28
             by_cases c29:0≤x47_3
             · rw [if_pos c29] at H
               have c29b0:decide (0≤x47_3)=true:=decide_eq_true c29;clear c29
               by_cases c30:x47_3 < (l0_2.length:Int)
               · rw [if_pos c30] at H
                 have c30b0:decide (x47_3 < (l0_2.length:Int))=true:=decide_eq_true c30;clear c30
                 replace H:=Option.bind_eq_some_iff.mp H
                 obtain ⟨⟨t254,t257⟩,A310,H⟩:=H
                 replace H:((bitmap_number.f k3 x5_3 ((rd_T91 l0_2 x47_3).f0) 2).bind fun t258=>((bitmap_number.f k3 t258 ((rd_T91 l0_2 x47_3).f1) 2).bind fun t261=>((some (([((rd_T91 l0_2 x47_3).f2) % 256,((rd_T91 l0_2 x47_3).f3) % 256]:List Int):List Int)).bind fun y264=>(if t261.length+y264.length < 140737488355328 then ((bitmap_number.f k3 (t261 ++ y264) (t254.length:Int) 2).bind fun t270=>(if t270.length+t254.length < 140737488355328 then (bitmap_Encode.l1 k3 (t270 ++ t254) l0_2 (l0_2.length:Int) (wrap64 (x47_3+1))) else (none))) else (none)))))=some (r1,r2):=H
                 have A31:=Aside0.mk A310;clear A310
                 replace H:=Option.bind_eq_some_iff.mp H
                 obtain ⟨t258,A320,H⟩:=H
                 replace H:((bitmap_number.f k3 t258 ((rd_T91 l0_2 x47_3).f1) 2).bind fun t261=>((some (([((rd_T91 l0_2 x47_3).f2) % 256,((rd_T91 l0_2 x47_3).f3) % 256]:List Int):List Int)).bind fun y264=>(if t261.length+y264.length < 140737488355328 then ((bitmap_number.f k3 (t261 ++ y264) (t254.length:Int) 2).bind fun t270=>(if t270.length+t254.length < 140737488355328 then (bitmap_Encode.l1 k3 (t270 ++ t254) l0_2 (l0_2.length:Int) (wrap64 (x47_3+1))) else (none))) else (none))))=some (r1,r2):=H
                 have A32:=Aside0.mk A320;clear A320
                 replace H:=Option.bind_eq_some_iff.mp H
                 obtain ⟨t261,A330,H⟩:=H
                 replace H:((some (([((rd_T91 l0_2 x47_3).f2) % 256,((rd_T91 l0_2 x47_3).f3) % 256]:List Int):List Int)).bind fun y264=>(if t261.length+y264.length < 140737488355328 then ((bitmap_number.f k3 (t261 ++ y264) (t254.length:Int) 2).bind fun t270=>(if t270.length+t254.length < 140737488355328 then (bitmap_Encode.l1 k3 (t270 ++ t254) l0_2 (l0_2.length:Int) (wrap64 (x47_3+1))) else (none))) else (none)))=some (r1,r2):=H
                 have A33:=Aside0.mk A330;clear A330
                 obtain ⟨y264,hy264⟩:∃ y_:List Int,y_=(([((rd_T91 l0_2 x47_3).f2) % 256,((rd_T91 l0_2 x47_3).f3) % 256]:List Int)):=⟨_,rfl⟩
                 replace H:(if t261.length+y264.length < 140737488355328 then ((bitmap_number.f k3 (t261 ++ y264) (t254.length:Int) 2).bind fun t270=>(if t270.length+t254.length < 140737488355328 then (bitmap_Encode.l1 k3 (t270 ++ t254) l0_2 (l0_2.length:Int) (wrap64 (x47_3+1))) else (none))) else (none))=some (r1,r2):=by first|(rw [hy264];with_reducible exact H)|(have H2_:=(Option.bind_some _ _).symm.trans H;rw [hy264];with_reducible exact H2_)|(have H2_:=(Option.bind_some _ _).symm.trans H;with_reducible exact H2_)|with_reducible exact H|(rw [hy264];exact H)|exact H
                 have Ny264:=Aside0.mk hy264;clear hy264
                 by_cases c34:t261.length+y264.length < 140737488355328
                 · rw [if_pos c34] at H
                   have LMc34:=Aside0.mk c34;clear c34
                   obtain ⟨y267,hy267⟩:∃ y_:List Int,y_=(t261 ++ y264):=⟨_,rfl⟩
                   replace H:((bitmap_number.f k3 y267 (t254.length:Int) 2).bind fun t270=>(if t270.length+t254.length < 140737488355328 then (bitmap_Encode.l1 k3 (t270 ++ t254) l0_2 (l0_2.length:Int) (wrap64 (x47_3+1))) else (none)))=some (r1,r2):=by first|(rw [hy267];with_reducible exact H)|(have H2_:=(Option.bind_some _ _).symm.trans H;rw [hy267];with_reducible exact H2_)|(have H2_:=(Option.bind_some _ _).symm.trans H;with_reducible exact H2_)|with_reducible exact H|(rw [hy267];exact H)|exact H
                   have Ny267:=Aside0.mk hy267;clear hy267
                   replace H:=Option.bind_eq_some_iff.mp H
                   obtain ⟨t270,A350,H⟩:=H
                   replace H:(if t270.length+t254.length < 140737488355328 then (bitmap_Encode.l1 k3 (t270 ++ t254) l0_2 (l0_2.length:Int) (wrap64 (x47_3+1))) else (none))=some (r1,r2):=H
                   have A35:=Aside0.mk A350;clear A350
                   by_cases c36:t270.length+t254.length < 140737488355328
                   · rw [if_pos c36] at H
                     have LMc36:=Aside0.mk c36;clear c36
                     obtain ⟨y273,hy273⟩:∃ y_:List Int,y_=(t270 ++ t254):=⟨_,rfl⟩
                     replace H:(bitmap_Encode.l1 k3 y273 l0_2 (l0_2.length:Int) (wrap64 (x47_3+1)))=some (r1,r2):=by first|(rw [hy273];with_reducible exact H)|(have H2_:=(Option.bind_some _ _).symm.trans H;rw [hy273];with_reducible exact H2_)|(have H2_:=(Option.bind_some _ _).symm.trans H;with_reducible exact H2_)|with_reducible exact H|(rw [hy273];exact H)|exact H
                     have Ny273:=Aside0.mk hy273;clear hy273
                     have H':=Aside0.mk H;clear H
                     have p252:0≤(x47_3:Int):=of_decide_eq_true asV
                     have q252:x47_3 < (l0_2.length:Int):=of_decide_eq_true asV
                     obtain ⟨ad252,A252_4,c252_4,e252,hx252_0,hx252_1,hx252_2,hx252_3,hx252_4,hl252_4,hi252_4⟩:=at_T91 HR0_2.out x47_3 p252 q252
                     cases e252
                     replace hx252_0:=(HB.out.cell (World.block_lt_of_cell? w _ hx252_0)).trans hx252_0
                     replace hx252_1:=(HB.out.cell (World.block_lt_of_cell? w _ hx252_1)).trans hx252_1
                     replace hx252_2:=(HB.out.cell (World.block_lt_of_cell? w _ hx252_2)).trans hx252_2
                     replace hx252_3:=(HB.out.cell (World.block_lt_of_cell? w _ hx252_3)).trans hx252_3
                     replace hx252_4:=(HB.out.cell (World.block_lt_of_cell? w _ hx252_4)).trans hx252_4
                     have HR252_4:=Aside0.mk hi252_4
                     have HC252_4:=Aside0.mk hl252_4;clear hi252_4 hl252_4
                     replace p252:=eq_true p252
                     replace q252:=eq_true q252
                     try go_wp2_with (first|((with_reducible refine gate_dst (N:=9) rfl ?_);refine box_event ?hg (N:=9) ?hd (cs:=#[.int .i64 0,.int .i64 0,.int .i64 0,.int .i64 0,.slice none 0 0]) (t:=91) ?hr ?_;(case hd=>rfl);(case hg=>rfl);(case hr=>first|(go_simp;done)|(go_simp;rfl));intro gb253 hg w37 hbox hb;have n0_:=Aside0.mk (Kd.R_below (rowV HO_5.out) hb);have n1_:=Aside0.mk (blk_below (g:=gb235) (blkV BK235.out) hb);have n2_:=Aside0.mk (below_step (belV1 HB.out GE235.out) hb);have n3_:=Aside0.mk (hbox);have n4_:=Aside0.mk ((by rw [hg];exact (below_size (belV1 HB.out GE235.out)):w.heap.size≤gb253));have n5_:=Aside0.mk ((by rw [hg];exact (below_size (belV1 HB.out GE235.out)):w.heap.size≤gb253));have n6_:=Aside0.mk ((by rw [hg];exact Nat.ne_of_lt (blk_lt (g:=gb235) (blkV BK235.out)):gb235≠gb253));have n7_:=Aside0.mk ((by rw [hg];exact Nat.ne_of_gt (blk_lt (g:=gb235) (blkV BK235.out)):gb253≠gb235));clear HO_5;clear BK235;clear HB;have HO_5:=n0_;have BK235:=n1_;have HB:=n2_;have BK253:=n3_;have GW253:=n4_;have GE253:=n5_;have NB235_253:=n6_;have NB253_235:=n7_;clear n0_ n1_ n2_ n3_ n4_ n5_ n6_ n7_;clear hb hbox hg;have hnb38:=NB253_235.out;have hnc38:=NB235_253.out;obtain ⟨hcz39_0,hcz39_1,hcz39_2,hcz39_3,hcz39_4,hfz39_0,hfz39_1,hfz39_2,hfz39_3,hfz39_4⟩:=bcells5 BK253.out)|((with_reducible refine gate_store (t:=91) (p:=9) rfl ?_);refine store_event (t:=91) (p:=9) (v:=?vo_w40) (w1:=(((((w37.setCell ⟨gb253,0,none⟩ (.int .i64 ((rd_T91 l0_2 x47_3).f0))).setCell ⟨gb253,1,none⟩ (.int .i64 ((rd_T91 l0_2 x47_3).f1))).setCell ⟨gb253,2,none⟩ (.int .i64 ((rd_T91 l0_2 x47_3).f2))).setCell ⟨gb253,3,none⟩ (.int .i64 ((rd_T91 l0_2 x47_3).f3))).setCell ⟨gb253,4,none⟩ (.slice A252_4 ((rd_T91 l0_2 x47_3).f4).length c252_4))) ?hg ?ho ?hn ?hr ?_;(case ho=>rfl);(case hg=>rfl);(case hn=>rfl);(case hr=>first|(go_simp;done)|(go_simp;rfl));intro w40 hw;have n0_:Aside0 (Kd.R (Kd.int .u8) 5 w40 w.heap.size (fun _=>True) u5 x5_3):=⟨(by rw [hw];exact (by (with_reducible repeat (first|apply Kd.R_alloc|apply Kd.R_drewN|apply Kd.R_drew));exact Kd.R_mono (Kd.R_far (p:=⟨gb253,4,none⟩) (Kd.R_far (p:=⟨gb253,3,none⟩) (Kd.R_far (p:=⟨gb253,2,none⟩) (Kd.R_far (p:=⟨gb253,1,none⟩) (Kd.R_far (p:=⟨gb253,0,none⟩) (Kd.R_types HO_5.out BK253.out (by decide)) (fun _ hk=>hk.2) (.int .i64 ((rd_T91 l0_2 x47_3).f0))) (fun _ hk=>hk.2) (.int .i64 ((rd_T91 l0_2 x47_3).f1))) (fun _ hk=>hk.2) (.int .i64 ((rd_T91 l0_2 x47_3).f2))) (fun _ hk=>hk.2) (.int .i64 ((rd_T91 l0_2 x47_3).f3))) (fun _ hk=>hk.2) (.slice A252_4 ((rd_T91 l0_2 x47_3).f4).length c252_4)) (fun _ hk=>trivial)))⟩;have n1_:Aside0 (w40.heap[gb235]?=some (.cells #[.bool a0_0,.slice A0_1 l0_1.length c0_1,.slice (some ad252) l0_2.length c0_2] 51 (0,0))):=⟨(by rw [hw];exact (blkW BK235.out NB235_253.out))⟩;have n2_:Aside0 (w40.heap[gb253]?=some (.cells #[.int .i64 ((rd_T91 l0_2 x47_3).f0),.int .i64 ((rd_T91 l0_2 x47_3).f1),.int .i64 ((rd_T91 l0_2 x47_3).f2),.int .i64 ((rd_T91 l0_2 x47_3).f3),.slice A252_4 ((rd_T91 l0_2 x47_3).f4).length c252_4] 91 (0,0))):=⟨(by rw [hw];exact (by (with_reducible repeat (first|refine blk_drewN ?_ _|refine blk_drew ?_|refine blk_alloc ?_ _));refine blk_put (cs:=#[.int .i64 ((rd_T91 l0_2 x47_3).f0),.int .i64 ((rd_T91 l0_2 x47_3).f1),.int .i64 ((rd_T91 l0_2 x47_3).f2),.int .i64 ((rd_T91 l0_2 x47_3).f3),.slice none 0 0]) ?_ 4 _ rfl;(with_reducible repeat (first|refine blk_drewN ?_ _|refine blk_drew ?_|refine blk_alloc ?_ _));refine blk_put (cs:=#[.int .i64 ((rd_T91 l0_2 x47_3).f0),.int .i64 ((rd_T91 l0_2 x47_3).f1),.int .i64 ((rd_T91 l0_2 x47_3).f2),.int .i64 0,.slice none 0 0]) ?_ 3 _ rfl;(with_reducible repeat (first|refine blk_drewN ?_ _|refine blk_drew ?_|refine blk_alloc ?_ _));refine blk_put (cs:=#[.int .i64 ((rd_T91 l0_2 x47_3).f0),.int .i64 ((rd_T91 l0_2 x47_3).f1),.int .i64 0,.int .i64 0,.slice none 0 0]) ?_ 2 _ rfl;(with_reducible repeat (first|refine blk_drewN ?_ _|refine blk_drew ?_|refine blk_alloc ?_ _));refine blk_put (cs:=#[.int .i64 ((rd_T91 l0_2 x47_3).f0),.int .i64 0,.int .i64 0,.int .i64 0,.slice none 0 0]) ?_ 1 _ rfl;(with_reducible repeat (first|refine blk_drewN ?_ _|refine blk_drew ?_|refine blk_alloc ?_ _));refine blk_put (cs:=#[.int .i64 0,.int .i64 0,.int .i64 0,.int .i64 0,.slice none 0 0]) ?_ 0 _ rfl;(with_reducible repeat (first|refine blk_drewN ?_ _|refine blk_drew ?_|refine blk_alloc ?_ _));exact BK253.out))⟩;have n3_:Aside0 (Below w.heap.size w w40):=⟨(by rw [hw];exact (belV2 HB.out GE235.out GE253.out))⟩;clear hw;clear HO_5;clear BK235;clear BK253;clear HB;have HO_5:=n0_;have BK235:=n1_;have BK253:=n2_;have HB:=n3_;clear n0_ n1_ n2_ n3_;obtain ⟨hcz41_0,hcz41_1,hcz41_2,hcz41_3,hcz41_4,hfz41_0,hfz41_1,hfz41_2,hfz41_3,hfz41_4⟩:=bcells5 BK253.out)|((with_reducible refine gate_callee (f:=11) rfl ?_);refine goesL_ (some 56) rfl rfl Try.func11 (by kernel_rfl) rfl #[.slice A252_4 ((rd_T91 l0_2 x47_3).f4).length c252_4,.int .i64 ((rd_T91 l0_2 x47_3).f2)] rfl (by (try simp only [List.map_toArray,List.map_cons,List.map_nil]);first|done|rfl|(simp only [List.length_drop,List.length_take];rfl)) ?_;(with_reducible refine (bitmap_Runs.calls k3 (fun k_=>k_ < w.heap.size) _ _ ((rd_T91 l0_2 x47_3).f4) ((rd_T91 l0_2 x47_3).f2) t254 t257 _ ?side1 A31.out).mono ?_);(case side1=>exact Kd.V_mk HC252_4.out (Kd.F_below (Kd.C_F (Kd.heap_int .i64) HR252_4.out) (belV2 HB.out GE235.out GE253.out)));rintro e w42 ⟨v255,rfl,ho0,hb⟩;refine ⟨_,rfl,?_⟩;have n0_:=Aside0.mk (Kd.R_elder' (rowV HO_5.out) (Kd.R_base ho0) hb);have n1_:=Aside0.mk (Kd.R_lower (Kd.R_new' (Kd.R_mono (ok':=fun k_=>True) ho0 (fun _ hk_=>trivial)) (Kd.R_lt (rowV HO_5.out))) (below_size (belV2 HB.out GE235.out GE253.out)));have n2_:=Aside0.mk (blk_below (g:=gb235) (blkV BK235.out) hb);have n3_:=Aside0.mk (blk_below (g:=gb253) (blkV BK253.out) hb);have n4_:=Aside0.mk (below_step (belV2 HB.out GE235.out GE253.out) hb);clear HO_5;clear BK235;clear BK253;clear HB;have HO_5:=n0_;have HO256:=n1_;have BK235:=n2_;have BK253:=n3_;have HB:=n4_;clear n0_ n1_ n2_ n3_ n4_;(try clear hb);(try clear hb2);(try clear hk);(try clear hi);(try clear ho0)))
                     have n0_:=Aside0.mk (Kd.R_drew HO_5.out)
                     have n1_:=Aside0.mk (Kd.R_drew HO256.out)
                     have n2_:=Aside0.mk (blk_drew BK235.out)
                     have n3_:=Aside0.mk (blk_drew BK253.out)
                     have n4_:=Aside0.mk (below_drew1 HB.out);clear HO_5;clear HO256;clear BK235;clear BK253;clear HB;have HO_5:=n0_;have HO256:=n1_;have BK235:=n2_;have BK253:=n3_;have HB:=n4_;clear n0_ n1_ n2_ n3_ n4_
                     obtain ⟨Ao44,co44,eo44⟩:=Kd.R_slice HO_5.out
                     (first|subst eo44|(injection eo44 with f1_ f2_ f3_;have f4_:=f1_.symm;have f5_:=f3_.symm;clear f1_ f2_ f3_;subst f4_;subst f5_))
                     refine start_ (n:=8) (S:=fun w'=>w'.cell? ⟨gb253,0,none⟩=some (.int .i64 ((rd_T91 l0_2 x47_3).f0))∧w'.cell? ⟨gb253,1,none⟩=some (.int .i64 ((rd_T91 l0_2 x47_3).f1))∧w'.cell? ⟨gb253,2,none⟩=some (.int .i64 ((rd_T91 l0_2 x47_3).f2))∧w'.cell? ⟨gb253,3,none⟩=some (.int .i64 ((rd_T91 l0_2 x47_3).f3))∧w'.cell? ⟨gb253,4,none⟩=some (.slice A252_4 ((rd_T91 l0_2 x47_3).f4).length c252_4)) (ds:=[]) ((bm false [8]).toArray) (by kernel_rfl) rfl rfl ⟨(blk_cell BK253.out 0).trans rfl,(blk_cell BK253.out 1).trans rfl,(blk_cell BK253.out 2).trans rfl,(blk_cell BK253.out 3).trans rfl,(blk_cell BK253.out 4).trans rfl⟩ (fun hHeld=>?_);refine with_tabW bitmap_Encode.tab17 bitmap_Encode.bits17 (fun HT_ HW_=>?_)
                     generalize w42.drew=w43 at HO_5 HO256 BK235 BK253 HB hHeld ⊢
                     refine pure_ (i:=0) (N:=some 59) (v:=?_) (a':=?_) ((bm true [1,7]).toArray) rfl rfl (any_of HT_.out (by kernel_rfl)) (fun _ _ _ h=>h) (Or.inl ⟨by rfl,?_⟩) ?_ ?_;rotate_left
                     · intro w';go_simp;with_reducible rfl
                     rotate_left
                     · simp only [Act.put,List.setIfInBounds_toArray,List.set_cons_zero,List.set_cons_succ,i64_w,i32_w];rfl
                     refine pure_ (i:=1) (N:=some 60) (v:=?_) (a':=?_) ((bm true [2,6]).toArray) rfl rfl (any_of HT_.out (by kernel_rfl)) (fun _ _ _ h=>h) (Or.inl ⟨by rfl,?_⟩) ?_ ?_;rotate_left
                     · intro w';go_simp;with_reducible rfl
                     rotate_left
                     · simp only [Act.put,List.setIfInBounds_toArray,List.set_cons_zero,List.set_cons_succ,i64_w,i32_w];rfl
                     refine pure_ (i:=4) (N:=some 63) (v:=?_) (a':=?_) ((bm true [2,2,1,3]).toArray) rfl rfl (any_of HT_.out (by kernel_rfl)) (fun _ _ _ h=>h) (Or.inl ⟨by rfl,?_⟩) ?_ ?_;rotate_left
                     · intro w';go_simp;with_reducible rfl
                     rotate_left
                     · simp only [Act.put,List.setIfInBounds_toArray,List.set_cons_zero,List.set_cons_succ,i64_w,i32_w];rfl
                     refine take_ (i:=2) (N:=some 61) (v:=?_) (a':=?_) ((bm true [3,1,1,3]).toArray) rfl rfl (take_ofW HT_.out HW_.out (by kernel_rfl)) (fun _ _ _ h=>h) (Or.inl ⟨by rfl,?_⟩) hHeld ?_ ?_;rotate_left
                     · rintro w' ⟨s0,s1,s2,s3,s4⟩
                       go_simp;with_reducible rfl
                     rotate_left
                     · simp only [Act.put,List.setIfInBounds_toArray,List.set_cons_zero,List.set_cons_succ,i64_w,i32_w];rfl
                     refine take_ (i:=5) (N:=some 64) (v:=?_) (a':=?_) ((bm true [3,1,2,2]).toArray) rfl rfl (take_ofW HT_.out HW_.out (by kernel_rfl)) (fun _ _ _ h=>h) (Or.inl ⟨by rfl,?_⟩) hHeld ?_ ?_;rotate_left
                     · rintro w' ⟨s0,s1,s2,s3,s4⟩
                       go_simp;with_reducible rfl
                     rotate_left
                     · simp only [Act.put,List.setIfInBounds_toArray,List.set_cons_zero,List.set_cons_succ,i64_w,i32_w];rfl
                     refine one_ (i:=3) (N:=some 62) ((bm true [6,2]).toArray) rfl rfl (one_of HT_.out (by kernel_rfl)) (by decide) (fun K hK=>?_)
                     refine goes_ Try.func69 (by kernel_rfl) rfl #[.slice Ao44 x5_3.length co44,.int .i64 ((rd_T91 l0_2 x47_3).f0),.int .i64 2] (by rfl) rfl rfl (by (try simp only [List.map_toArray,List.map_cons,List.map_nil]);first|done|rfl|(simp only [List.length_drop,List.length_take];rfl)) ?_
                     with_reducible refine (bitmap_number.calls k3 (fun k_=>some k_=(.slice Ao44 x5_3.length co44:Value).ownBlock) (.slice Ao44 x5_3.length co44) x5_3 ((rd_T91 l0_2 x47_3).f0) 2 t258 w _ ?side1 ?side2 A32.out).mono ?_
                     (case side1=>exact belV2 HB.out GE235.out GE253.out)
                     (case side2=>exact Kd.R_tight rfl HO_5.out)
                     rintro e w45 ⟨v259,rfl,ho0,hb,hkp⟩
                     refine ⟨_,rfl,?_⟩
                     have n0_:=Aside0.mk (blk_kept (blkV BK235.out) hkp (fun hs_=>(fun e_=>(Kd.R_ne HO_5.out BK235.out (by decide)) e_) hs_))
                     have n1_:=Aside0.mk (blk_kept (blkV BK253.out) hkp (fun hs_=>(fun e_=>(Kd.R_ne HO_5.out BK253.out (by decide)) e_) hs_))
                     have n2_:=Aside0.mk (Kd.R_mono (ok':=fun k_=>some k_≠(v259:Value).ownBlock) (Kd.R_keptB (HO256.out) hkp (fun k_ hk_ hs_=>(hk_.2) hs_)) (fun k_ hk_=>fun e_=>Or.elim (ho0.1 k_ e_.symm) (fun hs_=>hk_.2.1 hs_) (fun hn_=>Nat.not_le.2 hk_.2.2 hn_)))
                     have n3_:=Aside0.mk (Kd.R_mono (ok':=fun k_=>some k_≠(v255:Value).ownBlock) ho0 (fun k_ hk_=>Or.elim hk_ (fun hs_=>fun e_=>(((HO256.out).1 k_ e_.symm).2) hs_) (fun hn_=>(Kd.fresh' (Kd.R_lt (rowV HO256.out)) k_ hn_))))
                     have n4_:=Aside0.mk (hb);clear BK235;clear BK253;clear HO256;clear HB;clear HO_5;have BK235:=n0_;have BK253:=n1_;have HO256:=n2_;have HO260:=n3_;have HB:=n4_;clear n0_ n1_ n2_ n3_ n4_
                     (try clear hb)
                     (try clear hkp)
                     (try clear ho0)
                     obtain ⟨Ao46,co46,eo46⟩:=Kd.R_slice HO260.out
                     (first|subst eo46|(injection eo46 with f1_ f2_ f3_;have f4_:=f1_.symm;have f5_:=f3_.symm;clear f1_ f2_ f3_;subst f4_;subst f5_))
                     refine hK.out _ _ ⟨(blk_cell BK253.out 0).trans rfl,(blk_cell BK253.out 1).trans rfl,(blk_cell BK253.out 2).trans rfl,(blk_cell BK253.out 3).trans rfl,(blk_cell BK253.out 4).trans rfl⟩ (fun hHeld=>?_);clear hK K
                     refine norm_ (a':=?_) ?_ ?_;rotate_left
                     · show Act.put _ (some 62) _=_
                       simp only [Act.put,List.setIfInBounds_toArray,List.set_cons_zero,List.set_cons_succ,i64_w,i32_w];rfl
                     refine one_ (i:=6) (N:=some 65) ((bm true [7,1]).toArray) rfl rfl (one_of HT_.out (by kernel_rfl)) (by decide) (fun K hK=>?_)
                     refine goes_ Try.func69 (by kernel_rfl) rfl #[.slice Ao46 t258.length co46,.int .i64 ((rd_T91 l0_2 x47_3).f1),.int .i64 2] (by rfl) rfl rfl (by (try simp only [List.map_toArray,List.map_cons,List.map_nil]);first|done|rfl|(simp only [List.length_drop,List.length_take];rfl)) ?_
                     with_reducible refine (bitmap_number.calls k3 (fun k_=>some k_=(.slice Ao46 t258.length co46:Value).ownBlock) (.slice Ao46 t258.length co46) t258 ((rd_T91 l0_2 x47_3).f1) 2 t261 w _ ?side1 ?side2 A33.out).mono ?_
                     (case side1=>exact belV2 HB.out GE235.out GE253.out)
                     (case side2=>exact Kd.R_tight rfl HO260.out)
                     rintro e w47 ⟨v262,rfl,ho0,hb,hkp⟩
                     refine ⟨_,rfl,?_⟩
                     have n0_:=Aside0.mk (blk_kept (blkV BK235.out) hkp (fun hs_=>(fun e_=>(Kd.R_ne HO260.out BK235.out (by decide)) e_) hs_))
                     have n1_:=Aside0.mk (blk_kept (blkV BK253.out) hkp (fun hs_=>(fun e_=>(Kd.R_ne HO260.out BK253.out (by decide)) e_) hs_))
                     have n2_:=Aside0.mk (Kd.R_mono (ok':=fun k_=>some k_≠(v262:Value).ownBlock) (Kd.R_keptB (HO256.out) hkp (fun k_ hk_ hs_=>(hk_) hs_)) (fun k_ hk_=>fun e_=>Or.elim (ho0.1 k_ e_.symm) (fun hs_=>hk_.2.1 hs_) (fun hn_=>Nat.not_le.2 hk_.2.2 hn_)))
                     have n3_:=Aside0.mk (Kd.R_mono (ok':=fun k_=>some k_≠(v255:Value).ownBlock) ho0 (fun k_ hk_=>Or.elim hk_ (fun hs_=>fun e_=>(((HO256.out).1 k_ e_.symm)) hs_) (fun hn_=>(Kd.fresh' (Kd.R_lt (rowV HO256.out)) k_ hn_))))
                     have n4_:=Aside0.mk (hb);clear BK235;clear BK253;clear HO256;clear HB;clear HO260;have BK235:=n0_;have BK253:=n1_;have HO256:=n2_;have HO263:=n3_;have HB:=n4_;clear n0_ n1_ n2_ n3_ n4_
                     (try clear hb)
                     (try clear hkp)
                     (try clear ho0)
                     refine hK.out _ _ ⟨(blk_cell BK253.out 0).trans rfl,(blk_cell BK253.out 1).trans rfl,(blk_cell BK253.out 2).trans rfl,(blk_cell BK253.out 3).trans rfl,(blk_cell BK253.out 4).trans rfl⟩ (fun hHeld=>?_);clear hK K
                     refine norm_ (a':=?_) ?_ ?_;rotate_left
                     · show Act.put _ (some 65) _=_
                       simp only [Act.put,List.setIfInBounds_toArray,List.set_cons_zero,List.set_cons_succ,i64_w,i32_w];rfl
                     refine pure_ (i:=7) (N:=some 5) (v:=?_) (a':=?_) ((bm true [8]).toArray) rfl rfl (any_of HT_.out (by kernel_rfl)) (fun _ _ _ h=>h) (Or.inl ⟨by rfl,?_⟩) ?_ ?_;rotate_left
                     · intro w';go_simp;with_reducible rfl
                     rotate_left
                     · simp only [Act.put,List.setIfInBounds_toArray,List.set_cons_zero,List.set_cons_succ,i64_w,i32_w];rfl
                     refine done_ (done_of HT_.out (by kernel_rfl)) ?_
                     obtain ⟨hcz48_0,hcz48_1,hcz48_2,hcz48_3,hcz48_4,hfz48_0,hfz48_1,hfz48_2,hfz48_3,hfz48_4⟩:=bcells5 BK253.out
                     try go_wp2_with (first|((with_reducible refine gate_dst (N:=73) rfl ?_);refine Kd.R_lit (Kd.int .u8) _ 5 ?hg (N:=73) ?hd (xs:=([((rd_T91 l0_2 x47_3).f2) % 256,((rd_T91 l0_2 x47_3).f3) % 256]:List Int)) (inner:=[.int .u8 (((rd_T91 l0_2 x47_3).f2) % 256),.int .u8 (((rd_T91 l0_2 x47_3).f3) % 256)]) (ok:=fun _=>True) (okp:=fun _=>True) ?hr ?hp (fun _ hk=>hk) trivial (Below.refl _ _) (Nat.le_refl _) (by simp) ?_;(case hd=>rfl);(case hg=>rfl);(case hr=>first|(go_simp;done)|(go_simp;rfl));(case hp=>exact (Reps.one (show Kd.M (Kd.int .u8) _ _ _ (((rd_T91 l0_2 x47_3).f2) % 256) [.int .u8 (((rd_T91 l0_2 x47_3).f2) % 256)] from rfl) (Reps.one (show Kd.M (Kd.int .u8) _ _ _ (((rd_T91 l0_2 x47_3).f3) % 256) [.int .u8 (((rd_T91 l0_2 x47_3).f3) % 256)] from rfl) (Reps.none _ _))));intro v265 w49 ho50 hb hg_ hnew_;clear hg_ hnew_;(first|rw [← Ny264.out] at ho50|(simp only [Int.reduceToNat] at ho50;rw [← Ny264.out] at ho50));have n0_:=Aside0.mk (Kd.R_elder' (rowV HO256.out) (Kd.R_base ho50) hb);have n1_:=Aside0.mk (Kd.R_elder' (rowV HO263.out) (Kd.R_base ho50) hb);have n2_:=Aside0.mk (Kd.R_lower (Kd.R_new' (Kd.R_new' ho50 (Kd.R_lt (rowV HO256.out))) (Kd.R_lt (rowV HO263.out))) (below_size (belV2 HB.out GE235.out GE253.out)));have n3_:=Aside0.mk (blk_below (g:=gb235) (blkV BK235.out) hb);have n4_:=Aside0.mk (blk_below (g:=gb253) (blkV BK253.out) hb);have n5_:=Aside0.mk (below_step (belV2 HB.out GE235.out GE253.out) hb);clear HO256;clear HO263;clear BK235;clear BK253;clear HB;have HO256:=n0_;have HO263:=n1_;have HO266:=n2_;have BK235:=n3_;have BK253:=n4_;have HB:=n5_;clear n0_ n1_ n2_ n3_ n4_ n5_;clear hb ho50;obtain ⟨Ao52,co52,eo52⟩:=Kd.R_slice HO266.out;subst eo52)|((with_reducible refine gate_builtin (b:=.append) (xs:=#[.tmp 66,.tmp 73]) rfl ?_);at_builtin;refine Kd.R_append_rows (Kd.int .u8) (w0:=w) w.heap.size rfl (.tmp 66) (.tmp 73) 23 5 (.int .u8 0) 1 rfl Try.underlying23 info5 rfl (by decide) (by omega) v262 t261 y264 _ _ _ (fun k_=>some k_≠(v255:Value).ownBlock) (fun _=>False) rfl rfl ?aO ?aR (fun _ _ h=>h) (fun _ h=>h.elim) ?aF ?aB ?aS ?aL ?_;(case aR=>exact cV (Kd.R_reads' HO266.out).2.2);(case aB=>exact (belV2 HB.out GE235.out GE253.out));(case aF=>exact (fun k_ hk=>Kd.fresh' (Kd.R_lt (rowV HO256.out)) k_ hk));(case aO=>exact (by (with_reducible repeat (first|apply Kd.R_alloc|apply Kd.R_drewN|apply Kd.R_drew));exact Kd.R_mono HO263.out (fun _ hk=>hk.1)));(case aS=>exact (below_size (belV2 HB.out GE235.out GE253.out)));(case aL=>have:=LMc34.out;omega);intro v268 w51 ho hb hg hat;rw [← Ny267.out] at ho;have n0_:=Aside0.mk (blk_grown (g:=gb235) (blkV BK235.out) hg (Kd.R_ne HO263.out BK235.out (by decide)));have n1_:=Aside0.mk (blk_grown (g:=gb253) (blkV BK253.out) hg (Kd.R_ne HO263.out BK253.out (by decide)));have n2_:=Aside0.mk (Kd.R_after (ok:=(fun k_=>some k_≠(.slice Ao52 y264.length co52:Value).ownBlock)) (by (with_reducible repeat (first|apply Kd.R_alloc|apply Kd.R_drewN|apply Kd.R_drew));exact Kd.R_mono HO256.out (fun _ hk=>⟨hk.2,hk.1⟩)) hg hat);have n3_:=Aside0.mk (hb);have n4_:=Aside0.mk (ho);clear BK235;clear BK253;clear HO256;clear HB;clear HO263;clear HO266;have BK235:=n0_;have BK253:=n1_;have HO256:=n2_;have HB:=n3_;have HO269:=n4_;clear n0_ n1_ n2_ n3_ n4_;clear ho hb hg hat;obtain ⟨Ao53,co53,eo53⟩:=Kd.R_slice HO256.out;subst eo53;obtain ⟨Ao54,co54,eo54⟩:=Kd.R_slice HO269.out;subst eo54)|((with_reducible refine gate_callee (f:=69) rfl ?_);refine goesL_ (some 78) rfl rfl Try.func69 (by kernel_rfl) rfl #[.slice Ao54 y267.length co54,.int .i64 (t254.length:Int),.int .i64 2] rfl (by (try simp only [List.map_toArray,List.map_cons,List.map_nil]);first|done|rfl|(simp only [List.length_drop,List.length_take];rfl)) ?_;(with_reducible refine (bitmap_number.calls k3 (fun k_=>some k_=(.slice Ao54 y267.length co54:Value).ownBlock) (.slice Ao54 y267.length co54) y267 (t254.length:Int) 2 t270 w _ ?side1 ?side2 A35.out).mono ?_);(case side1=>exact belV2 HB.out GE235.out GE253.out);(case side2=>exact Kd.R_tight rfl HO269.out);rintro e w55 ⟨v271,rfl,ho0,hb,hkp⟩;refine ⟨_,rfl,?_⟩;have n0_:=Aside0.mk (blk_kept (blkV BK235.out) hkp (fun hs_=>(fun e_=>(Kd.R_ne HO269.out BK235.out (by decide)) e_) hs_));have n1_:=Aside0.mk (blk_kept (blkV BK253.out) hkp (fun hs_=>(fun e_=>(Kd.R_ne HO269.out BK253.out (by decide)) e_) hs_));have n2_:=Aside0.mk (Kd.R_mono (ok':=fun k_=>some k_≠(v271:Value).ownBlock) (Kd.R_keptB (HO256.out) hkp (fun k_ hk_ hs_=>(hk_.2) hs_)) (fun k_ hk_=>fun e_=>Or.elim (ho0.1 k_ e_.symm) (fun hs_=>hk_.2.1 hs_) (fun hn_=>Nat.not_le.2 hk_.2.2 hn_)));have n3_:=Aside0.mk (Kd.R_mono (ok':=fun k_=>some k_≠(.slice Ao53 t254.length co53:Value).ownBlock) ho0 (fun k_ hk_=>Or.elim hk_ (fun hs_=>fun e_=>(((HO256.out).1 k_ e_.symm).2) hs_) (fun hn_=>(Kd.fresh' (Kd.R_lt (rowV HO256.out)) k_ hn_))));have n4_:=Aside0.mk (hb);clear BK235;clear BK253;clear HO256;clear HB;clear HO269;have BK235:=n0_;have BK253:=n1_;have HO256:=n2_;have HO272:=n3_;have HB:=n4_;clear n0_ n1_ n2_ n3_ n4_;(try clear hb);(try clear hkp);(try clear ho0))|((with_reducible refine gate_builtin (b:=.append) (xs:=#[.tmp 78,.tmp 79]) rfl ?_);at_builtin;refine Kd.R_append_rows (Kd.int .u8) (w0:=w) w.heap.size rfl (.tmp 78) (.tmp 79) 23 5 (.int .u8 0) 1 rfl Try.underlying23 info5 rfl (by decide) (by omega) v271 t270 t254 _ _ _ (fun k_=>some k_≠(.slice Ao53 t254.length co53:Value).ownBlock) (fun _=>False) rfl rfl ?aO ?aR (fun _ _ h=>h) (fun _ h=>h.elim) ?aF ?aB ?aS ?aL ?_;(case aR=>exact cV (Kd.R_reads' HO256.out).2.2);(case aB=>exact (belV2 HB.out GE235.out GE253.out));(case aF=>exact (fun k_ hk=>Kd.fresh' (Kd.R_lt (rowV HO256.out)) k_ hk));(case aO=>exact (rowV HO272.out));(case aS=>exact (below_size (belV2 HB.out GE235.out GE253.out)));(case aL=>have:=LMc36.out;omega);intro v274 w56 ho hb hg hat;rw [← Ny273.out] at ho;have n0_:=Aside0.mk (blk_grown (g:=gb235) (blkV BK235.out) hg (Kd.R_ne HO272.out BK235.out (by decide)));have n1_:=Aside0.mk (blk_grown (g:=gb253) (blkV BK253.out) hg (Kd.R_ne HO272.out BK253.out (by decide)));have n2_:=Aside0.mk (Kd.R_after (ok:=(fun _=>True)) (by (with_reducible repeat (first|apply Kd.R_alloc|apply Kd.R_drewN|apply Kd.R_drew));exact Kd.R_mono HO256.out (fun _ hk=>⟨trivial,hk⟩)) hg hat);have n3_:=Aside0.mk (hb);have n4_:=Aside0.mk (ho);clear BK235;clear BK253;clear HO256;clear HB;clear HO272;have BK235:=n0_;have BK253:=n1_;have HO256:=n2_;have HB:=n3_;have HO275:=n4_;clear n0_ n1_ n2_ n3_ n4_;clear ho hb hg hat))
                     go_roundg k3
                     case measure=>have:=HJ3.out;have:=HK2.out;have:=HK3.out;omega
                     case rel=>exact ⟨(y273),(wrap64 (x47_3+1)),okV,H',⟨by have:=HJ3.out;have:=HK2.out;have:=HK3.out;omega⟩,⟨by (with_reducible repeat (first|apply Kd.R_alloc|apply Kd.R_drewN|apply Kd.R_drew));exact Kd.R_mono HO275.out (fun _ hk=>trivial)⟩,⟨blkV BK235.out⟩,⟨belV2 HB.out GE235.out GE253.out⟩⟩
                   rw [if_neg c36] at H
                   exact absurd H (by simp)
                 rw [if_neg c34] at H
                 exact absurd H (by simp)
               rw [if_neg c30] at H
               exact absurd H (by simp)
             rw [if_neg c29] at H
             exact absurd H (by simp)
           rw [if_neg c28] at H
           have c28b0:decide (x47_3 < (l0_2.length:Int))=false:=decide_eq_false c28;clear c28
           replace H:=Option.bind_eq_some_iff.mp H
           obtain ⟨t248,A570,H⟩:=H
           replace H:((bitmap_number.f k3 x5_3 (wrap64 (t248)) 4).bind fun t249=>(some (t249,0)))=some (r1,r2):=H
           have A57:=Aside0.mk A570;clear A570
           replace H:=Option.bind_eq_some_iff.mp H
           obtain ⟨t249,A580,H⟩:=H
           replace H:(some (t249,0))=some (r1,r2):=H
           have A58:=Aside0.mk A580;clear A580
           simp only [Option.some.injEq,Prod.mk.injEq] at H
           obtain ⟨rfl,rfl⟩:=H
           obtain ⟨Ao59,co59,eo59⟩:=Kd.R_slice HO_5.out;subst eo59
           go_wp2_with (first|((with_reducible refine gate_callee (f:=56) rfl ?_);refine goesL_ (some 84) rfl rfl Try.func56 (by kernel_rfl) rfl #[.slice Ao59 x5_3.length co59] rfl (by (try simp only [List.map_toArray,List.map_cons,List.map_nil]);first|done|rfl|(simp only [List.length_drop,List.length_take];rfl)) ?_;(with_reducible refine (bits_Sum.calls k3 _ _ x5_3 t248 _ ?side1 ?side2 A57.out).mono ?_);(case side1=>exact cV (Kd.R_reads' HO_5.out).2.2);(case side2=>exact (Kd.R_reads' HO_5.out).2.1);rintro e w' ⟨rfl,⟨nd,rfl⟩⟩;refine ⟨_,rfl,?_⟩)|((with_reducible refine gate_callee (f:=69) rfl ?_);refine goesL_ (some 86) rfl rfl Try.func69 (by kernel_rfl) rfl #[.slice Ao59 x5_3.length co59,.int .i64 (wrap64 (t248)),.int .i64 4] rfl (by (try simp only [List.map_toArray,List.map_cons,List.map_nil]);first|done|rfl|(simp only [List.length_drop,List.length_take];rfl)) ?_;(with_reducible refine (bitmap_number.calls k3 (fun k_=>some k_=(.slice Ao59 x5_3.length co59:Value).ownBlock) (.slice Ao59 x5_3.length co59) x5_3 (wrap64 (t248)) 4 t249 w _ ?side1 ?side2 A58.out).mono ?_);(case side1=>exact belV1 HB.out GE235.out);(case side2=>exact Kd.R_tight rfl HO_5.out);rintro e w60 ⟨v250,rfl,ho0,hb,hkp⟩;refine ⟨_,rfl,?_⟩;have n0_:=Aside0.mk (blk_kept (blkV BK235.out) hkp (fun hs_=>(fun e_=>(Kd.R_ne HO_5.out BK235.out (by decide)) e_) hs_));have n1_:=Aside0.mk (Kd.R_mono (ok':=fun k_=>True) ho0 (fun k_ hk_=>trivial));have n2_:=Aside0.mk (hb);clear BK235;clear HB;clear HO_5;have BK235:=n0_;have HO251:=n1_;have HB:=n2_;clear n0_ n1_ n2_;(try clear hb);(try clear hkp);(try clear ho0)))
           go_ret2
           exact ⟨_,by first|rfl|(simp [errW_none,errW_some] <;> rfl)|(simp [*,errW_none,errW_some] <;> rfl),by (with_reducible repeat (first|apply Kd.R_alloc|apply Kd.R_drewN|apply Kd.R_drew));exact HO251.out,by repeat (first|(with_reducible first|exact HB.out|apply below_alloc|apply pw_below_drewN|apply below_drew1|refine below_set ?_ GE235.out)|exact HB.out)⟩
       rw [if_neg c24] at H
       exact absurd H (by simp)
 rw [if_neg c3] at H
 have c3b0:(t236 == 0)=false:=beq_eq_false_iff_ne.mpr c3
 have c3b1:(t236 != 0)=true:=bne_iff_ne.mpr c3
 simp only [Option.some.injEq,Prod.mk.injEq] at H
 obtain ⟨rfl,rfl⟩:=H
 go_enter Try.func35,Try.ntmps35
 go_wp2_with (first|((with_reducible refine gate_dst (N:=1) rfl ?_);refine box_event ?hg (N:=1) ?hd (cs:=#[.bool a0_0,.slice A0_1 l0_1.length c0_1,.slice A0_2 l0_2.length c0_2]) (t:=51) ?hr ?_;(case hd=>rfl);(case hg=>rfl);(case hr=>first|(go_simp;done)|(go_simp;rfl));intro gb235 hg w61 hbox hb;have n0_:=Aside0.mk (below_step (belV HB.out) hb);have n1_:=Aside0.mk (hbox);have n2_:=Aside0.mk ((by rw [hg];exact (below_size (belV HB.out)):w.heap.size≤gb235));have n3_:=Aside0.mk ((by rw [hg];exact (below_size (belV HB.out)):w.heap.size≤gb235));clear HB;have HB:=n0_;have BK235:=n1_;have GW235:=n2_;have GE235:=n3_;clear n0_ n1_ n2_ n3_;clear hb hbox hg;obtain ⟨hcz62_0,hcz62_1,hcz62_2,hfz62_0,hfz62_1,hfz62_2⟩:=bcells3 BK235.out)|((with_reducible refine gate_callee (f:=39) rfl ?_);refine goesL_ (some 13) rfl rfl Try.func39 (by kernel_rfl) rfl #[.agg #[.bool a0_0,.slice A0_1 l0_1.length c0_1,.slice A0_2 l0_2.length c0_2]] rfl (by (try simp only [List.map_toArray,List.map_cons,List.map_nil]);first|done|rfl|(simp only [List.length_drop,List.length_take];rfl)) ?_;(with_reducible refine (bitmap_Check.calls k a0_0 _ _ l0_1 _ _ l0_2 t236 _ ?side1 ?side2 ?side3 ?side4 A2.out).mono ?_);(case side1=>exact cV (Kd.C_below HR0_1.out HB.out));(case side2=>exact HC0_1.out);(case side3=>exact cV (Kd.C_below HR0_2.out HB.out));(case side4=>exact HC0_2.out);rintro e w63 ⟨rfl,hb⟩;refine ⟨_,rfl,?_⟩;have n0_:=Aside0.mk (blk_below (g:=gb235) (blkV BK235.out) hb);have n1_:=Aside0.mk (below_step (belV1 HB.out GE235.out) hb);clear BK235;clear HB;have BK235:=n0_;have HB:=n1_;clear n0_ n1_;(try clear hb);(try clear hb2);(try clear hk);(try clear hi)))
 go_ret2
 exact ⟨_,by first|rfl|(simp [errW_none,errW_some] <;> rfl)|(simp [*,errW_none,errW_some] <;> rfl),by first|exact Kd.R_nil _ _ _ _ _|exact Kd.N_nil _ _ _ _ _|exact Kd.V_nil _ _ _ _ _|exact Kd.Q_nil _ _ _ _ _|exact Kd.S_nil _ _ _ _ _,by repeat (first|(with_reducible first|exact HB.out|apply below_alloc|apply pw_below_drewN|apply below_drew1|refine below_set ?_ GE235.out)|exact HB.out)⟩

/-! ### dioramaref00_CopyBytes: function 36 -/
def dioramaref00_CopyBytes.l0 : Nat → List Int → List Int → Int → Option (List Int)
 | 0,_,_,_=>none
 | k+1,x0,x3,x4=>if x4 < (x0.length:Int) then (if 0≤x4 then (if x3.length < 140737488355328 then (dioramaref00_CopyBytes.l0 k x0 (x3 ++ [rd x0 x4]) (wrap64 (x4+1))) else (none)) else (none)) else (some x3)
def dioramaref00_CopyBytes.f (k : Nat) (l0 : List Int) : Option (List Int) := if 0 ≤ (l0.length : Int) then (if ((l0.length : Int) : Int).toNat ≤ 281474976710656 then (dioramaref00_CopyBytes.l0 k l0 (([] : List Int)) 0) else (none)) else (none)
theorem dioramaref00_CopyBytes.mono_l:∀ k,(∀ y0 y1 y2,LeO (dioramaref00_CopyBytes.l0 k y0 y1 y2) (dioramaref00_CopyBytes.l0 (k+1) y0 y1 y2))
 | 0=>fun _ _ _ r h=>by simp [dioramaref00_CopyBytes.l0] at h
 | k+1=>by
  have ih0:=dioramaref00_CopyBytes.mono_l k
  · intro y0 y1 y2
    unfold dioramaref00_CopyBytes.l0
    repeat' first
    | (with_reducible exact ih0 _ _ _)
    | (with_reducible exact LeO.refl _)
    | (with_reducible exact LeO.none _)
    | (with_reducible refine LeO.ite ?_ ?_)
    | (with_reducible refine LeO.bind ?_ (fun _=>?_))
    | exact LeO.none _
    | refine LeO.ite ?_ ?_
    | refine LeO.bind ?_ (fun _=>?_)
theorem dioramaref00_CopyBytes.mono:∀ a0 k,LeO (dioramaref00_CopyBytes.f k a0) (dioramaref00_CopyBytes.f (k+1) a0):=by
 intro a0 k
 have ih0:=dioramaref00_CopyBytes.mono_l k
 unfold dioramaref00_CopyBytes.f
 repeat' first
  | (with_reducible exact ih0 _ _ _)
  | (with_reducible exact LeO.refl _)
  | (with_reducible exact LeO.none _)
  | (with_reducible refine LeO.ite ?_ ?_)
  | (with_reducible refine LeO.bind ?_ (fun _=>?_))
  | exact LeO.none _
  | refine LeO.ite ?_ ?_
  | refine LeO.bind ?_ (fun _=>?_)
set_option maxHeartbeats 8000000 in
set_option maxRecDepth 100000 in
theorem dioramaref00_CopyBytes.calls (k:Nat) (A0:Option Addr) (c0:Nat) (l0:List Int) (r:List Int) (w:World) (hr0:Kd.C (Kd.int .u8) w A0 l0.length l0) (hc0:l0.length≤c0) (h:dioramaref00_CopyBytes.f k l0=some r) :
 Calls Try.prog 36 #[.slice A0 l0.length c0] w fun e w'=>∃ v0_:Value,e=.returned (v0_)∧Kd.R (Kd.int .u8) 5 w' w.heap.size (fun _=>True) v0_ r∧Below w.heap.size w w':=by
 have HR0:=Aside0.mk hr0
 have HC0:=Aside0.mk hc0;clear hr0 hc0;have HB:=Aside0.mk (Below.refl w.heap.size w)
 have H:(if 0≤(l0.length:Int) then (if ((l0.length:Int):Int).toNat≤281474976710656 then (dioramaref00_CopyBytes.l0 k l0 (([]:List Int)) 0) else (none)) else (none))=some r:=h;clear h
 by_cases c2:0≤(l0.length:Int)
 · rw [if_pos c2] at H
   have c2b0:=eq_true c2
   have c2b1:decide (0≤(l0.length:Int))=true:=decide_eq_true c2;clear c2
   by_cases c3:((l0.length:Int):Int).toNat≤281474976710656
   · rw [if_pos c3] at H
     have c3b0:=eq_true c3
     have c3b1:decide (((l0.length:Int):Int).toNat≤281474976710656)=true:=decide_eq_true c3;clear c3
     obtain ⟨y276,hy276⟩:∃ y_:List Int,y_=(([]:List Int)):=⟨_,rfl⟩
     replace H:(dioramaref00_CopyBytes.l0 k l0 y276 0)=some r:=by first|(rw [hy276];with_reducible exact H)|(have H2_:=(Option.bind_some _ _).symm.trans H;rw [hy276];with_reducible exact H2_)|(have H2_:=(Option.bind_some _ _).symm.trans H;with_reducible exact H2_)|with_reducible exact H|(rw [hy276];exact H)|exact H
     have Ny276:=Aside0.mk hy276;clear hy276
     have H':=Aside0.mk H;clear H
     go_enter Try.func36,Try.ntmps36
     go_wp2_with (first|((with_reducible refine gate_dst (N:=7) rfl ?_);refine Kd.R_make0 (Kd.int .u8) _ 5 rfl (N:=7) rfl 23 _ _ rfl (l0.length:Int) rfl rfl Try.underlying23 (.int .u8 0) 1 info5 rfl (by decide) (by omega) 0 (ok:=fun _=>True) (okp:=fun _=>True) rfl (fun _ hk=>hk) trivial (of_decide_eq_true asV) (Nat.le_trans (Nat.mul_le_mul_right _ (of_decide_eq_true asV:(l0.length:Int).toNat≤281474976710656)) (by omega)) (Below.refl _ _) (Nat.le_refl _) ?_;intro v277 w4 ho5 hb hg_ hnew_;clear hg_ hnew_;(first|rw [← Ny276.out] at ho5|(simp only [Int.reduceToNat] at ho5;rw [← Ny276.out] at ho5));have n0_:=Aside0.mk (Kd.R_lower ho5 (below_size (belV HB.out)));have n1_:=Aside0.mk (below_step (belV HB.out) hb);clear HB;have HO278:=n0_;have HB:=n1_;clear n0_ n1_;clear hb ho5))
     go_loopg [3,4] k (fun kq v3 v4 w'=>∃ (x3_1:List Int) (x4_1:Int),v4=.int .i64 x4_1∧Aside0 (dioramaref00_CopyBytes.l0 kq l0 x3_1 x4_1=some r)∧Aside0 (kq≤k)∧Aside0 (Kd.R (Kd.int .u8) 5 w' w.heap.size (fun _=>True) v3 x3_1)∧Aside0 (Below w.heap.size w w'))
     case atStart=>exact ⟨(y276),(0),okV,H',⟨Nat.le_refl _⟩,⟨rowV HO278.out⟩,⟨belV HB.out⟩⟩
     case round =>
      clear H'
      try clear c2;try clear c2b0;try clear c2b1;try clear p2;try clear c3;try clear c3b0;try clear c3b1
      obtain ⟨x3_1,x4_1,rfl,HA,HK1,HO_3,HB⟩:=hrel
      cases gk with
      | zero=>exact absurd HA.out (by simp [dioramaref00_CopyBytes.l0])
      | succ k1 =>
       have H:=HA.out;clear HA
       simp only [dioramaref00_CopyBytes.l0] at H
       by_cases c6:x4_1 < (l0.length:Int)
       · rw [if_pos c6] at H
         have c6b0:decide (x4_1 < (l0.length:Int))=true:=decide_eq_true c6;clear c6
         by_cases c7:0≤x4_1
         · rw [if_pos c7] at H
           have c7b0:decide (0≤x4_1)=true:=decide_eq_true c7;clear c7
           by_cases c8:x3_1.length < 140737488355328
           · rw [if_pos c8] at H
             have LMc8:=Aside0.mk c8;clear c8
             obtain ⟨y280,hy280⟩:∃ y_:List Int,y_=(x3_1 ++ [rd l0 x4_1]):=⟨_,rfl⟩
             replace H:(dioramaref00_CopyBytes.l0 k1 l0 y280 (wrap64 (x4_1+1)))=some r:=by first|(rw [hy280];with_reducible exact H)|(have H2_:=(Option.bind_some _ _).symm.trans H;rw [hy280];with_reducible exact H2_)|(have H2_:=(Option.bind_some _ _).symm.trans H;with_reducible exact H2_)|with_reducible exact H|(rw [hy280];exact H)|exact H
             have Ny280:=Aside0.mk hy280;clear hy280
             have H':=Aside0.mk H;clear H
             have p279:0≤(x4_1:Int):=of_decide_eq_true asV
             have q279:x4_1 < (l0.length:Int):=of_decide_eq_true asV
             obtain ⟨ad279,e279,hx279_0⟩:=Kd.at_int HR0.out x4_1 p279 q279
             cases e279
             replace hx279_0:=(HB.out.cell (World.block_lt_of_cell? w _ hx279_0)).trans hx279_0
             replace p279:=eq_true p279
             replace q279:=eq_true q279
             go_wp2_with (first|((with_reducible refine gate_builtin (b:=.append) (xs:=#[.tmp 14,.tmp 19]) rfl ?_);at_builtin;refine Kd.R_append (Kd.int .u8) (w0:=w) w.heap.size rfl (.tmp 14) (.tmp 19) 23 5 (.int .u8 0) 1 rfl Try.underlying23 info5 rfl (by decide) (by omega) u3 x3_1 (rd l0 x4_1) [.int .u8 (rd l0 x4_1)] (fun _=>True) (fun _=>False) rfl rfl ?aP (fun _ hk=>hk.elim) ?aF ?aO ?aB ?aS ?aL ?_;(case aP=>exact rfl);(case aB=>exact (belV HB.out));(case aF=>exact (fun _ _=>trivial));(case aO=>exact (rowV HO_3.out));(case aS=>exact (below_size (belV HB.out)));(case aL=>have:=LMc8.out;omega);intro v281 w9 ho hb hg hat;rw [← Ny280.out] at ho;have n0_:=Aside0.mk (hb);have n1_:=Aside0.mk (ho);clear HB;clear HO_3;have HB:=n0_;have HO282:=n1_;clear n0_ n1_;clear ho hb hg hat))
             go_roundg k1
             case measure=>have:=HK1.out;omega
             case rel=>exact ⟨(y280),(wrap64 (x4_1+1)),okV,H',⟨by have:=HK1.out;omega⟩,⟨rowV HO282.out⟩,⟨belV HB.out⟩⟩
           rw [if_neg c8] at H
           exact absurd H (by simp)
         rw [if_neg c7] at H
         exact absurd H (by simp)
       rw [if_neg c6] at H
       have c6b0:decide (x4_1 < (l0.length:Int))=false:=decide_eq_false c6;clear c6
       obtain rfl:=Option.some.inj H
       go_wp2
       go_ret
       exact ⟨_,by first|rfl|(simp [errW_none,errW_some] <;> rfl)|(simp [*,errW_none,errW_some] <;> rfl),by (with_reducible repeat (first|apply Kd.R_alloc|apply Kd.R_drewN|apply Kd.R_drew));exact HO_3.out,by repeat (first|(with_reducible first|exact HB.out|apply below_alloc|apply pw_below_drewN|apply below_drew1)|exact HB.out)⟩
   rw [if_neg c3] at H
   exact absurd H (by simp)
 rw [if_neg c2] at H
 exact absurd H (by simp)

/-! ### dioramaref00_Within: function 37 -/
def dioramaref00_Within.f (a0 : Int) (a1 : Int) : Option (Int) := if (IntKind.u64.wrap (a1)) = 0 then (none) else (some (wrap64 (Int.tmod (IntKind.u64.wrap (a0)) (IntKind.u64.wrap (a1)))))
set_option maxHeartbeats 8000000 in
set_option maxRecDepth 100000 in
theorem dioramaref00_Within.calls (a0 : Int) (a1 : Int) (r : Int) (w : World) (h : dioramaref00_Within.f a0 a1 = some r) :
    Calls Try.prog 37 #[.int .i64 a0, .int .i64 a1] w fun e w' => e = .returned (.int .i64 r) ∧ Drawn0 w w' := by
  have H : (if (IntKind.u64.wrap (a1)) = 0 then (none) else (some (wrap64 (Int.tmod (IntKind.u64.wrap (a0)) (IntKind.u64.wrap (a1)))))) = some r := h
  clear h
  by_cases c3 : (IntKind.u64.wrap (a1)) = 0
  · rw [if_pos c3] at H
    exact absurd H (by simp)
  · rw [if_neg c3] at H
    have c3b0 : ((IntKind.u64.wrap (a1)) == 0) = false := beq_eq_false_iff_ne.mpr c3
    have c3b1 : ((IntKind.u64.wrap (a1)) != 0) = true := bne_iff_ne.mpr c3
    obtain rfl := Option.some.inj H
    go_enter Try.func37, Try.ntmps37
    go_wp2
    go_ret
    exact ⟨by first | rfl | (simp; done) | (simp [*]; done), by repeat (first | exact Drawn0.refl _ | apply Drawn0.step)⟩

end Go.Proofs.Ytaebgjdaoloceaa.QBmpB
