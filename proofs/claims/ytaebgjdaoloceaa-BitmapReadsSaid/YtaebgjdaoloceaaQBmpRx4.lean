/- Part of a proof: functions of the program as Lean functions, and that the machine's calls come to them. Made by a program of this session (wip/mp). -/
import Derived.Test.YtaebgjdaoloceaaQBmpRx0
import Derived.Test.YtaebgjdaoloceaaQBmpRx3
namespace Go.Proofs.Ytaebgjdaoloceaa.QBmpR
open Go.RowKit Go.Proofs.YtaebgjdaoloceaaV Go.Proofs.YtaebgjdaoloceaaW.PrintWords Go.Proofs.YtaebgjdaoloceaaW.PrintLast Go.Proofs.YtaebgjdaoloceaaW.PrintMore
attribute [local go_sem] max2_int min2_int max_two min_two max_three min_three max_four min_four   -- for this text's walks alone
set_option linter.unusedVariables false
set_option linter.unusedSimpArgs false

/-! ### dioramaref19_Pixels: function 16 -/
mutual
def dioramaref19_Pixels.j0 : Nat → List Int → Int → Int → Bool → Option (List Int × Int)
 | 0,_,_,_,_=>none
 | k+1,x0,x1,x2,x23=>if x23=true then (some (([]:List Int),1)) else (dioramaref19_Pixels.l0 k x0 x1 x2 ([]:List Int) 0 0)
def dioramaref19_Pixels.l0 : Nat → List Int → Int → Int → List Int → Int → Int → Option (List Int × Int)
 | 0,_,_,_,_,_,_=>none
 | k+1,x0,x1,x2,x8,x9,x10=>if x10 < x2 then (dioramaref19_Pixels.l1 k x0 x1 x2 x8 x9 x10 x1 (-1)) else (if x9 < (x0.length:Int) then (some (([]:List Int),4)) else (some (x8,0)))
def dioramaref19_Pixels.l1 : Nat → List Int → Int → Int → List Int → Int → Int → Int → Int → Option (List Int × Int)
 | 0,_,_,_,_,_,_,_,_=>none
 | k+1,x0,x1,x2,x8,x9,x10,x11,x12=>if x11 > 0 then (if x9≥(x0.length:Int) then (some (([]:List Int),3)) else (if 0≤x9 then (if x9 < (x0.length:Int) then (if (Int.tmod (wrap64 (rd x0 x9)) 16)=15 then (if (wrap64 (x9+1))≥(x0.length:Int) then (some (([]:List Int),3)) else (if 0≤(wrap64 (x9+1)) then (if (wrap64 (x9+1)) < (x0.length:Int) then (if (wrap64 (15+(wrap64 (rd x0 (wrap64 (x9+1)))))) > 63 then (some (([]:List Int),4)) else (dioramaref19_Pixels.j3 k x0 x1 x2 x8 (wrap64 ((wrap64 (x9+1))+1)) x10 x11 x12 (wrap64 (Int.tdiv (wrap64 (rd x0 x9)) 16)) (wrap64 (15+(wrap64 (rd x0 (wrap64 (x9+1)))))))) else (none)) else (none))) else (dioramaref19_Pixels.j3 k x0 x1 x2 x8 (wrap64 (x9+1)) x10 x11 x12 (wrap64 (Int.tdiv (wrap64 (rd x0 x9)) 16)) (Int.tmod (wrap64 (rd x0 x9)) 16))) else (none)) else (none))) else (dioramaref19_Pixels.l0 k x0 x1 x2 x8 x9 (wrap64 (x10+1)))
def dioramaref19_Pixels.j3 : Nat → List Int → Int → Int → List Int → Int → Int → Int → Int → Int → Int → Option (List Int × Int)
 | 0,_,_,_,_,_,_,_,_,_,_=>none
 | k+1,x0,x1,x2,x8,x9,x10,x11,x12,x13,x14=>if x13=x12 then (dioramaref19_Pixels.j4 k x0 x1 x2 x8 x9 x10 x11 x13 x14 true) else (dioramaref19_Pixels.j4 k x0 x1 x2 x8 x9 x10 x11 x13 x14 (decide (x14≥x11)))
def dioramaref19_Pixels.j4 : Nat → List Int → Int → Int → List Int → Int → Int → Int → Int → Int → Bool → Option (List Int × Int)
 | 0,_,_,_,_,_,_,_,_,_,_=>none
 | k+1,x0,x1,x2,x8,x9,x10,x11,x13,x14,x73=>if x73=true then (some (([]:List Int),4)) else (if x14=0 then (dioramaref19_Pixels.j5 k x0 x1 x2 x8 x9 x10 x11 x13 x11) else (dioramaref19_Pixels.j5 k x0 x1 x2 x8 x9 x10 x11 x13 x14))
def dioramaref19_Pixels.j5 : Nat → List Int → Int → Int → List Int → Int → Int → Int → Int → Int → Option (List Int × Int)
 | 0,_,_,_,_,_,_,_,_,_=>none
 | k+1,x0,x1,x2,x8,x9,x10,x11,x13,x14=>dioramaref19_Pixels.l2 k x0 x1 x2 x8 x9 x10 x11 x13 x14 0
def dioramaref19_Pixels.l2 : Nat → List Int → Int → Int → List Int → Int → Int → Int → Int → Int → Int → Option (List Int × Int)
 | 0,_,_,_,_,_,_,_,_,_,_=>none
 | k+1,x0,x1,x2,x8,x9,x10,x11,x13,x14,x15=>if x15 < x14 then (if x8.length < 17592186044416 then (dioramaref19_Pixels.l2 k x0 x1 x2 (x8 ++ [x13]) x9 x10 x11 x13 x14 (wrap64 (x15+1))) else (none)) else (dioramaref19_Pixels.l1 k x0 x1 x2 x8 x9 x10 (wrap64 (x11 - x14)) x13)
end
def dioramaref19_Pixels.f (k : Nat) (l0 : List Int) (a1 : Int) (a2 : Int) : Option (List Int × Int) := (dioramaref19_in.f a1 1 64).bind fun t202 => (if t202 = true then ((dioramaref19_in.f a2 1 64).bind fun t203 => (dioramaref19_Pixels.j0 k l0 a1 a2 (!t203))) else (dioramaref19_Pixels.j0 k l0 a1 a2 true))
theorem dioramaref19_Pixels.mono_l:∀ k,(∀ y0 y1 y2 y3,LeO (dioramaref19_Pixels.j0 k y0 y1 y2 y3) (dioramaref19_Pixels.j0 (k+1) y0 y1 y2 y3))∧(∀ y0 y1 y2 y3 y4 y5,LeO (dioramaref19_Pixels.l0 k y0 y1 y2 y3 y4 y5) (dioramaref19_Pixels.l0 (k+1) y0 y1 y2 y3 y4 y5))∧(∀ y0 y1 y2 y3 y4 y5 y6 y7,LeO (dioramaref19_Pixels.l1 k y0 y1 y2 y3 y4 y5 y6 y7) (dioramaref19_Pixels.l1 (k+1) y0 y1 y2 y3 y4 y5 y6 y7))∧(∀ y0 y1 y2 y3 y4 y5 y6 y7 y8 y9,LeO (dioramaref19_Pixels.j3 k y0 y1 y2 y3 y4 y5 y6 y7 y8 y9) (dioramaref19_Pixels.j3 (k+1) y0 y1 y2 y3 y4 y5 y6 y7 y8 y9))∧(∀ y0 y1 y2 y3 y4 y5 y6 y7 y8 y9,LeO (dioramaref19_Pixels.j4 k y0 y1 y2 y3 y4 y5 y6 y7 y8 y9) (dioramaref19_Pixels.j4 (k+1) y0 y1 y2 y3 y4 y5 y6 y7 y8 y9))∧(∀ y0 y1 y2 y3 y4 y5 y6 y7 y8,LeO (dioramaref19_Pixels.j5 k y0 y1 y2 y3 y4 y5 y6 y7 y8) (dioramaref19_Pixels.j5 (k+1) y0 y1 y2 y3 y4 y5 y6 y7 y8))∧(∀ y0 y1 y2 y3 y4 y5 y6 y7 y8 y9,LeO (dioramaref19_Pixels.l2 k y0 y1 y2 y3 y4 y5 y6 y7 y8 y9) (dioramaref19_Pixels.l2 (k+1) y0 y1 y2 y3 y4 y5 y6 y7 y8 y9))
 | 0=>⟨fun _ _ _ _ r h=>by simp [dioramaref19_Pixels.j0] at h,fun _ _ _ _ _ _ r h=>by simp [dioramaref19_Pixels.l0] at h,fun _ _ _ _ _ _ _ _ r h=>by simp [dioramaref19_Pixels.l1] at h,fun _ _ _ _ _ _ _ _ _ _ r h=>by simp [dioramaref19_Pixels.j3] at h,fun _ _ _ _ _ _ _ _ _ _ r h=>by simp [dioramaref19_Pixels.j4] at h,fun _ _ _ _ _ _ _ _ _ r h=>by simp [dioramaref19_Pixels.j5] at h,fun _ _ _ _ _ _ _ _ _ _ r h=>by simp [dioramaref19_Pixels.l2] at h⟩
 | k+1=>by
  obtain ⟨ih0,ih1,ih2,ih3,ih4,ih5,ih6⟩:=dioramaref19_Pixels.mono_l k
  refine ⟨?_,?_,?_,?_,?_,?_,?_⟩
  · intro y0 y1 y2 y3
    unfold dioramaref19_Pixels.j0
    repeat' first
    | (with_reducible exact ih0 _ _ _ _)
    | (with_reducible exact ih1 _ _ _ _ _ _)
    | (with_reducible exact ih2 _ _ _ _ _ _ _ _)
    | (with_reducible exact ih3 _ _ _ _ _ _ _ _ _ _)
    | (with_reducible exact ih4 _ _ _ _ _ _ _ _ _ _)
    | (with_reducible exact ih5 _ _ _ _ _ _ _ _ _)
    | (with_reducible exact ih6 _ _ _ _ _ _ _ _ _ _)
    | (with_reducible exact LeO.refl _)
    | (with_reducible exact LeO.none _)
    | (with_reducible refine LeO.ite ?_ ?_)
    | (with_reducible refine LeO.bind ?_ (fun _=>?_))
    | exact LeO.none _
    | refine LeO.ite ?_ ?_
    | refine LeO.bind ?_ (fun _=>?_)
  · intro y0 y1 y2 y3 y4 y5
    unfold dioramaref19_Pixels.l0
    repeat' first
    | (with_reducible exact ih0 _ _ _ _)
    | (with_reducible exact ih1 _ _ _ _ _ _)
    | (with_reducible exact ih2 _ _ _ _ _ _ _ _)
    | (with_reducible exact ih3 _ _ _ _ _ _ _ _ _ _)
    | (with_reducible exact ih4 _ _ _ _ _ _ _ _ _ _)
    | (with_reducible exact ih5 _ _ _ _ _ _ _ _ _)
    | (with_reducible exact ih6 _ _ _ _ _ _ _ _ _ _)
    | (with_reducible exact LeO.refl _)
    | (with_reducible exact LeO.none _)
    | (with_reducible refine LeO.ite ?_ ?_)
    | (with_reducible refine LeO.bind ?_ (fun _=>?_))
    | exact LeO.none _
    | refine LeO.ite ?_ ?_
    | refine LeO.bind ?_ (fun _=>?_)
  · intro y0 y1 y2 y3 y4 y5 y6 y7
    unfold dioramaref19_Pixels.l1
    repeat' first
    | (with_reducible exact ih0 _ _ _ _)
    | (with_reducible exact ih1 _ _ _ _ _ _)
    | (with_reducible exact ih2 _ _ _ _ _ _ _ _)
    | (with_reducible exact ih3 _ _ _ _ _ _ _ _ _ _)
    | (with_reducible exact ih4 _ _ _ _ _ _ _ _ _ _)
    | (with_reducible exact ih5 _ _ _ _ _ _ _ _ _)
    | (with_reducible exact ih6 _ _ _ _ _ _ _ _ _ _)
    | (with_reducible exact LeO.refl _)
    | (with_reducible exact LeO.none _)
    | (with_reducible refine LeO.ite ?_ ?_)
    | (with_reducible refine LeO.bind ?_ (fun _=>?_))
    | exact LeO.none _
    | refine LeO.ite ?_ ?_
    | refine LeO.bind ?_ (fun _=>?_)
  · intro y0 y1 y2 y3 y4 y5 y6 y7 y8 y9
    unfold dioramaref19_Pixels.j3
    repeat' first
    | (with_reducible exact ih0 _ _ _ _)
    | (with_reducible exact ih1 _ _ _ _ _ _)
    | (with_reducible exact ih2 _ _ _ _ _ _ _ _)
    | (with_reducible exact ih3 _ _ _ _ _ _ _ _ _ _)
    | (with_reducible exact ih4 _ _ _ _ _ _ _ _ _ _)
    | (with_reducible exact ih5 _ _ _ _ _ _ _ _ _)
    | (with_reducible exact ih6 _ _ _ _ _ _ _ _ _ _)
    | (with_reducible exact LeO.refl _)
    | (with_reducible exact LeO.none _)
    | (with_reducible refine LeO.ite ?_ ?_)
    | (with_reducible refine LeO.bind ?_ (fun _=>?_))
    | exact LeO.none _
    | refine LeO.ite ?_ ?_
    | refine LeO.bind ?_ (fun _=>?_)
  · intro y0 y1 y2 y3 y4 y5 y6 y7 y8 y9
    unfold dioramaref19_Pixels.j4
    repeat' first
    | (with_reducible exact ih0 _ _ _ _)
    | (with_reducible exact ih1 _ _ _ _ _ _)
    | (with_reducible exact ih2 _ _ _ _ _ _ _ _)
    | (with_reducible exact ih3 _ _ _ _ _ _ _ _ _ _)
    | (with_reducible exact ih4 _ _ _ _ _ _ _ _ _ _)
    | (with_reducible exact ih5 _ _ _ _ _ _ _ _ _)
    | (with_reducible exact ih6 _ _ _ _ _ _ _ _ _ _)
    | (with_reducible exact LeO.refl _)
    | (with_reducible exact LeO.none _)
    | (with_reducible refine LeO.ite ?_ ?_)
    | (with_reducible refine LeO.bind ?_ (fun _=>?_))
    | exact LeO.none _
    | refine LeO.ite ?_ ?_
    | refine LeO.bind ?_ (fun _=>?_)
  · intro y0 y1 y2 y3 y4 y5 y6 y7 y8
    unfold dioramaref19_Pixels.j5
    repeat' first
    | (with_reducible exact ih0 _ _ _ _)
    | (with_reducible exact ih1 _ _ _ _ _ _)
    | (with_reducible exact ih2 _ _ _ _ _ _ _ _)
    | (with_reducible exact ih3 _ _ _ _ _ _ _ _ _ _)
    | (with_reducible exact ih4 _ _ _ _ _ _ _ _ _ _)
    | (with_reducible exact ih5 _ _ _ _ _ _ _ _ _)
    | (with_reducible exact ih6 _ _ _ _ _ _ _ _ _ _)
    | (with_reducible exact LeO.refl _)
    | (with_reducible exact LeO.none _)
    | (with_reducible refine LeO.ite ?_ ?_)
    | (with_reducible refine LeO.bind ?_ (fun _=>?_))
    | exact LeO.none _
    | refine LeO.ite ?_ ?_
    | refine LeO.bind ?_ (fun _=>?_)
  intro y0 y1 y2 y3 y4 y5 y6 y7 y8 y9
  unfold dioramaref19_Pixels.l2
  repeat' first
  | (with_reducible exact ih0 _ _ _ _)
  | (with_reducible exact ih1 _ _ _ _ _ _)
  | (with_reducible exact ih2 _ _ _ _ _ _ _ _)
  | (with_reducible exact ih3 _ _ _ _ _ _ _ _ _ _)
  | (with_reducible exact ih4 _ _ _ _ _ _ _ _ _ _)
  | (with_reducible exact ih5 _ _ _ _ _ _ _ _ _)
  | (with_reducible exact ih6 _ _ _ _ _ _ _ _ _ _)
  | (with_reducible exact LeO.refl _)
  | (with_reducible exact LeO.none _)
  | (with_reducible refine LeO.ite ?_ ?_)
  | (with_reducible refine LeO.bind ?_ (fun _=>?_))
  | exact LeO.none _
  | refine LeO.ite ?_ ?_
  | refine LeO.bind ?_ (fun _=>?_)
theorem dioramaref19_Pixels.mono:∀ a0 a1 a2 k,LeO (dioramaref19_Pixels.f k a0 a1 a2) (dioramaref19_Pixels.f (k+1) a0 a1 a2):=by
 intro a0 a1 a2 k
 obtain ⟨ih0,ih1,ih2,ih3,ih4,ih5,ih6⟩:=dioramaref19_Pixels.mono_l k
 unfold dioramaref19_Pixels.f
 repeat' first
  | (with_reducible exact ih0 _ _ _ _)
  | (with_reducible exact ih1 _ _ _ _ _ _)
  | (with_reducible exact ih2 _ _ _ _ _ _ _ _)
  | (with_reducible exact ih3 _ _ _ _ _ _ _ _ _ _)
  | (with_reducible exact ih4 _ _ _ _ _ _ _ _ _ _)
  | (with_reducible exact ih5 _ _ _ _ _ _ _ _ _)
  | (with_reducible exact ih6 _ _ _ _ _ _ _ _ _ _)
  | (with_reducible exact LeO.refl _)
  | (with_reducible exact LeO.none _)
  | (with_reducible refine LeO.ite ?_ ?_)
  | (with_reducible refine LeO.bind ?_ (fun _=>?_))
  | exact LeO.none _
  | refine LeO.ite ?_ ?_
  | refine LeO.bind ?_ (fun _=>?_)
set_option maxHeartbeats 8000000 in
set_option maxRecDepth 100000 in
theorem dioramaref19_Pixels.calls (k:Nat) (A0:Option Addr) (c0:Nat) (l0:List Int) (a1:Int) (a2:Int) (r1:List Int) (r2:Int) (w:World) (hr0:Kd.C (Kd.int .u8) w A0 l0.length l0) (hc0:l0.length≤c0) (h:dioramaref19_Pixels.f k l0 a1 a2=some (r1,r2)) :
 Calls Try.prog 16 #[.slice A0 l0.length c0,.int .i64 a1,.int .i64 a2] w fun e w'=>∃ v0_:Value,e=.returned (.tuple #[v0_,.int .i64 r2])∧Kd.R (Kd.int .i64) 3 w' w.heap.size (fun _=>True) v0_ r1∧Below w.heap.size w w':=by
 have HR0:=Aside0.mk hr0
 have HC0:=Aside0.mk hc0;clear hr0 hc0;have HB:=Aside0.mk (Below.refl w.heap.size w)
 have H:((dioramaref19_in.f a1 1 64).bind fun t202=>(if t202=true then ((dioramaref19_in.f a2 1 64).bind fun t203=>(dioramaref19_Pixels.j0 k l0 a1 a2 (!t203))) else (dioramaref19_Pixels.j0 k l0 a1 a2 true)))=some (r1,r2):=h
 clear h
 have HC4:=Aside0.mk H;clear H
 go_enter Try.func16,Try.ntmps16
 go_upto_region 1 with (fail)
 repeat (go_quiet (fail);go_upto_region 1 with (fail))
 go_cut [23] (fun v23 wc=>∃ (kq:Nat) (x23_3:Bool),v23=.bool x23_3∧Aside0 (dioramaref19_Pixels.j0 kq l0 a1 a2 x23_3=some (r1,r2))∧Aside0 (kq≤k)∧Aside0 (Below w.heap.size w wc))
 case first =>
  have H:=HC4.out;clear HC4
  replace H:=Option.bind_eq_some_iff.mp H
  obtain ⟨t202,A50,H⟩:=H
  replace H:(if t202=true then ((dioramaref19_in.f a2 1 64).bind fun t203=>(dioramaref19_Pixels.j0 k l0 a1 a2 (!t203))) else (dioramaref19_Pixels.j0 k l0 a1 a2 true))=some (r1,r2):=H
  have A5:=Aside0.mk A50;clear A50
  by_cases c6:t202=true
  · subst c6
    have H1:((dioramaref19_in.f a2 1 64).bind fun t203=>(dioramaref19_Pixels.j0 k l0 a1 a2 (!t203)))=some (r1,r2):=by rw [if_pos rfl] at H;exact H
    clear H
    have H:=H1;clear H1
    replace H:=Option.bind_eq_some_iff.mp H
    obtain ⟨t203,A70,H⟩:=H
    replace H:(dioramaref19_Pixels.j0 k l0 a1 a2 (!t203))=some (r1,r2):=H
    have A7:=Aside0.mk A70;clear A70
    have H':=Aside0.mk H;clear H
    go_wp2_with (first|(go_at_call 50;(with_reducible refine (dioramaref19_in.calls a1 1 64 true _ A5.out).mono ?_);rintro e w' ⟨rfl,⟨nd,rfl⟩⟩;(try first|exact ⟨rfl,_,World.drewN_drewN _ _ _⟩|exact ⟨rfl,_,Eq.trans (World.drewN_drewN _ _ _) (congrArg (World.drewN _) (Nat.add_assoc _ _ _))⟩))|(go_at_call 50;(with_reducible refine (dioramaref19_in.calls a2 1 64 t203 _ A7.out).mono ?_);rintro e w' ⟨rfl,⟨nd,rfl⟩⟩;(try first|exact ⟨rfl,_,World.drewN_drewN _ _ _⟩|exact ⟨rfl,_,Eq.trans (World.drewN_drewN _ _ _) (congrArg (World.drewN _) (Nat.add_assoc _ _ _))⟩)))
    repeat (go_quiet (first|(go_at_call 50;(with_reducible refine (dioramaref19_in.calls a1 1 64 true _ A5.out).mono ?_);rintro e w' ⟨rfl,⟨nd,rfl⟩⟩;(try first|exact ⟨rfl,_,World.drewN_drewN _ _ _⟩|exact ⟨rfl,_,Eq.trans (World.drewN_drewN _ _ _) (congrArg (World.drewN _) (Nat.add_assoc _ _ _))⟩))|(go_at_call 50;(with_reducible refine (dioramaref19_in.calls a2 1 64 t203 _ A7.out).mono ?_);rintro e w' ⟨rfl,⟨nd,rfl⟩⟩;(try first|exact ⟨rfl,_,World.drewN_drewN _ _ _⟩|exact ⟨rfl,_,Eq.trans (World.drewN_drewN _ _ _) (congrArg (World.drewN _) (Nat.add_assoc _ _ _))⟩)));try go_wp2_with (first|(go_at_call 50;(with_reducible refine (dioramaref19_in.calls a1 1 64 true _ A5.out).mono ?_);rintro e w' ⟨rfl,⟨nd,rfl⟩⟩;(try first|exact ⟨rfl,_,World.drewN_drewN _ _ _⟩|exact ⟨rfl,_,Eq.trans (World.drewN_drewN _ _ _) (congrArg (World.drewN _) (Nat.add_assoc _ _ _))⟩))|(go_at_call 50;(with_reducible refine (dioramaref19_in.calls a2 1 64 t203 _ A7.out).mono ?_);rintro e w' ⟨rfl,⟨nd,rfl⟩⟩;(try first|exact ⟨rfl,_,World.drewN_drewN _ _ _⟩|exact ⟨rfl,_,Eq.trans (World.drewN_drewN _ _ _) (congrArg (World.drewN _) (Nat.add_assoc _ _ _))⟩))))
    go_meet
    case rel=>exact ⟨_,(!t203),okV,H',⟨by first|omega|exact Nat.le_refl _⟩,⟨belV HB.out⟩⟩
  replace c6:=Bool.eq_false_iff.mpr c6;subst c6
  have H1:(dioramaref19_Pixels.j0 k l0 a1 a2 true)=some (r1,r2):=by rw [if_neg (show ¬ (false=true) by decide)] at H;exact H
  clear H
  have H:=H1;clear H1
  have H':=Aside0.mk H;clear H
  go_wp2_with (first|(go_at_call 50;(with_reducible refine (dioramaref19_in.calls a1 1 64 false _ A5.out).mono ?_);rintro e w' ⟨rfl,⟨nd,rfl⟩⟩;(try first|exact ⟨rfl,_,World.drewN_drewN _ _ _⟩|exact ⟨rfl,_,Eq.trans (World.drewN_drewN _ _ _) (congrArg (World.drewN _) (Nat.add_assoc _ _ _))⟩)))
  repeat (go_quiet (first|(go_at_call 50;(with_reducible refine (dioramaref19_in.calls a1 1 64 false _ A5.out).mono ?_);rintro e w' ⟨rfl,⟨nd,rfl⟩⟩;(try first|exact ⟨rfl,_,World.drewN_drewN _ _ _⟩|exact ⟨rfl,_,Eq.trans (World.drewN_drewN _ _ _) (congrArg (World.drewN _) (Nat.add_assoc _ _ _))⟩)));try go_wp2_with (first|(go_at_call 50;(with_reducible refine (dioramaref19_in.calls a1 1 64 false _ A5.out).mono ?_);rintro e w' ⟨rfl,⟨nd,rfl⟩⟩;(try first|exact ⟨rfl,_,World.drewN_drewN _ _ _⟩|exact ⟨rfl,_,Eq.trans (World.drewN_drewN _ _ _) (congrArg (World.drewN _) (Nat.add_assoc _ _ _))⟩))))
  go_meet
  case rel=>exact ⟨_,(true),okV,H',⟨by first|omega|exact Nat.le_refl _⟩,⟨belV HB.out⟩⟩
 case rest =>
  clear HC4
  try clear c1;try clear p2;try clear c6
  obtain ⟨kq,x23_3,rfl,HA,HJ3,HB⟩:=hcut
  cases kq with
  | zero=>exact absurd HA.out (by simp [dioramaref19_Pixels.j0])
  | succ kj3 =>
   have H:=HA.out;clear HA
   simp only [dioramaref19_Pixels.j0] at H
   by_cases c8:x23_3=true
   · subst c8
     have H1:(some (([]:List Int),1))=some (r1,r2):=by rw [if_pos rfl] at H;exact H
     clear H
     have H:=H1;clear H1
     simp only [Option.some.injEq,Prod.mk.injEq] at H
     obtain ⟨rfl,rfl⟩:=H
     go_wp2
     repeat (go_quiet (fail);try go_wp2)
     go_ret2
     exact ⟨_,by first|rfl|(simp [errW_none,errW_some] <;> rfl)|(simp [*,errW_none,errW_some] <;> rfl),by first|exact Kd.R_nil _ _ _ _ _|exact Kd.N_nil _ _ _ _ _|exact Kd.V_nil _ _ _ _ _|exact Kd.Q_nil _ _ _ _ _|exact Kd.S_nil _ _ _ _ _,by repeat (first|(with_reducible first|exact HB.out|apply below_alloc|apply pw_below_drewN|apply below_drew1)|exact HB.out)⟩
   replace c8:=Bool.eq_false_iff.mpr c8;subst c8
   have H1:(dioramaref19_Pixels.l0 kj3 l0 a1 a2 ([]:List Int) 0 0)=some (r1,r2):=by rw [if_neg (show ¬ (false=true) by decide)] at H;exact H
   clear H
   have H:=H1;clear H1
   have H':=Aside0.mk H;clear H
   go_wp2
   repeat (go_quiet (fail);try go_wp2)
   go_loopg [8,9,10] kj3 (fun kq v8 v9 v10 w'=>∃ (x8_2:List Int) (x9_2:Int) (x10_2:Int),v9=.int .i64 x9_2∧v10=.int .i64 x10_2∧Aside0 (dioramaref19_Pixels.l0 kq l0 a1 a2 x8_2 x9_2 x10_2=some (r1,r2))∧Aside0 (kq≤kj3)∧Aside0 (Kd.R (Kd.int .i64) 3 w' w.heap.size (fun _=>True) v8 x8_2)∧Aside0 (Below w.heap.size w w'))
   case atStart=>exact ⟨(([]:List Int)),(0),(0),okV,okV,H',⟨Nat.le_refl _⟩,⟨by first|exact Kd.R_nil _ _ _ _ _|exact Kd.N_nil _ _ _ _ _|exact Kd.V_nil _ _ _ _ _|exact Kd.Q_nil _ _ _ _ _|exact Kd.S_nil _ _ _ _ _⟩,⟨belV HB.out⟩⟩
   case round =>
    clear H'
    try clear c1;try clear p2 p2;try clear c6;try clear c8
    obtain ⟨x8_2,x9_2,x10_2,rfl,rfl,HA,HK2,HO_8,HB⟩:=hrel
    cases gk with
    | zero=>exact absurd HA.out (by simp [dioramaref19_Pixels.l0])
    | succ k2 =>
     have H:=HA.out;clear HA
     simp only [dioramaref19_Pixels.l0] at H
     by_cases c9:x10_2 < a2
     · rw [if_pos c9] at H
       have c9b0:decide (x10_2 < a2)=true:=decide_eq_true c9;clear c9
       have H':=Aside0.mk H;clear H
       go_wp2
       repeat (go_quiet (fail);try go_wp2)
       go_loopg [8,9,11,12] k2 (fun kq v8 v9 v11 v12 w'=>∃ (x8_3:List Int) (x9_3:Int) (x11_3:Int) (x12_3:Int),v9=.int .i64 x9_3∧v11=.int .i64 x11_3∧v12=.int .i64 x12_3∧Aside0 (dioramaref19_Pixels.l1 kq l0 a1 a2 x8_3 x9_3 x10_2 x11_3 x12_3=some (r1,r2))∧Aside0 (kq≤k2)∧Aside0 (Kd.R (Kd.int .i64) 3 w' w.heap.size (fun _=>True) v8 x8_3)∧Aside0 (Below w.heap.size w w'))
       case atStart=>exact ⟨(x8_2),(x9_2),(a1),((-1)),okV,okV,okV,H',⟨Nat.le_refl _⟩,⟨rowV HO_8.out⟩,⟨belV HB.out⟩⟩
       case round =>
        clear H'
        try clear c1;try clear p2 p2;try clear c6;try clear c8;try clear c9;try clear c9b0
        obtain ⟨x8_3,x9_3,x11_3,x12_3,rfl,rfl,rfl,HA,HK3,HO_8,HB⟩:=hrel
        cases gk with
        | zero=>exact absurd HA.out (by simp [dioramaref19_Pixels.l1])
        | succ k3 =>
         have H:=HA.out;clear HA
         simp only [dioramaref19_Pixels.l1] at H
         by_cases c10:x11_3 > 0
         · rw [if_pos c10] at H
           have c10b0:decide (0 < x11_3)=true:=decide_eq_true c10;clear c10
           by_cases c11:x9_3≥(l0.length:Int)
           · rw [if_pos c11] at H
             have c11b0:decide ((l0.length:Int)≤x9_3)=true:=decide_eq_true c11;clear c11
             simp only [Option.some.injEq,Prod.mk.injEq] at H
             obtain ⟨rfl,rfl⟩:=H
             go_wp2
             repeat (go_quiet (fail);try go_wp2)
             go_ret2
             exact ⟨_,by first|rfl|(simp [errW_none,errW_some] <;> rfl)|(simp [*,errW_none,errW_some] <;> rfl),by first|exact Kd.R_nil _ _ _ _ _|exact Kd.N_nil _ _ _ _ _|exact Kd.V_nil _ _ _ _ _|exact Kd.Q_nil _ _ _ _ _|exact Kd.S_nil _ _ _ _ _,by repeat (first|(with_reducible first|exact HB.out|apply below_alloc|apply pw_below_drewN|apply below_drew1)|exact HB.out)⟩
           rw [if_neg c11] at H
           have c11b0:decide ((l0.length:Int)≤x9_3)=false:=decide_eq_false c11;clear c11
           by_cases c12:0≤x9_3
           · rw [if_pos c12] at H
             have c12b0:decide (0≤x9_3)=true:=decide_eq_true c12;clear c12
             by_cases c13:x9_3 < (l0.length:Int)
             · rw [if_pos c13] at H
               have c13b0:decide (x9_3 < (l0.length:Int))=true:=decide_eq_true c13;clear c13
               have HC14:=Aside0.mk H;clear H
               have p204:0≤(x9_3:Int):=of_decide_eq_true asV
               have q204:x9_3 < (l0.length:Int):=of_decide_eq_true asV
               obtain ⟨ad204,e204,hx204_0⟩:=Kd.at_int HR0.out x9_3 p204 q204
               cases e204
               replace hx204_0:=(HB.out.cell (World.block_lt_of_cell? w _ hx204_0)).trans hx204_0
               replace p204:=eq_true p204
               replace q204:=eq_true q204
               have p205:0≤(x9_3:Int):=of_decide_eq_true asV
               have q205:x9_3 < (l0.length:Int):=of_decide_eq_true asV
               obtain ⟨ad205,e205,hx205_0⟩:=Kd.at_int HR0.out x9_3 p205 q205
               obtain rfl:ad204=ad205:=(by injection e205)
               replace hx205_0:=(HB.out.cell (World.block_lt_of_cell? w _ hx205_0)).trans hx205_0
               replace p205:=eq_true p205
               replace q205:=eq_true q205
               go_upto_if 51 with (fail)
               repeat (go_quiet (fail);go_upto_if 51 with (fail))
               go_cut [9,14] (fun v9 v14 wc=>∃ (kq:Nat) (x9_13:Int) (x14_13:Int),v9=.int .i64 x9_13∧v14=.int .i64 x14_13∧Aside0 (dioramaref19_Pixels.j3 kq l0 a1 a2 x8_3 x9_13 x10_2 x11_3 x12_3 (wrap64 (Int.tdiv (wrap64 (rd l0 x9_3)) 16)) x14_13=some (r1,r2))∧Aside0 (kq≤k3)∧Aside0 (Kd.R (Kd.int .i64) 3 wc w.heap.size (fun _=>True) u8 x8_3)∧Aside0 (Below w.heap.size w wc))
               case first =>
                have H:=HC14.out;clear HC14
                by_cases c15:(Int.tmod (wrap64 (rd l0 x9_3)) 16)=15
                · rw [if_pos c15] at H
                  have c15b0:((Int.tmod (wrap64 (rd l0 x9_3)) 16) == 15)=true:=beq_iff_eq.mpr c15
                  have c15b1:((Int.tmod (wrap64 (rd l0 x9_3)) 16) != 15)=false:=bne_eq_false_iff_eq.mpr c15;clear c15
                  (first|rw [c15b0]|(simp only [i64_w,i32_w];rw [c15b0])|rw [c15b1]|skip)
                  by_cases c16:(wrap64 (x9_3+1))≥(l0.length:Int)
                  · rw [if_pos c16] at H
                    have c16b0:decide ((l0.length:Int)≤(wrap64 (x9_3+1)))=true:=decide_eq_true c16;clear c16
                    simp only [Option.some.injEq,Prod.mk.injEq] at H
                    obtain ⟨rfl,rfl⟩:=H
                    go_wp2
                    repeat (go_quiet (fail);try go_wp2)
                    go_ret2
                    exact ⟨_,by first|rfl|(simp [errW_none,errW_some] <;> rfl)|(simp [*,errW_none,errW_some] <;> rfl),by first|exact Kd.R_nil _ _ _ _ _|exact Kd.N_nil _ _ _ _ _|exact Kd.V_nil _ _ _ _ _|exact Kd.Q_nil _ _ _ _ _|exact Kd.S_nil _ _ _ _ _,by repeat (first|(with_reducible first|exact HB.out|apply below_alloc|apply pw_below_drewN|apply below_drew1)|exact HB.out)⟩
                  rw [if_neg c16] at H
                  have c16b0:decide ((l0.length:Int)≤(wrap64 (x9_3+1)))=false:=decide_eq_false c16;clear c16
                  obtain ⟨ji17,hji17⟩:∃ j_:Int,(wrap64 (x9_3+1))=j_:=⟨_,rfl⟩
                  replace H:(if 0≤(ji17) then (if (ji17) < (l0.length:Int) then (if (wrap64 (15+(wrap64 (rd l0 (ji17))))) > 63 then (some (([]:List Int),4)) else (dioramaref19_Pixels.j3 k3 l0 a1 a2 x8_3 (wrap64 ((ji17)+1)) x10_2 x11_3 x12_3 (wrap64 (Int.tdiv (wrap64 (rd l0 x9_3)) 16)) (wrap64 (15+(wrap64 (rd l0 (ji17))))))) else (none)) else (none))=some (r1,r2):=by first|(rw [hji17] at H;exact H)|(simp only [hji17] at H ⊢;exact H)
                  (try rw [hji17] at c16b0)
                  have hji17w:(IntKind.i64.wrap (x9_3+1))=ji17:=(i64_w _).trans hji17
                  by_cases c18:0≤(ji17)
                  · rw [if_pos c18] at H
                    have c18b0:decide (0≤(ji17))=true:=decide_eq_true c18;clear c18
                    by_cases c19:(ji17) < (l0.length:Int)
                    · rw [if_pos c19] at H
                      have c19b0:decide ((ji17) < (l0.length:Int))=true:=decide_eq_true c19;clear c19
                      by_cases c20:(wrap64 (15+(wrap64 (rd l0 (ji17))))) > 63
                      · rw [if_pos c20] at H
                        have c20b0:decide (63 < (wrap64 (15+(wrap64 (rd l0 (ji17))))))=true:=decide_eq_true c20;clear c20
                        simp only [Option.some.injEq,Prod.mk.injEq] at H
                        obtain ⟨rfl,rfl⟩:=H
                        have p206:0≤((ji17):Int):=of_decide_eq_true asV
                        have q206:(ji17) < (l0.length:Int):=of_decide_eq_true asV
                        obtain ⟨ad206,e206,hx206_0⟩:=Kd.at_int HR0.out (ji17) p206 q206
                        obtain rfl:ad204=ad206:=(by injection e206)
                        replace hx206_0:=(HB.out.cell (World.block_lt_of_cell? w _ hx206_0)).trans hx206_0
                        replace p206:=eq_true p206
                        replace q206:=eq_true q206
                        go_wp2
                        repeat (go_quiet (fail);try go_wp2)
                        go_ret2
                        exact ⟨_,by first|rfl|(simp [errW_none,errW_some] <;> rfl)|(simp only [← hji17];first|rfl|(simp [errW_none,errW_some] <;> rfl))|(simp [*,errW_none,errW_some] <;> rfl),by first|exact Kd.R_nil _ _ _ _ _|exact Kd.N_nil _ _ _ _ _|exact Kd.V_nil _ _ _ _ _|exact Kd.Q_nil _ _ _ _ _|exact Kd.S_nil _ _ _ _ _,by repeat (first|(with_reducible first|exact HB.out|apply below_alloc|apply pw_below_drewN|apply below_drew1)|exact HB.out)⟩
                      rw [if_neg c20] at H
                      have c20b0:decide (63 < (wrap64 (15+(wrap64 (rd l0 (ji17))))))=false:=decide_eq_false c20;clear c20
                      have H':=Aside0.mk H;clear H
                      have p206:0≤((ji17):Int):=of_decide_eq_true asV
                      have q206:(ji17) < (l0.length:Int):=of_decide_eq_true asV
                      obtain ⟨ad206,e206,hx206_0⟩:=Kd.at_int HR0.out (ji17) p206 q206
                      obtain rfl:ad204=ad206:=(by injection e206)
                      replace hx206_0:=(HB.out.cell (World.block_lt_of_cell? w _ hx206_0)).trans hx206_0
                      replace p206:=eq_true p206
                      replace q206:=eq_true q206
                      go_wp2
                      repeat (go_quiet (fail);try go_wp2)
                      go_meet
                      case rel=>exact ⟨_,(wrap64 ((ji17)+1)),(wrap64 (15+(wrap64 (rd l0 (ji17))))),(by first|rfl|(simp;done)|(simp only [← hji17] <;> (first|rfl|simp))|(simp [*];done)),(by first|rfl|(simp;done)|(simp only [← hji17] <;> (first|rfl|simp))|(simp [*];done)),H',⟨by have:=HJ3.out;have:=HK2.out;have:=HK3.out;first|omega|exact Nat.le_refl _⟩,⟨rowV HO_8.out⟩,⟨belV HB.out⟩⟩
                    rw [if_neg c19] at H
                    exact absurd H (by simp)
                  rw [if_neg c18] at H
                  exact absurd H (by simp)
                rw [if_neg c15] at H
                have c15b0:((Int.tmod (wrap64 (rd l0 x9_3)) 16) == 15)=false:=beq_eq_false_iff_ne.mpr c15
                have c15b1:((Int.tmod (wrap64 (rd l0 x9_3)) 16) != 15)=true:=bne_iff_ne.mpr c15
                (first|rw [c15b0]|(simp only [i64_w,i32_w];rw [c15b0])|rw [c15b1]|skip)
                have H':=Aside0.mk H;clear H
                go_wp2
                repeat (go_quiet (fail);try go_wp2)
                go_meet
                case rel=>exact ⟨_,(wrap64 (x9_3+1)),(Int.tmod (wrap64 (rd l0 x9_3)) 16),okV,okV,H',⟨by have:=HJ3.out;have:=HK2.out;have:=HK3.out;first|omega|exact Nat.le_refl _⟩,⟨rowV HO_8.out⟩,⟨belV HB.out⟩⟩
               case rest =>
                clear HC14
                try clear c1;try clear c2;try clear p2 p2;try clear q2;try clear hx2;try clear c6;try clear p6;try clear c8;try clear c9;try clear c9b0;try clear c10;try clear c10b0;try clear c11;try clear c11b0;try clear c12;try clear c12b0;try clear c13;try clear c13b0;try clear c15;try clear c15b0;try clear c15b1;try clear c16;try clear c16b0;try clear c18;try clear c18b0;try clear c19;try clear c19b0;try clear c20;try clear c20b0;try clear p20;try clear q20;try clear hx20;try clear hx204_0;try clear hx205_0;try clear hx206_0;try clear p204;try clear p205;try clear p206;try clear q204;try clear q205;try clear q206
                obtain ⟨kq,x9_13,x14_13,rfl,rfl,HA,HJ13,HO_8,HB⟩:=hcut
                cases kq with
                | zero=>exact absurd HA.out (by simp [dioramaref19_Pixels.j3])
                | succ kj13 =>
                 have H:=HA.out;clear HA
                 simp only [dioramaref19_Pixels.j3] at H
                 have HC21:=Aside0.mk H;clear H
                 go_upto_region 21 with (fail)
                 repeat (go_quiet (fail);go_upto_region 21 with (fail))
                 go_cut [73] (fun v73 wc=>∃ (kq:Nat) (x73_20:Bool),v73=.bool x73_20∧Aside0 (dioramaref19_Pixels.j4 kq l0 a1 a2 x8_3 x9_13 x10_2 x11_3 (wrap64 (Int.tdiv (wrap64 (rd l0 x9_3)) 16)) x14_13 x73_20=some (r1,r2))∧Aside0 (kq≤kj13)∧Aside0 (Kd.R (Kd.int .i64) 3 wc w.heap.size (fun _=>True) u8 x8_3)∧Aside0 (Below w.heap.size w wc))
                 case first =>
                  have H:=HC21.out;clear HC21
                  by_cases c22:(wrap64 (Int.tdiv (wrap64 (rd l0 x9_3)) 16))=x12_3
                  · rw [if_pos c22] at H
                    have c22b0:((wrap64 (Int.tdiv (wrap64 (rd l0 x9_3)) 16)) == x12_3)=true:=beq_iff_eq.mpr c22
                    have c22b1:((wrap64 (Int.tdiv (wrap64 (rd l0 x9_3)) 16)) != x12_3)=false:=bne_eq_false_iff_eq.mpr c22;clear c22
                    (first|rw [c22b0]|(simp only [i64_w,i32_w];rw [c22b0])|rw [c22b1]|skip)
                    have H':=Aside0.mk H;clear H
                    go_wp2
                    repeat (go_quiet (fail);try go_wp2)
                    go_meet
                    case rel=>exact ⟨_,(true),okV,H',⟨by have:=HJ3.out;have:=HK2.out;have:=HK3.out;have:=HJ13.out;first|omega|exact Nat.le_refl _⟩,⟨rowV HO_8.out⟩,⟨belV HB.out⟩⟩
                  rw [if_neg c22] at H
                  have c22b0:((wrap64 (Int.tdiv (wrap64 (rd l0 x9_3)) 16)) == x12_3)=false:=beq_eq_false_iff_ne.mpr c22
                  have c22b1:((wrap64 (Int.tdiv (wrap64 (rd l0 x9_3)) 16)) != x12_3)=true:=bne_iff_ne.mpr c22
                  (first|rw [c22b0]|(simp only [i64_w,i32_w];rw [c22b0])|rw [c22b1]|skip)
                  have H':=Aside0.mk H;clear H
                  go_wp2
                  repeat (go_quiet (fail);try go_wp2)
                  go_meet
                  case rel=>exact ⟨_,(decide (x14_13≥x11_3)),okV,H',⟨by have:=HJ3.out;have:=HK2.out;have:=HK3.out;have:=HJ13.out;first|omega|exact Nat.le_refl _⟩,⟨rowV HO_8.out⟩,⟨belV HB.out⟩⟩
                 case rest =>
                  clear HC21
                  try clear c1;try clear c2;try clear p2 p2;try clear q2 q2;try clear hx2;try clear c6;try clear p6 p6;try clear c8;try clear c9;try clear c9b0;try clear c10;try clear c10b0;try clear c11;try clear c11b0;try clear c12;try clear c12b0;try clear c13;try clear c13b0;try clear c15;try clear c15b0;try clear c15b1;try clear c16;try clear c16b0;try clear c18;try clear c18b0;try clear c19;try clear c19b0;try clear c20;try clear c20b0;try clear p20 p20;try clear q20 q20;try clear hx20;try clear c22;try clear c22b0;try clear c22b1;try clear hx204_0;try clear hx205_0;try clear hx206_0;try clear p204;try clear p205;try clear p206;try clear q204;try clear q205;try clear q206
                  obtain ⟨kq,x73_20,rfl,HA,HJ20,HO_8,HB⟩:=hcut
                  cases kq with
                  | zero=>exact absurd HA.out (by simp [dioramaref19_Pixels.j4])
                  | succ kj20 =>
                   have H:=HA.out;clear HA
                   simp only [dioramaref19_Pixels.j4] at H
                   by_cases c23:x73_20=true
                   · subst c23
                     have H1:(some (([]:List Int),4))=some (r1,r2):=by rw [if_pos rfl] at H;exact H
                     clear H
                     have H:=H1;clear H1
                     simp only [Option.some.injEq,Prod.mk.injEq] at H
                     obtain ⟨rfl,rfl⟩:=H
                     go_wp2
                     repeat (go_quiet (fail);try go_wp2)
                     go_ret2
                     exact ⟨_,by first|rfl|(simp [errW_none,errW_some] <;> rfl)|(simp [*,errW_none,errW_some] <;> rfl),by first|exact Kd.R_nil _ _ _ _ _|exact Kd.N_nil _ _ _ _ _|exact Kd.V_nil _ _ _ _ _|exact Kd.Q_nil _ _ _ _ _|exact Kd.S_nil _ _ _ _ _,by repeat (first|(with_reducible first|exact HB.out|apply below_alloc|apply pw_below_drewN|apply below_drew1)|exact HB.out)⟩
                   replace c23:=Bool.eq_false_iff.mpr c23;subst c23
                   have H1:(if x14_13=0 then (dioramaref19_Pixels.j5 kj20 l0 a1 a2 x8_3 x9_13 x10_2 x11_3 (wrap64 (Int.tdiv (wrap64 (rd l0 x9_3)) 16)) x11_3) else (dioramaref19_Pixels.j5 kj20 l0 a1 a2 x8_3 x9_13 x10_2 x11_3 (wrap64 (Int.tdiv (wrap64 (rd l0 x9_3)) 16)) x14_13))=some (r1,r2):=by rw [if_neg (show ¬ (false=true) by decide)] at H;exact H
                   clear H
                   have H:=H1;clear H1
                   have HC24:=Aside0.mk H;clear H
                   go_upto_if 75 with (fail)
                   repeat (go_quiet (fail);go_upto_if 75 with (fail))
                   go_cut [14] (fun v14 wc=>∃ (kq:Nat) (x14_23:Int),v14=.int .i64 x14_23∧Aside0 (dioramaref19_Pixels.j5 kq l0 a1 a2 x8_3 x9_13 x10_2 x11_3 (wrap64 (Int.tdiv (wrap64 (rd l0 x9_3)) 16)) x14_23=some (r1,r2))∧Aside0 (kq≤kj20)∧Aside0 (Kd.R (Kd.int .i64) 3 wc w.heap.size (fun _=>True) u8 x8_3)∧Aside0 (Below w.heap.size w wc))
                   case first =>
                    have H:=HC24.out;clear HC24
                    by_cases c25:x14_13=0
                    · rw [if_pos c25] at H
                      have c25b0:(x14_13 == 0)=true:=beq_iff_eq.mpr c25
                      have c25b1:(x14_13 != 0)=false:=bne_eq_false_iff_eq.mpr c25;clear c25
                      (first|rw [c25b0]|(simp only [i64_w,i32_w];rw [c25b0])|rw [c25b1]|skip)
                      have H':=Aside0.mk H;clear H
                      go_wp2
                      repeat (go_quiet (fail);try go_wp2)
                      go_meet
                      case rel=>exact ⟨_,(x11_3),okV,H',⟨by have:=HJ3.out;have:=HK2.out;have:=HK3.out;have:=HJ13.out;have:=HJ20.out;first|omega|exact Nat.le_refl _⟩,⟨rowV HO_8.out⟩,⟨belV HB.out⟩⟩
                    rw [if_neg c25] at H
                    have c25b0:(x14_13 == 0)=false:=beq_eq_false_iff_ne.mpr c25
                    have c25b1:(x14_13 != 0)=true:=bne_iff_ne.mpr c25
                    (first|rw [c25b0]|(simp only [i64_w,i32_w];rw [c25b0])|rw [c25b1]|skip)
                    have H':=Aside0.mk H;clear H
                    go_wp2
                    repeat (go_quiet (fail);try go_wp2)
                    go_meet
                    case rel=>exact ⟨_,(x14_13),okV,H',⟨by have:=HJ3.out;have:=HK2.out;have:=HK3.out;have:=HJ13.out;have:=HJ20.out;first|omega|exact Nat.le_refl _⟩,⟨rowV HO_8.out⟩,⟨belV HB.out⟩⟩
                   case rest =>
                    clear HC24
                    try clear c1;try clear c2;try clear p2 p2;try clear q2 q2;try clear hx2;try clear c6;try clear p6 p6;try clear c8;try clear c9;try clear c9b0;try clear c10;try clear c10b0;try clear c11;try clear c11b0;try clear c12;try clear c12b0;try clear c13;try clear c13b0;try clear c15;try clear c15b0;try clear c15b1;try clear c16;try clear c16b0;try clear c18;try clear c18b0;try clear c19;try clear c19b0;try clear c20;try clear c20b0;try clear p20 p20;try clear q20 q20;try clear hx20;try clear c22;try clear c22b0;try clear c22b1;try clear c23;try clear c25;try clear c25b0;try clear c25b1;try clear hx204_0;try clear hx205_0;try clear hx206_0;try clear p204;try clear p205;try clear p206;try clear q204;try clear q205;try clear q206
                    obtain ⟨kq,x14_23,rfl,HA,HJ23,HO_8,HB⟩:=hcut
                    cases kq with
                    | zero=>exact absurd HA.out (by simp [dioramaref19_Pixels.j5])
                    | succ kj23 =>
                     have H:=HA.out;clear HA
                     simp only [dioramaref19_Pixels.j5] at H
                     have H':=Aside0.mk H;clear H
                     go_wp2
                     repeat (go_quiet (fail);try go_wp2)
                     go_loopg [8,15] kj23 (fun kq v8 v15 w'=>∃ (x8_7:List Int) (x15_7:Int),v15=.int .i64 x15_7∧Aside0 (dioramaref19_Pixels.l2 kq l0 a1 a2 x8_7 x9_13 x10_2 x11_3 (wrap64 (Int.tdiv (wrap64 (rd l0 x9_3)) 16)) x14_23 x15_7=some (r1,r2))∧Aside0 (kq≤kj23)∧Aside0 (Kd.R (Kd.int .i64) 3 w' w.heap.size (fun _=>True) v8 x8_7)∧Aside0 (Below w.heap.size w w'))
                     case atStart=>exact ⟨(x8_3),(0),okV,H',⟨Nat.le_refl _⟩,⟨rowV HO_8.out⟩,⟨belV HB.out⟩⟩
                     case round =>
                      clear H'
                      try clear c1;try clear c2;try clear p2 p2;try clear q2 q2;try clear hx2;try clear c6;try clear p6 p6;try clear c8;try clear c9;try clear c9b0;try clear c10;try clear c10b0;try clear c11;try clear c11b0;try clear c12;try clear c12b0;try clear c13;try clear c13b0;try clear c15;try clear c15b0;try clear c15b1;try clear c16;try clear c16b0;try clear c18;try clear c18b0;try clear c19;try clear c19b0;try clear c20;try clear c20b0;try clear p20 p20;try clear q20 q20;try clear hx20;try clear c22;try clear c22b0;try clear c22b1;try clear c23;try clear c25;try clear c25b0;try clear c25b1;try clear hx204_0;try clear hx205_0;try clear hx206_0;try clear p204;try clear p205;try clear p206;try clear q204;try clear q205;try clear q206
                      obtain ⟨x8_7,x15_7,rfl,HA,HK7,HO_8,HB⟩:=hrel
                      cases gk with
                      | zero=>exact absurd HA.out (by simp [dioramaref19_Pixels.l2])
                      | succ k7 =>
                       have H:=HA.out;clear HA
                       simp only [dioramaref19_Pixels.l2] at H
                       by_cases c26:x15_7 < x14_23
                       · rw [if_pos c26] at H
                         have c26b0:decide (x15_7 < x14_23)=true:=decide_eq_true c26;clear c26
                         by_cases c27:x8_7.length < 17592186044416
                         · rw [if_pos c27] at H
                           have LMc27:=Aside0.mk c27;clear c27
                           obtain ⟨y207,hy207⟩:∃ y_:List Int,y_=(x8_7 ++ [(wrap64 (Int.tdiv (wrap64 (rd l0 x9_3)) 16))]):=⟨_,rfl⟩
                           replace H:(dioramaref19_Pixels.l2 k7 l0 a1 a2 y207 x9_13 x10_2 x11_3 (wrap64 (Int.tdiv (wrap64 (rd l0 x9_3)) 16)) x14_23 (wrap64 (x15_7+1)))=some (r1,r2):=by first|(rw [hy207];with_reducible exact H)|(have H2_:=(Option.bind_some _ _).symm.trans H;rw [hy207];with_reducible exact H2_)|(have H2_:=(Option.bind_some _ _).symm.trans H;with_reducible exact H2_)|with_reducible exact H|(rw [hy207];exact H)|exact H
                           have Ny207:=Aside0.mk hy207;clear hy207
                           have H':=Aside0.mk H;clear H
                           go_wp2_with (first|((with_reducible refine gate_builtin (b:=.append) (xs:=#[.tmp 82,.tmp 84]) rfl ?_);at_builtin;refine Kd.R_append (Kd.int .i64) (w0:=w) w.heap.size rfl (.tmp 82) (.tmp 84) 22 3 (.int .i64 0) 8 rfl Try.underlying22 info3 rfl (by decide) (by omega) u8 x8_7 (wrap64 (Int.tdiv (wrap64 (rd l0 x9_3)) 16)) [.int .i64 (wrap64 (Int.tdiv (wrap64 (rd l0 x9_3)) 16))] (fun _=>True) (fun _=>False) rfl rfl ?aP (fun _ hk=>hk.elim) ?aF ?aO ?aB ?aS ?aL ?_;(case aP=>exact rfl);(case aB=>exact (belV HB.out));(case aF=>exact (fun _ _=>trivial));(case aO=>exact (rowV HO_8.out));(case aS=>exact (below_size (belV HB.out)));(case aL=>have:=LMc27.out;omega);intro v208 w28 ho hb hg hat;rw [← Ny207.out] at ho;have n0_:=Aside0.mk (hb);have n1_:=Aside0.mk (ho);clear HB;clear HO_8;have HB:=n0_;have HO209:=n1_;clear n0_ n1_;clear ho hb hg hat))
                           repeat (go_quiet (fail);try go_wp2_with (first|((with_reducible refine gate_builtin (b:=.append) (xs:=#[.tmp 82,.tmp 84]) rfl ?_);at_builtin;refine Kd.R_append (Kd.int .i64) (w0:=w) w.heap.size rfl (.tmp 82) (.tmp 84) 22 3 (.int .i64 0) 8 rfl Try.underlying22 info3 rfl (by decide) (by omega) u8 x8_7 (wrap64 (Int.tdiv (wrap64 (rd l0 x9_3)) 16)) [.int .i64 (wrap64 (Int.tdiv (wrap64 (rd l0 x9_3)) 16))] (fun _=>True) (fun _=>False) rfl rfl ?aP (fun _ hk=>hk.elim) ?aF ?aO ?aB ?aS ?aL ?_;(case aP=>exact rfl);(case aB=>exact (belV HB.out));(case aF=>exact (fun _ _=>trivial));(case aO=>exact (rowV HO_8.out));(case aS=>exact (below_size (belV HB.out)));(case aL=>have:=LMc27.out;omega);intro v208 w28 ho hb hg hat;rw [← Ny207.out] at ho;have n0_:=Aside0.mk (hb);have n1_:=Aside0.mk (ho);clear HB;clear HO_8;have HB:=n0_;have HO209:=n1_;clear n0_ n1_;clear ho hb hg hat)))
                           go_roundg k7
                           case measure=>have:=HJ3.out;have:=HK2.out;have:=HK3.out;have:=HJ13.out;have:=HJ20.out;have:=HJ23.out;have:=HK7.out;omega
                           case rel=>exact ⟨(y207),(wrap64 (x15_7+1)),okV,H',⟨by have:=HJ3.out;have:=HK2.out;have:=HK3.out;have:=HJ13.out;have:=HJ20.out;have:=HJ23.out;have:=HK7.out;omega⟩,⟨rowV HO209.out⟩,⟨belV HB.out⟩⟩
                         rw [if_neg c27] at H
                         exact absurd H (by simp)
                       rw [if_neg c26] at H
                       have c26b0:decide (x15_7 < x14_23)=false:=decide_eq_false c26;clear c26
                       have H':=Aside0.mk H;clear H
                       go_wp2
                       repeat (go_quiet (fail);try go_wp2)
                       go_roundg k7
                       case measure=>have:=HJ3.out;have:=HK2.out;have:=HK3.out;have:=HJ13.out;have:=HJ20.out;have:=HJ23.out;have:=HK7.out;omega
                       case rel=>exact ⟨(x8_7),(x9_13),(wrap64 (x11_3 - x14_23)),((wrap64 (Int.tdiv (wrap64 (rd l0 x9_3)) 16))),okV,okV,okV,H',⟨by have:=HJ3.out;have:=HK2.out;have:=HK3.out;have:=HJ13.out;have:=HJ20.out;have:=HJ23.out;have:=HK7.out;omega⟩,⟨rowV HO_8.out⟩,⟨belV HB.out⟩⟩
             rw [if_neg c13] at H
             exact absurd H (by simp)
           rw [if_neg c12] at H
           exact absurd H (by simp)
         rw [if_neg c10] at H
         have c10b0:decide (0 < x11_3)=false:=decide_eq_false c10;clear c10
         have H':=Aside0.mk H;clear H
         go_wp2
         repeat (go_quiet (fail);try go_wp2)
         go_roundg k3
         case measure=>have:=HJ3.out;have:=HK2.out;have:=HK3.out;omega
         case rel=>exact ⟨(x8_3),(x9_3),(wrap64 (x10_2+1)),okV,okV,H',⟨by have:=HJ3.out;have:=HK2.out;have:=HK3.out;omega⟩,⟨rowV HO_8.out⟩,⟨belV HB.out⟩⟩
     rw [if_neg c9] at H
     have c9b0:decide (x10_2 < a2)=false:=decide_eq_false c9;clear c9
     by_cases c29:x9_2 < (l0.length:Int)
     · rw [if_pos c29] at H
       have c29b0:decide (x9_2 < (l0.length:Int))=true:=decide_eq_true c29;clear c29
       simp only [Option.some.injEq,Prod.mk.injEq] at H
       obtain ⟨rfl,rfl⟩:=H
       go_wp2
       repeat (go_quiet (fail);try go_wp2)
       go_ret2
       exact ⟨_,by first|rfl|(simp [errW_none,errW_some] <;> rfl)|(simp [*,errW_none,errW_some] <;> rfl),by first|exact Kd.R_nil _ _ _ _ _|exact Kd.N_nil _ _ _ _ _|exact Kd.V_nil _ _ _ _ _|exact Kd.Q_nil _ _ _ _ _|exact Kd.S_nil _ _ _ _ _,by repeat (first|(with_reducible first|exact HB.out|apply below_alloc|apply pw_below_drewN|apply below_drew1)|exact HB.out)⟩
     rw [if_neg c29] at H
     have c29b0:decide (x9_2 < (l0.length:Int))=false:=decide_eq_false c29;clear c29
     simp only [Option.some.injEq,Prod.mk.injEq] at H
     obtain ⟨rfl,rfl⟩:=H
     go_wp2
     repeat (go_quiet (fail);try go_wp2)
     go_ret2
     exact ⟨_,by first|rfl|(simp [errW_none,errW_some] <;> rfl)|(simp [*,errW_none,errW_some] <;> rfl),by (with_reducible repeat (first|apply Kd.R_alloc|apply Kd.R_drewN|apply Kd.R_drew));exact HO_8.out,by repeat (first|(with_reducible first|exact HB.out|apply below_alloc|apply pw_below_drewN|apply below_drew1)|exact HB.out)⟩

/-! ### dioramaref19_place: function 73 -/
def dioramaref19_place.f (a0_0 : Int) (a0_1 : Int) (a0_2 : Int) (a0_3 : Int) (l0_4 : List Int) : Option (Int) := (dioramaref19_in.f a0_0 0 999).bind fun t211 => (if t211 = true then ((dioramaref19_in.f a0_1 0 999).bind fun t212 => (if t212 = true then ((dioramaref19_in.f a0_2 1 64).bind fun t213 => (if t213 = true then ((dioramaref19_in.f a0_3 1 64).bind fun t214 => (if t214 = true then (some 0) else (some 1))) else (some 1))) else (some 1))) else (some 1))
set_option maxHeartbeats 8000000 in
set_option maxRecDepth 100000 in
theorem dioramaref19_place.calls (a0_0:Int) (a0_1:Int) (a0_2:Int) (a0_3:Int) (A0_4:Option Addr) (c0_4:Nat) (l0_4:List Int) (r:Int) (w:World) (hr0_4:Kd.C (Kd.int .i64) w A0_4 l0_4.length l0_4) (hc0_4:l0_4.length≤c0_4) (h:dioramaref19_place.f a0_0 a0_1 a0_2 a0_3 l0_4=some r) :
 Calls Try.prog 73 #[.agg #[.int .i64 a0_0,.int .i64 a0_1,.int .i64 a0_2,.int .i64 a0_3,.slice A0_4 l0_4.length c0_4]] w fun e w'=>e=.returned (.int .i64 r)∧Below w.heap.size w w':=by
 have hu91:=Try.underlying91
 have HR0_4:=Aside0.mk hr0_4
 have HC0_4:=Aside0.mk hc0_4;clear hr0_4 hc0_4;have HB:=Aside0.mk (Below.refl w.heap.size w)
 have H:((dioramaref19_in.f a0_0 0 999).bind fun t211=>(if t211=true then ((dioramaref19_in.f a0_1 0 999).bind fun t212=>(if t212=true then ((dioramaref19_in.f a0_2 1 64).bind fun t213=>(if t213=true then ((dioramaref19_in.f a0_3 1 64).bind fun t214=>(if t214=true then (some 0) else (some 1))) else (some 1))) else (some 1))) else (some 1)))=some r:=h
 clear h
 replace H:=Option.bind_eq_some_iff.mp H
 obtain ⟨t211,A20,H⟩:=H
 replace H:(if t211=true then ((dioramaref19_in.f a0_1 0 999).bind fun t212=>(if t212=true then ((dioramaref19_in.f a0_2 1 64).bind fun t213=>(if t213=true then ((dioramaref19_in.f a0_3 1 64).bind fun t214=>(if t214=true then (some 0) else (some 1))) else (some 1))) else (some 1))) else (some 1))=some r:=H
 have A2:=Aside0.mk A20;clear A20
 by_cases c3:t211=true
 · subst c3
   have H1:((dioramaref19_in.f a0_1 0 999).bind fun t212=>(if t212=true then ((dioramaref19_in.f a0_2 1 64).bind fun t213=>(if t213=true then ((dioramaref19_in.f a0_3 1 64).bind fun t214=>(if t214=true then (some 0) else (some 1))) else (some 1))) else (some 1)))=some r:=by rw [if_pos rfl] at H;exact H
   clear H
   have H:=H1;clear H1
   replace H:=Option.bind_eq_some_iff.mp H
   obtain ⟨t212,A40,H⟩:=H
   replace H:(if t212=true then ((dioramaref19_in.f a0_2 1 64).bind fun t213=>(if t213=true then ((dioramaref19_in.f a0_3 1 64).bind fun t214=>(if t214=true then (some 0) else (some 1))) else (some 1))) else (some 1))=some r:=H
   have A4:=Aside0.mk A40;clear A40
   by_cases c5:t212=true
   · subst c5
     have H1:((dioramaref19_in.f a0_2 1 64).bind fun t213=>(if t213=true then ((dioramaref19_in.f a0_3 1 64).bind fun t214=>(if t214=true then (some 0) else (some 1))) else (some 1)))=some r:=by rw [if_pos rfl] at H;exact H
     clear H
     have H:=H1;clear H1
     replace H:=Option.bind_eq_some_iff.mp H
     obtain ⟨t213,A60,H⟩:=H
     replace H:(if t213=true then ((dioramaref19_in.f a0_3 1 64).bind fun t214=>(if t214=true then (some 0) else (some 1))) else (some 1))=some r:=H
     have A6:=Aside0.mk A60;clear A60
     by_cases c7:t213=true
     · subst c7
       have H1:((dioramaref19_in.f a0_3 1 64).bind fun t214=>(if t214=true then (some 0) else (some 1)))=some r:=by rw [if_pos rfl] at H;exact H
       clear H
       have H:=H1;clear H1
       replace H:=Option.bind_eq_some_iff.mp H
       obtain ⟨t214,A80,H⟩:=H
       replace H:(if t214=true then (some 0) else (some 1))=some r:=H
       have A8:=Aside0.mk A80;clear A80
       by_cases c9:t214=true
       · subst c9
         have H1:(some 0)=some r:=by rw [if_pos rfl] at H;exact H
         clear H
         have H:=H1;clear H1
         obtain rfl:=Option.some.inj H
         go_enter Try.func73,Try.ntmps73
         go_wp2_with (first|((with_reducible refine gate_dst (N:=1) rfl ?_);refine box_event ?hg (N:=1) ?hd (cs:=#[.int .i64 a0_0,.int .i64 a0_1,.int .i64 a0_2,.int .i64 a0_3,.slice A0_4 l0_4.length c0_4]) (t:=91) ?hr ?_;(case hd=>rfl);(case hg=>rfl);(case hr=>first|(go_simp;done)|(go_simp;rfl));intro gb210 hg w10 hbox hb;have n0_:=Aside0.mk (below_step (belV HB.out) hb);have n1_:=Aside0.mk (hbox);have n2_:=Aside0.mk ((by rw [hg];exact (below_size (belV HB.out)):w.heap.size≤gb210));have n3_:=Aside0.mk ((by rw [hg];exact (below_size (belV HB.out)):w.heap.size≤gb210));clear HB;have HB:=n0_;have BK210:=n1_;have GW210:=n2_;have GE210:=n3_;clear n0_ n1_ n2_ n3_;clear hb hbox hg;obtain ⟨hcz11_0,hcz11_1,hcz11_2,hcz11_3,hcz11_4,hfz11_0,hfz11_1,hfz11_2,hfz11_3,hfz11_4⟩:=bcells5 BK210.out)|((with_reducible refine gate_callee (f:=50) rfl ?_);refine goesL_ (some 5) rfl rfl Try.func50 (by kernel_rfl) rfl #[.int .i64 a0_0,.int .i64 0,.int .i64 999] rfl (by (try simp only [List.map_toArray,List.map_cons,List.map_nil]);first|done|rfl|(simp only [List.length_drop,List.length_take];rfl)) ?_;(with_reducible refine (dioramaref19_in.calls a0_0 0 999 true _ A2.out).mono ?_);rintro e w' ⟨rfl,⟨nd,rfl⟩⟩;refine ⟨_,rfl,?_⟩)|(go_at_call 50;(with_reducible refine (dioramaref19_in.calls a0_1 0 999 true _ A4.out).mono ?_);rintro e w' ⟨rfl,⟨nd,rfl⟩⟩)|(go_at_call 50;(with_reducible refine (dioramaref19_in.calls a0_2 1 64 true _ A6.out).mono ?_);rintro e w' ⟨rfl,⟨nd,rfl⟩⟩)|(go_at_call 50;(with_reducible refine (dioramaref19_in.calls a0_3 1 64 true _ A8.out).mono ?_);rintro e w' ⟨rfl,⟨nd,rfl⟩⟩))
         go_ret
         exact ⟨by first|rfl|(simp [errW_none,errW_some] <;> rfl)|(simp [*,errW_none,errW_some] <;> rfl),by repeat (first|(with_reducible first|exact HB.out|apply below_alloc|apply pw_below_drewN|apply below_drew1|refine below_set ?_ GE210.out)|exact HB.out)⟩
       replace c9:=Bool.eq_false_iff.mpr c9;subst c9
       have H1:(some 1)=some r:=by rw [if_neg (show ¬ (false=true) by decide)] at H;exact H
       clear H
       have H:=H1;clear H1
       obtain rfl:=Option.some.inj H
       go_enter Try.func73,Try.ntmps73
       go_wp2_with (first|((with_reducible refine gate_dst (N:=1) rfl ?_);refine box_event ?hg (N:=1) ?hd (cs:=#[.int .i64 a0_0,.int .i64 a0_1,.int .i64 a0_2,.int .i64 a0_3,.slice A0_4 l0_4.length c0_4]) (t:=91) ?hr ?_;(case hd=>rfl);(case hg=>rfl);(case hr=>first|(go_simp;done)|(go_simp;rfl));intro gb210 hg w12 hbox hb;have n0_:=Aside0.mk (below_step (belV HB.out) hb);have n1_:=Aside0.mk (hbox);have n2_:=Aside0.mk ((by rw [hg];exact (below_size (belV HB.out)):w.heap.size≤gb210));have n3_:=Aside0.mk ((by rw [hg];exact (below_size (belV HB.out)):w.heap.size≤gb210));clear HB;have HB:=n0_;have BK210:=n1_;have GW210:=n2_;have GE210:=n3_;clear n0_ n1_ n2_ n3_;clear hb hbox hg;obtain ⟨hcz13_0,hcz13_1,hcz13_2,hcz13_3,hcz13_4,hfz13_0,hfz13_1,hfz13_2,hfz13_3,hfz13_4⟩:=bcells5 BK210.out)|((with_reducible refine gate_callee (f:=50) rfl ?_);refine goesL_ (some 5) rfl rfl Try.func50 (by kernel_rfl) rfl #[.int .i64 a0_0,.int .i64 0,.int .i64 999] rfl (by (try simp only [List.map_toArray,List.map_cons,List.map_nil]);first|done|rfl|(simp only [List.length_drop,List.length_take];rfl)) ?_;(with_reducible refine (dioramaref19_in.calls a0_0 0 999 true _ A2.out).mono ?_);rintro e w' ⟨rfl,⟨nd,rfl⟩⟩;refine ⟨_,rfl,?_⟩)|(go_at_call 50;(with_reducible refine (dioramaref19_in.calls a0_1 0 999 true _ A4.out).mono ?_);rintro e w' ⟨rfl,⟨nd,rfl⟩⟩)|(go_at_call 50;(with_reducible refine (dioramaref19_in.calls a0_2 1 64 true _ A6.out).mono ?_);rintro e w' ⟨rfl,⟨nd,rfl⟩⟩)|(go_at_call 50;(with_reducible refine (dioramaref19_in.calls a0_3 1 64 false _ A8.out).mono ?_);rintro e w' ⟨rfl,⟨nd,rfl⟩⟩))
       go_ret
       exact ⟨by first|rfl|(simp [errW_none,errW_some] <;> rfl)|(simp [*,errW_none,errW_some] <;> rfl),by repeat (first|(with_reducible first|exact HB.out|apply below_alloc|apply pw_below_drewN|apply below_drew1|refine below_set ?_ GE210.out)|exact HB.out)⟩
     replace c7:=Bool.eq_false_iff.mpr c7;subst c7
     have H1:(some 1)=some r:=by rw [if_neg (show ¬ (false=true) by decide)] at H;exact H
     clear H
     have H:=H1;clear H1
     obtain rfl:=Option.some.inj H
     go_enter Try.func73,Try.ntmps73
     go_wp2_with (first|((with_reducible refine gate_dst (N:=1) rfl ?_);refine box_event ?hg (N:=1) ?hd (cs:=#[.int .i64 a0_0,.int .i64 a0_1,.int .i64 a0_2,.int .i64 a0_3,.slice A0_4 l0_4.length c0_4]) (t:=91) ?hr ?_;(case hd=>rfl);(case hg=>rfl);(case hr=>first|(go_simp;done)|(go_simp;rfl));intro gb210 hg w14 hbox hb;have n0_:=Aside0.mk (below_step (belV HB.out) hb);have n1_:=Aside0.mk (hbox);have n2_:=Aside0.mk ((by rw [hg];exact (below_size (belV HB.out)):w.heap.size≤gb210));have n3_:=Aside0.mk ((by rw [hg];exact (below_size (belV HB.out)):w.heap.size≤gb210));clear HB;have HB:=n0_;have BK210:=n1_;have GW210:=n2_;have GE210:=n3_;clear n0_ n1_ n2_ n3_;clear hb hbox hg;obtain ⟨hcz15_0,hcz15_1,hcz15_2,hcz15_3,hcz15_4,hfz15_0,hfz15_1,hfz15_2,hfz15_3,hfz15_4⟩:=bcells5 BK210.out)|((with_reducible refine gate_callee (f:=50) rfl ?_);refine goesL_ (some 5) rfl rfl Try.func50 (by kernel_rfl) rfl #[.int .i64 a0_0,.int .i64 0,.int .i64 999] rfl (by (try simp only [List.map_toArray,List.map_cons,List.map_nil]);first|done|rfl|(simp only [List.length_drop,List.length_take];rfl)) ?_;(with_reducible refine (dioramaref19_in.calls a0_0 0 999 true _ A2.out).mono ?_);rintro e w' ⟨rfl,⟨nd,rfl⟩⟩;refine ⟨_,rfl,?_⟩)|(go_at_call 50;(with_reducible refine (dioramaref19_in.calls a0_1 0 999 true _ A4.out).mono ?_);rintro e w' ⟨rfl,⟨nd,rfl⟩⟩)|(go_at_call 50;(with_reducible refine (dioramaref19_in.calls a0_2 1 64 false _ A6.out).mono ?_);rintro e w' ⟨rfl,⟨nd,rfl⟩⟩))
     go_ret
     exact ⟨by first|rfl|(simp [errW_none,errW_some] <;> rfl)|(simp [*,errW_none,errW_some] <;> rfl),by repeat (first|(with_reducible first|exact HB.out|apply below_alloc|apply pw_below_drewN|apply below_drew1|refine below_set ?_ GE210.out)|exact HB.out)⟩
   replace c5:=Bool.eq_false_iff.mpr c5;subst c5
   have H1:(some 1)=some r:=by rw [if_neg (show ¬ (false=true) by decide)] at H;exact H
   clear H
   have H:=H1;clear H1
   obtain rfl:=Option.some.inj H
   go_enter Try.func73,Try.ntmps73
   go_wp2_with (first|((with_reducible refine gate_dst (N:=1) rfl ?_);refine box_event ?hg (N:=1) ?hd (cs:=#[.int .i64 a0_0,.int .i64 a0_1,.int .i64 a0_2,.int .i64 a0_3,.slice A0_4 l0_4.length c0_4]) (t:=91) ?hr ?_;(case hd=>rfl);(case hg=>rfl);(case hr=>first|(go_simp;done)|(go_simp;rfl));intro gb210 hg w16 hbox hb;have n0_:=Aside0.mk (below_step (belV HB.out) hb);have n1_:=Aside0.mk (hbox);have n2_:=Aside0.mk ((by rw [hg];exact (below_size (belV HB.out)):w.heap.size≤gb210));have n3_:=Aside0.mk ((by rw [hg];exact (below_size (belV HB.out)):w.heap.size≤gb210));clear HB;have HB:=n0_;have BK210:=n1_;have GW210:=n2_;have GE210:=n3_;clear n0_ n1_ n2_ n3_;clear hb hbox hg;obtain ⟨hcz17_0,hcz17_1,hcz17_2,hcz17_3,hcz17_4,hfz17_0,hfz17_1,hfz17_2,hfz17_3,hfz17_4⟩:=bcells5 BK210.out)|((with_reducible refine gate_callee (f:=50) rfl ?_);refine goesL_ (some 5) rfl rfl Try.func50 (by kernel_rfl) rfl #[.int .i64 a0_0,.int .i64 0,.int .i64 999] rfl (by (try simp only [List.map_toArray,List.map_cons,List.map_nil]);first|done|rfl|(simp only [List.length_drop,List.length_take];rfl)) ?_;(with_reducible refine (dioramaref19_in.calls a0_0 0 999 true _ A2.out).mono ?_);rintro e w' ⟨rfl,⟨nd,rfl⟩⟩;refine ⟨_,rfl,?_⟩)|(go_at_call 50;(with_reducible refine (dioramaref19_in.calls a0_1 0 999 false _ A4.out).mono ?_);rintro e w' ⟨rfl,⟨nd,rfl⟩⟩))
   go_ret
   exact ⟨by first|rfl|(simp [errW_none,errW_some] <;> rfl)|(simp [*,errW_none,errW_some] <;> rfl),by repeat (first|(with_reducible first|exact HB.out|apply below_alloc|apply pw_below_drewN|apply below_drew1|refine below_set ?_ GE210.out)|exact HB.out)⟩
 replace c3:=Bool.eq_false_iff.mpr c3;subst c3
 have H1:(some 1)=some r:=by rw [if_neg (show ¬ (false=true) by decide)] at H;exact H
 clear H
 have H:=H1;clear H1
 obtain rfl:=Option.some.inj H
 go_enter Try.func73,Try.ntmps73
 go_wp2_with (first|((with_reducible refine gate_dst (N:=1) rfl ?_);refine box_event ?hg (N:=1) ?hd (cs:=#[.int .i64 a0_0,.int .i64 a0_1,.int .i64 a0_2,.int .i64 a0_3,.slice A0_4 l0_4.length c0_4]) (t:=91) ?hr ?_;(case hd=>rfl);(case hg=>rfl);(case hr=>first|(go_simp;done)|(go_simp;rfl));intro gb210 hg w18 hbox hb;have n0_:=Aside0.mk (below_step (belV HB.out) hb);have n1_:=Aside0.mk (hbox);have n2_:=Aside0.mk ((by rw [hg];exact (below_size (belV HB.out)):w.heap.size≤gb210));have n3_:=Aside0.mk ((by rw [hg];exact (below_size (belV HB.out)):w.heap.size≤gb210));clear HB;have HB:=n0_;have BK210:=n1_;have GW210:=n2_;have GE210:=n3_;clear n0_ n1_ n2_ n3_;clear hb hbox hg;obtain ⟨hcz19_0,hcz19_1,hcz19_2,hcz19_3,hcz19_4,hfz19_0,hfz19_1,hfz19_2,hfz19_3,hfz19_4⟩:=bcells5 BK210.out)|((with_reducible refine gate_callee (f:=50) rfl ?_);refine goesL_ (some 5) rfl rfl Try.func50 (by kernel_rfl) rfl #[.int .i64 a0_0,.int .i64 0,.int .i64 999] rfl (by (try simp only [List.map_toArray,List.map_cons,List.map_nil]);first|done|rfl|(simp only [List.length_drop,List.length_take];rfl)) ?_;(with_reducible refine (dioramaref19_in.calls a0_0 0 999 false _ A2.out).mono ?_);rintro e w' ⟨rfl,⟨nd,rfl⟩⟩;refine ⟨_,rfl,?_⟩))
 go_ret
 exact ⟨by first|rfl|(simp [errW_none,errW_some] <;> rfl)|(simp [*,errW_none,errW_some] <;> rfl),by repeat (first|(with_reducible first|exact HB.out|apply below_alloc|apply pw_below_drewN|apply below_drew1|refine below_set ?_ GE210.out)|exact HB.out)⟩

end Go.Proofs.Ytaebgjdaoloceaa.QBmpR
