/- Part of a proof: functions of the program as Lean functions, and that the machine's calls come to them. Made by a program of this session (wip/mp). -/
import Derived.Test.YtaebgjdaoloceaaQBmpPx0
import Derived.Test.YtaebgjdaoloceaaQBmpPx1
namespace Go.Proofs.Ytaebgjdaoloceaa.QBmpP
open Go.RowKit Go.Proofs.YtaebgjdaoloceaaV Go.Proofs.YtaebgjdaoloceaaW.PrintWords Go.Proofs.YtaebgjdaoloceaaW.PrintLast Go.Proofs.YtaebgjdaoloceaaW.PrintMore
attribute [local go_sem] max2_int min2_int max_two min_two max_three min_three max_four min_four   -- for this text's walks alone
set_option linter.unusedVariables false
set_option linter.unusedSimpArgs false

/-! ### bitmap_Pixels: function 14 -/
mutual
def bitmap_Pixels.j0 : Nat → List Int → Int → Int → Bool → Option (List Int × Int)
 | 0,_,_,_,_=>none
 | k+1,x0,x1,x2,x20=>if x20=true then (some (([]:List Int),1)) else (bitmap_Pixels.l0 k x0 x1 ([]:List Int) x2 0)
def bitmap_Pixels.l0 : Nat → List Int → Int → List Int → Int → Int → Option (List Int × Int)
 | 0,_,_,_,_,_=>none
 | k+1,x0,x1,x8,x21,x22=>if x22 < x21 then (bitmap_Pixels.l1 k x0 x1 x8 (-1) x1 x21 x22) else (if (x0.length:Int) > 0 then (some (([]:List Int),4)) else (some (x8,0)))
def bitmap_Pixels.l1 : Nat → List Int → Int → List Int → Int → Int → Int → Int → Option (List Int × Int)
 | 0,_,_,_,_,_,_,_=>none
 | k+1,x0,x1,x8,x9,x10,x21,x22=>if x10 > 0 then (if (x0.length:Int)=0 then (some (([]:List Int),3)) else (if 0 < (x0.length:Int) then (if 1≤(x0.length:Int) then ((some (x0.drop 1:List Int)).bind fun y147=>(if (wrap64 (Go.bits .and .u8 (rd x0 0) 15))=0 then (bitmap_Pixels.j4 k y147 x1 x8 x9 x10 (wrap64 ((rd x0 0) / 16)) x10 x21 x22) else (if (wrap64 (Go.bits .and .u8 (rd x0 0) 15))=15 then (if (y147.length:Int)=0 then (some (([]:List Int),3)) else (if 0 < (y147.length:Int) then (if 1≤(y147.length:Int) then ((some (y147.drop 1:List Int)).bind fun y153=>(if (wrap64 ((wrap64 (Go.bits .and .u8 (rd x0 0) 15))+(wrap64 (rd y147 0)))) > 63 then (bitmap_Pixels.j3 k y153 x1 x8 x9 x10 (wrap64 ((rd x0 0) / 16)) (wrap64 ((wrap64 (Go.bits .and .u8 (rd x0 0) 15))+(wrap64 (rd y147 0)))) x21 x22 true) else (bitmap_Pixels.j3 k y153 x1 x8 x9 x10 (wrap64 ((rd x0 0) / 16)) (wrap64 ((wrap64 (Go.bits .and .u8 (rd x0 0) 15))+(wrap64 (rd y147 0)))) x21 x22 (decide ((wrap64 ((wrap64 (Go.bits .and .u8 (rd x0 0) 15))+(wrap64 (rd y147 0))))≥x10))))) else (none)) else (none))) else (if (wrap64 (Go.bits .and .u8 (rd x0 0) 15))≥x10 then (some (([]:List Int),4)) else (bitmap_Pixels.j4 k y147 x1 x8 x9 x10 (wrap64 ((rd x0 0) / 16)) (wrap64 (Go.bits .and .u8 (rd x0 0) 15)) x21 x22))))) else (none)) else (none))) else (bitmap_Pixels.l0 k x0 x1 x8 x21 (wrap64 (x22+1)))
def bitmap_Pixels.j4 : Nat → List Int → Int → List Int → Int → Int → Int → Int → Int → Int → Option (List Int × Int)
 | 0,_,_,_,_,_,_,_,_,_=>none
 | k+1,x0,x1,x8,x9,x10,x11,x12,x21,x22=>if x11=x9 then (some (([]:List Int),4)) else ((slices_Repeat_int_int.f (([x11]:List Int)) x12).bind fun t161=>(if x8.length+t161.length < 17592186044416 then (bitmap_Pixels.l1 k x0 x1 (x8 ++ t161) x11 (wrap64 (x10 - x12)) x21 x22) else (none)))
def bitmap_Pixels.j3 : Nat → List Int → Int → List Int → Int → Int → Int → Int → Int → Int → Bool → Option (List Int × Int)
 | 0,_,_,_,_,_,_,_,_,_,_=>none
 | k+1,x0,x1,x8,x9,x10,x11,x12,x21,x22,x66=>if x66=true then (some (([]:List Int),4)) else (bitmap_Pixels.j4 k x0 x1 x8 x9 x10 x11 x12 x21 x22)
end
def bitmap_Pixels.f (k : Nat) (l0 : List Int) (a1 : Int) (a2 : Int) : Option (List Int × Int) := (bitmap_within.f a1 1 64).bind fun t143 => (if t143 = true then ((bitmap_within.f a2 1 64).bind fun t144 => (bitmap_Pixels.j0 k l0 a1 a2 (!t144))) else (bitmap_Pixels.j0 k l0 a1 a2 true))
theorem bitmap_Pixels.mono_l:∀ k,(∀ y0 y1 y2 y3,LeO (bitmap_Pixels.j0 k y0 y1 y2 y3) (bitmap_Pixels.j0 (k+1) y0 y1 y2 y3))∧(∀ y0 y1 y2 y3 y4,LeO (bitmap_Pixels.l0 k y0 y1 y2 y3 y4) (bitmap_Pixels.l0 (k+1) y0 y1 y2 y3 y4))∧(∀ y0 y1 y2 y3 y4 y5 y6,LeO (bitmap_Pixels.l1 k y0 y1 y2 y3 y4 y5 y6) (bitmap_Pixels.l1 (k+1) y0 y1 y2 y3 y4 y5 y6))∧(∀ y0 y1 y2 y3 y4 y5 y6 y7 y8,LeO (bitmap_Pixels.j4 k y0 y1 y2 y3 y4 y5 y6 y7 y8) (bitmap_Pixels.j4 (k+1) y0 y1 y2 y3 y4 y5 y6 y7 y8))∧(∀ y0 y1 y2 y3 y4 y5 y6 y7 y8 y9,LeO (bitmap_Pixels.j3 k y0 y1 y2 y3 y4 y5 y6 y7 y8 y9) (bitmap_Pixels.j3 (k+1) y0 y1 y2 y3 y4 y5 y6 y7 y8 y9))
 | 0=>⟨fun _ _ _ _ r h=>by simp [bitmap_Pixels.j0] at h,fun _ _ _ _ _ r h=>by simp [bitmap_Pixels.l0] at h,fun _ _ _ _ _ _ _ r h=>by simp [bitmap_Pixels.l1] at h,fun _ _ _ _ _ _ _ _ _ r h=>by simp [bitmap_Pixels.j4] at h,fun _ _ _ _ _ _ _ _ _ _ r h=>by simp [bitmap_Pixels.j3] at h⟩
 | k+1=>by
  obtain ⟨ih0,ih1,ih2,ih3,ih4⟩:=bitmap_Pixels.mono_l k
  refine ⟨?_,?_,?_,?_,?_⟩
  · intro y0 y1 y2 y3
    unfold bitmap_Pixels.j0
    repeat' first
    | (with_reducible exact ih0 _ _ _ _)
    | (with_reducible exact ih1 _ _ _ _ _)
    | (with_reducible exact ih2 _ _ _ _ _ _ _)
    | (with_reducible exact ih3 _ _ _ _ _ _ _ _ _)
    | (with_reducible exact ih4 _ _ _ _ _ _ _ _ _ _)
    | (with_reducible exact LeO.refl _)
    | (with_reducible exact LeO.none _)
    | (with_reducible refine LeO.ite ?_ ?_)
    | (with_reducible refine LeO.bind ?_ (fun _=>?_))
    | exact LeO.none _
    | refine LeO.ite ?_ ?_
    | refine LeO.bind ?_ (fun _=>?_)
  · intro y0 y1 y2 y3 y4
    unfold bitmap_Pixels.l0
    repeat' first
    | (with_reducible exact ih0 _ _ _ _)
    | (with_reducible exact ih1 _ _ _ _ _)
    | (with_reducible exact ih2 _ _ _ _ _ _ _)
    | (with_reducible exact ih3 _ _ _ _ _ _ _ _ _)
    | (with_reducible exact ih4 _ _ _ _ _ _ _ _ _ _)
    | (with_reducible exact LeO.refl _)
    | (with_reducible exact LeO.none _)
    | (with_reducible refine LeO.ite ?_ ?_)
    | (with_reducible refine LeO.bind ?_ (fun _=>?_))
    | exact LeO.none _
    | refine LeO.ite ?_ ?_
    | refine LeO.bind ?_ (fun _=>?_)
  · intro y0 y1 y2 y3 y4 y5 y6
    unfold bitmap_Pixels.l1
    repeat' first
    | (with_reducible exact ih0 _ _ _ _)
    | (with_reducible exact ih1 _ _ _ _ _)
    | (with_reducible exact ih2 _ _ _ _ _ _ _)
    | (with_reducible exact ih3 _ _ _ _ _ _ _ _ _)
    | (with_reducible exact ih4 _ _ _ _ _ _ _ _ _ _)
    | (with_reducible exact LeO.refl _)
    | (with_reducible exact LeO.none _)
    | (with_reducible refine LeO.ite ?_ ?_)
    | (with_reducible refine LeO.bind ?_ (fun _=>?_))
    | exact LeO.none _
    | refine LeO.ite ?_ ?_
    | refine LeO.bind ?_ (fun _=>?_)
  · intro y0 y1 y2 y3 y4 y5 y6 y7 y8
    unfold bitmap_Pixels.j4
    repeat' first
    | (with_reducible exact ih0 _ _ _ _)
    | (with_reducible exact ih1 _ _ _ _ _)
    | (with_reducible exact ih2 _ _ _ _ _ _ _)
    | (with_reducible exact ih3 _ _ _ _ _ _ _ _ _)
    | (with_reducible exact ih4 _ _ _ _ _ _ _ _ _ _)
    | (with_reducible exact LeO.refl _)
    | (with_reducible exact LeO.none _)
    | (with_reducible refine LeO.ite ?_ ?_)
    | (with_reducible refine LeO.bind ?_ (fun _=>?_))
    | exact LeO.none _
    | refine LeO.ite ?_ ?_
    | refine LeO.bind ?_ (fun _=>?_)
  intro y0 y1 y2 y3 y4 y5 y6 y7 y8 y9
  unfold bitmap_Pixels.j3
  repeat' first
  | (with_reducible exact ih0 _ _ _ _)
  | (with_reducible exact ih1 _ _ _ _ _)
  | (with_reducible exact ih2 _ _ _ _ _ _ _)
  | (with_reducible exact ih3 _ _ _ _ _ _ _ _ _)
  | (with_reducible exact ih4 _ _ _ _ _ _ _ _ _ _)
  | (with_reducible exact LeO.refl _)
  | (with_reducible exact LeO.none _)
  | (with_reducible refine LeO.ite ?_ ?_)
  | (with_reducible refine LeO.bind ?_ (fun _=>?_))
  | exact LeO.none _
  | refine LeO.ite ?_ ?_
  | refine LeO.bind ?_ (fun _=>?_)
theorem bitmap_Pixels.mono:∀ a0 a1 a2 k,LeO (bitmap_Pixels.f k a0 a1 a2) (bitmap_Pixels.f (k+1) a0 a1 a2):=by
 intro a0 a1 a2 k
 obtain ⟨ih0,ih1,ih2,ih3,ih4⟩:=bitmap_Pixels.mono_l k
 unfold bitmap_Pixels.f
 repeat' first
  | (with_reducible exact ih0 _ _ _ _)
  | (with_reducible exact ih1 _ _ _ _ _)
  | (with_reducible exact ih2 _ _ _ _ _ _ _)
  | (with_reducible exact ih3 _ _ _ _ _ _ _ _ _)
  | (with_reducible exact ih4 _ _ _ _ _ _ _ _ _ _)
  | (with_reducible exact LeO.refl _)
  | (with_reducible exact LeO.none _)
  | (with_reducible refine LeO.ite ?_ ?_)
  | (with_reducible refine LeO.bind ?_ (fun _=>?_))
  | exact LeO.none _
  | refine LeO.ite ?_ ?_
  | refine LeO.bind ?_ (fun _=>?_)
set_option maxHeartbeats 8000000 in
set_option maxRecDepth 100000 in
theorem bitmap_Pixels.calls (k:Nat) (P0_:Nat→Prop) (A0:Option Addr) (c0:Nat) (l0:List Int) (a1:Int) (a2:Int) (r1:List Int) (r2:Int) (w:World) (hs0:Kd.V (Kd.int .u8) 5 w w.heap.size (fun k_=>P0_ k_) (.slice A0 l0.length c0) l0) (h:bitmap_Pixels.f k l0 a1 a2=some (r1,r2)) :
 Calls Try.prog 14 #[.slice A0 l0.length c0,.int .i64 a1,.int .i64 a2] w fun e w'=>∃ v0_:Value,e=.returned (.tuple #[v0_,.int .i64 r2])∧Kd.R (Kd.int .i64) 3 w' w.heap.size (fun k_=>(w.heap.size≤k_)) v0_ r1∧Below w.heap.size w w':=by
 have HO0:=Aside0.mk (show Kd.V (Kd.int .u8) 5 w w.heap.size (fun k_=>(P0_ k_∨w.heap.size≤k_)) (.slice A0 l0.length c0) l0 from Kd.V_mono hs0 (fun k_ hk=>.inl hk));have HB:=Aside0.mk (Below.refl w.heap.size w)
 have H:((bitmap_within.f a1 1 64).bind fun t143=>(if t143=true then ((bitmap_within.f a2 1 64).bind fun t144=>(bitmap_Pixels.j0 k l0 a1 a2 (!t144))) else (bitmap_Pixels.j0 k l0 a1 a2 true)))=some (r1,r2):=h
 clear h
 have HC4:=Aside0.mk H;clear H
 go_enter Try.func14,Try.ntmps14
 go_upto_region 1 with (fail)
 repeat (go_quiet (fail);go_upto_region 1 with (fail))
 go_cut [20] (fun v20 wc=>∃ (kq:Nat) (x20_3:Bool),v20=.bool x20_3∧Aside0 (bitmap_Pixels.j0 kq l0 a1 a2 x20_3=some (r1,r2))∧Aside0 (kq≤k)∧Aside0 (Kd.V (Kd.int .u8) 5 wc w.heap.size (fun k_=>(P0_ k_∨w.heap.size≤k_)) (.slice A0 l0.length c0) l0)∧Aside0 (Below w.heap.size w wc))
 case first =>
  have H:=HC4.out;clear HC4
  replace H:=Option.bind_eq_some_iff.mp H
  obtain ⟨t143,A50,H⟩:=H
  replace H:(if t143=true then ((bitmap_within.f a2 1 64).bind fun t144=>(bitmap_Pixels.j0 k l0 a1 a2 (!t144))) else (bitmap_Pixels.j0 k l0 a1 a2 true))=some (r1,r2):=H
  have A5:=Aside0.mk A50;clear A50
  by_cases c6:t143=true
  · subst c6
    have H1:((bitmap_within.f a2 1 64).bind fun t144=>(bitmap_Pixels.j0 k l0 a1 a2 (!t144)))=some (r1,r2):=by rw [if_pos rfl] at H;exact H
    clear H
    have H:=H1;clear H1
    replace H:=Option.bind_eq_some_iff.mp H
    obtain ⟨t144,A70,H⟩:=H
    replace H:(bitmap_Pixels.j0 k l0 a1 a2 (!t144))=some (r1,r2):=H
    have A7:=Aside0.mk A70;clear A70
    have H':=Aside0.mk H;clear H
    go_wp2_with (first|(go_at_call 47;(with_reducible refine (bitmap_within.calls a1 1 64 true _ A5.out).mono ?_);rintro e w' ⟨rfl,⟨nd,rfl⟩⟩;(try first|exact ⟨rfl,_,World.drewN_drewN _ _ _⟩|exact ⟨rfl,_,Eq.trans (World.drewN_drewN _ _ _) (congrArg (World.drewN _) (Nat.add_assoc _ _ _))⟩))|(go_at_call 47;(with_reducible refine (bitmap_within.calls a2 1 64 t144 _ A7.out).mono ?_);rintro e w' ⟨rfl,⟨nd,rfl⟩⟩;(try first|exact ⟨rfl,_,World.drewN_drewN _ _ _⟩|exact ⟨rfl,_,Eq.trans (World.drewN_drewN _ _ _) (congrArg (World.drewN _) (Nat.add_assoc _ _ _))⟩)))
    repeat (go_quiet (first|(go_at_call 47;(with_reducible refine (bitmap_within.calls a1 1 64 true _ A5.out).mono ?_);rintro e w' ⟨rfl,⟨nd,rfl⟩⟩;(try first|exact ⟨rfl,_,World.drewN_drewN _ _ _⟩|exact ⟨rfl,_,Eq.trans (World.drewN_drewN _ _ _) (congrArg (World.drewN _) (Nat.add_assoc _ _ _))⟩))|(go_at_call 47;(with_reducible refine (bitmap_within.calls a2 1 64 t144 _ A7.out).mono ?_);rintro e w' ⟨rfl,⟨nd,rfl⟩⟩;(try first|exact ⟨rfl,_,World.drewN_drewN _ _ _⟩|exact ⟨rfl,_,Eq.trans (World.drewN_drewN _ _ _) (congrArg (World.drewN _) (Nat.add_assoc _ _ _))⟩)));try go_wp2_with (first|(go_at_call 47;(with_reducible refine (bitmap_within.calls a1 1 64 true _ A5.out).mono ?_);rintro e w' ⟨rfl,⟨nd,rfl⟩⟩;(try first|exact ⟨rfl,_,World.drewN_drewN _ _ _⟩|exact ⟨rfl,_,Eq.trans (World.drewN_drewN _ _ _) (congrArg (World.drewN _) (Nat.add_assoc _ _ _))⟩))|(go_at_call 47;(with_reducible refine (bitmap_within.calls a2 1 64 t144 _ A7.out).mono ?_);rintro e w' ⟨rfl,⟨nd,rfl⟩⟩;(try first|exact ⟨rfl,_,World.drewN_drewN _ _ _⟩|exact ⟨rfl,_,Eq.trans (World.drewN_drewN _ _ _) (congrArg (World.drewN _) (Nat.add_assoc _ _ _))⟩))))
    go_meet
    case rel=>exact ⟨_,(!t144),okV,H',⟨by first|omega|exact Nat.le_refl _⟩,⟨by (with_reducible repeat (first|apply Kd.V_alloc|apply Kd.V_drewN|apply Kd.V_drew));exact HO0.out⟩,⟨belV HB.out⟩⟩
  replace c6:=Bool.eq_false_iff.mpr c6;subst c6
  have H1:(bitmap_Pixels.j0 k l0 a1 a2 true)=some (r1,r2):=by rw [if_neg (show ¬ (false=true) by decide)] at H;exact H
  clear H
  have H:=H1;clear H1
  have H':=Aside0.mk H;clear H
  go_wp2_with (first|(go_at_call 47;(with_reducible refine (bitmap_within.calls a1 1 64 false _ A5.out).mono ?_);rintro e w' ⟨rfl,⟨nd,rfl⟩⟩;(try first|exact ⟨rfl,_,World.drewN_drewN _ _ _⟩|exact ⟨rfl,_,Eq.trans (World.drewN_drewN _ _ _) (congrArg (World.drewN _) (Nat.add_assoc _ _ _))⟩)))
  repeat (go_quiet (first|(go_at_call 47;(with_reducible refine (bitmap_within.calls a1 1 64 false _ A5.out).mono ?_);rintro e w' ⟨rfl,⟨nd,rfl⟩⟩;(try first|exact ⟨rfl,_,World.drewN_drewN _ _ _⟩|exact ⟨rfl,_,Eq.trans (World.drewN_drewN _ _ _) (congrArg (World.drewN _) (Nat.add_assoc _ _ _))⟩)));try go_wp2_with (first|(go_at_call 47;(with_reducible refine (bitmap_within.calls a1 1 64 false _ A5.out).mono ?_);rintro e w' ⟨rfl,⟨nd,rfl⟩⟩;(try first|exact ⟨rfl,_,World.drewN_drewN _ _ _⟩|exact ⟨rfl,_,Eq.trans (World.drewN_drewN _ _ _) (congrArg (World.drewN _) (Nat.add_assoc _ _ _))⟩))))
  go_meet
  case rel=>exact ⟨_,(true),okV,H',⟨by first|omega|exact Nat.le_refl _⟩,⟨by (with_reducible repeat (first|apply Kd.V_alloc|apply Kd.V_drewN|apply Kd.V_drew));exact HO0.out⟩,⟨belV HB.out⟩⟩
 case rest =>
  clear HC4
  try clear c1;try clear p2;try clear c6
  obtain ⟨kq,x20_3,rfl,HA,HJ3,HO_0,HB⟩:=hcut
  cases kq with
  | zero=>exact absurd HA.out (by simp [bitmap_Pixels.j0])
  | succ kj3 =>
   have H:=HA.out;clear HA
   simp only [bitmap_Pixels.j0] at H
   by_cases c8:x20_3=true
   · subst c8
     have H1:(some (([]:List Int),1))=some (r1,r2):=by rw [if_pos rfl] at H;exact H
     clear H
     have H:=H1;clear H1
     simp only [Option.some.injEq,Prod.mk.injEq] at H
     obtain ⟨rfl,rfl⟩:=H
     go_wp2
     repeat (go_quiet (fail);try go_wp2)
     go_ret2
     exact ⟨_,by first|rfl|(simp [errW_none,errW_some] <;> rfl)|(simp [*,errW_none,errW_some] <;> rfl),by first|exact Kd.R_nil _ _ _ _ _|exact Kd.N_nil _ _ _ _ _|exact Kd.V_nil _ _ _ _ _|exact Kd.Q_nil _ _ _ _ _|exact Kd.S_nil _ _ _ _ _,by repeat (first|(with_reducible first|exact HB.out|apply below_alloc|apply pw_below_drewN|apply below_drew1)|exact HB.out)⟩
   replace c8:=Bool.eq_false_iff.mpr c8;subst c8
   have H1:(bitmap_Pixels.l0 kj3 l0 a1 ([]:List Int) a2 0)=some (r1,r2):=by rw [if_neg (show ¬ (false=true) by decide)] at H;exact H
   clear H
   have H:=H1;clear H1
   have H':=Aside0.mk H;clear H
   go_wp2
   repeat (go_quiet (fail);try go_wp2)
   go_loopg [0,8,22] kj3 (fun kq v0 v8 v22 w'=>∃ (x0_2:List Int) (x8_2:List Int) (x22_2:Int),v22=.int .i64 x22_2∧Aside0 (bitmap_Pixels.l0 kq x0_2 a1 x8_2 a2 x22_2=some (r1,r2))∧Aside0 (kq≤kj3)∧Aside0 (Kd.V (Kd.int .u8) 5 w' w.heap.size (fun k_=>(P0_ k_∨w.heap.size≤k_)∧some k_≠(v8:Value).ownBlock) v0 x0_2)∧Aside0 (Kd.R (Kd.int .i64) 3 w' w.heap.size (fun k_=>(w.heap.size≤k_)) v8 x8_2)∧Aside0 (Below w.heap.size w w'))
   case atStart=>exact ⟨(l0),(([]:List Int)),(0),okV,H',⟨Nat.le_refl _⟩,⟨by (with_reducible repeat (first|apply Kd.V_alloc|apply Kd.V_drewN|apply Kd.V_drew));exact Kd.V_mono HO_0.out (fun _ hk=>⟨hk,(by simp [Value.ownBlock])⟩)⟩,⟨by first|exact Kd.R_nil _ _ _ _ _|exact Kd.N_nil _ _ _ _ _|exact Kd.V_nil _ _ _ _ _|exact Kd.Q_nil _ _ _ _ _|exact Kd.S_nil _ _ _ _ _⟩,⟨belV HB.out⟩⟩
   case round =>
    clear H'
    try clear c1;try clear p2 p2;try clear c6;try clear c8
    obtain ⟨x0_2,x8_2,x22_2,rfl,HA,HK2,HO_0,HO_8,HB⟩:=hrel
    cases gk with
    | zero=>exact absurd HA.out (by simp [bitmap_Pixels.l0])
    | succ k2 =>
     have H:=HA.out;clear HA
     simp only [bitmap_Pixels.l0] at H
     by_cases c9:x22_2 < a2
     · rw [if_pos c9] at H
       have c9b0:decide (x22_2 < a2)=true:=decide_eq_true c9;clear c9
       have H':=Aside0.mk H;clear H
       go_wp2
       repeat (go_quiet (fail);try go_wp2)
       go_loopg [0,8,9,10] k2 (fun kq v0 v8 v9 v10 w'=>∃ (x0_3:List Int) (x8_3:List Int) (x9_3:Int) (x10_3:Int),v9=.int .i64 x9_3∧v10=.int .i64 x10_3∧Aside0 (bitmap_Pixels.l1 kq x0_3 a1 x8_3 x9_3 x10_3 a2 x22_2=some (r1,r2))∧Aside0 (kq≤k2)∧Aside0 (Kd.V (Kd.int .u8) 5 w' w.heap.size (fun k_=>(P0_ k_∨w.heap.size≤k_)∧some k_≠(v8:Value).ownBlock) v0 x0_3)∧Aside0 (Kd.R (Kd.int .i64) 3 w' w.heap.size (fun k_=>(w.heap.size≤k_)) v8 x8_3)∧Aside0 (Below w.heap.size w w'))
       case atStart=>exact ⟨(x0_2),(x8_2),((-1)),(a1),okV,okV,H',⟨Nat.le_refl _⟩,⟨by (with_reducible repeat (first|apply Kd.V_alloc|apply Kd.V_drewN|apply Kd.V_drew));exact HO_0.out⟩,⟨rowV HO_8.out⟩,⟨belV HB.out⟩⟩
       case round =>
        clear H'
        try clear c1;try clear p2 p2;try clear c6;try clear c8;try clear c9;try clear c9b0
        obtain ⟨x0_3,x8_3,x9_3,x10_3,rfl,rfl,HA,HK3,HO_0,HO_8,HB⟩:=hrel
        cases gk with
        | zero=>exact absurd HA.out (by simp [bitmap_Pixels.l1])
        | succ k3 =>
         have H:=HA.out;clear HA
         simp only [bitmap_Pixels.l1] at H
         by_cases c10:x10_3 > 0
         · rw [if_pos c10] at H
           have c10b0:decide (0 < x10_3)=true:=decide_eq_true c10;clear c10
           by_cases c11:(x0_3.length:Int)=0
           · rw [if_pos c11] at H
             have c11b0:((x0_3.length:Int) == 0)=true:=beq_iff_eq.mpr c11
             have c11b1:((x0_3.length:Int) != 0)=false:=bne_eq_false_iff_eq.mpr c11;clear c11
             simp only [Option.some.injEq,Prod.mk.injEq] at H
             obtain ⟨rfl,rfl⟩:=H
             obtain ⟨Ao12,co12,eo12⟩:=Kd.V_slice HO_0.out;subst eo12
             go_wp2
             repeat (go_quiet (fail);try go_wp2)
             go_ret2
             exact ⟨_,by first|rfl|(simp [errW_none,errW_some] <;> rfl)|(simp [*,errW_none,errW_some] <;> rfl),by first|exact Kd.R_nil _ _ _ _ _|exact Kd.N_nil _ _ _ _ _|exact Kd.V_nil _ _ _ _ _|exact Kd.Q_nil _ _ _ _ _|exact Kd.S_nil _ _ _ _ _,by repeat (first|(with_reducible first|exact HB.out|apply below_alloc|apply pw_below_drewN|apply below_drew1)|exact HB.out)⟩
           rw [if_neg c11] at H
           have c11b0:((x0_3.length:Int) == 0)=false:=beq_eq_false_iff_ne.mpr c11
           have c11b1:((x0_3.length:Int) != 0)=true:=bne_iff_ne.mpr c11
           have c11b2:¬ (x0_3=[]):=fun h_=>c11 (by rw [h_];rfl)
           by_cases c13:0 < (x0_3.length:Int)
           · rw [if_pos c13] at H
             have c13b0:decide (0 < (x0_3.length:Int))=true:=decide_eq_true c13
             have c13b1:decide (0 < x0_3.length)=true:=decide_eq_true (by omega);clear c13
             by_cases c14:1≤(x0_3.length:Int)
             · rw [if_pos c14] at H
               have c14b0:=eq_true c14
               have c14b1:decide (1≤(x0_3.length:Int))=true:=decide_eq_true c14;clear c14
               obtain ⟨y147,hy147⟩:∃ y_:List Int,y_=(x0_3.drop 1):=⟨_,rfl⟩
               replace H:(if (wrap64 (Go.bits .and .u8 (rd x0_3 0) 15))=0 then (bitmap_Pixels.j4 k3 y147 a1 x8_3 x9_3 x10_3 (wrap64 ((rd x0_3 0) / 16)) x10_3 a2 x22_2) else (if (wrap64 (Go.bits .and .u8 (rd x0_3 0) 15))=15 then (if (y147.length:Int)=0 then (some (([]:List Int),3)) else (if 0 < (y147.length:Int) then (if 1≤(y147.length:Int) then ((some (y147.drop 1:List Int)).bind fun y153=>(if (wrap64 ((wrap64 (Go.bits .and .u8 (rd x0_3 0) 15))+(wrap64 (rd y147 0)))) > 63 then (bitmap_Pixels.j3 k3 y153 a1 x8_3 x9_3 x10_3 (wrap64 ((rd x0_3 0) / 16)) (wrap64 ((wrap64 (Go.bits .and .u8 (rd x0_3 0) 15))+(wrap64 (rd y147 0)))) a2 x22_2 true) else (bitmap_Pixels.j3 k3 y153 a1 x8_3 x9_3 x10_3 (wrap64 ((rd x0_3 0) / 16)) (wrap64 ((wrap64 (Go.bits .and .u8 (rd x0_3 0) 15))+(wrap64 (rd y147 0)))) a2 x22_2 (decide ((wrap64 ((wrap64 (Go.bits .and .u8 (rd x0_3 0) 15))+(wrap64 (rd y147 0))))≥x10_3))))) else (none)) else (none))) else (if (wrap64 (Go.bits .and .u8 (rd x0_3 0) 15))≥x10_3 then (some (([]:List Int),4)) else (bitmap_Pixels.j4 k3 y147 a1 x8_3 x9_3 x10_3 (wrap64 ((rd x0_3 0) / 16)) (wrap64 (Go.bits .and .u8 (rd x0_3 0) 15)) a2 x22_2))))=some (r1,r2):=by first|(rw [hy147];with_reducible exact H)|(have H2_:=(Option.bind_some _ _).symm.trans H;rw [hy147];with_reducible exact H2_)|(have H2_:=(Option.bind_some _ _).symm.trans H;with_reducible exact H2_)|with_reducible exact H|(rw [hy147];exact H)|exact H
               have Ny147:=Aside0.mk hy147;clear hy147
               have HC15:=Aside0.mk H;clear H
               obtain ⟨Ao16,co16,eo16⟩:=Kd.V_slice HO_0.out;subst eo16
               have p145:0≤(0:Int):=(by omega)
               have q145:0 < (x0_3.length:Int):=of_decide_eq_true asV
               obtain ⟨ad145,e145,hx145_0⟩:=Kd.at_int (Kd.V_reads' HO_0.out).2.2 0 p145 q145
               cases e145
               have qi145:(0 < x0_3.length)=True:=eq_true (by omega)
               (try rw [show ((0:Int)).toNat=0 from rfl] at hx145_0)
               (try rw [Addr.add_zero'] at hx145_0)
               replace p145:=eq_true p145
               replace q145:=eq_true q145
               have p146:0≤(0:Int):=(by omega)
               have q146:0 < (x0_3.length:Int):=of_decide_eq_true asV
               obtain ⟨ad146,e146,hx146_0⟩:=Kd.at_int (Kd.V_reads' HO_0.out).2.2 0 p146 q146
               obtain rfl:ad145=ad146:=(by injection e146)
               have qi146:(0 < x0_3.length)=True:=eq_true (by omega)
               (try rw [show ((0:Int)).toNat=0 from rfl] at hx146_0)
               (try rw [Addr.add_zero'] at hx146_0)
               replace p146:=eq_true p146
               replace q146:=eq_true q146
               have q17:(1:Int)≤((x0_3.length:Int):Int):=of_decide_eq_true asV
               obtain ⟨i017,hi017,_,hsz17,_⟩:=info_parts info5
               have hroom17:x0_3.length≤co16:=(Kd.V_reads' HO_0.out).2.1
               have hC17:Kd.F (Kd.int .u8) _ _ (some ad145) x0_3.length x0_3:=(Kd.V_at (base:=w.heap.size) HO_0.out).2.2
               have hcut17:=cut_from (P:=Try.prog) 23 5 .i64 Try.underlying23 hi017 1 hsz17 (some ad145) x0_3.length co16 1 (by omega) q17
               have hr17:=Kd.F_cut (m:=(1:Int).toNat) (c:=co16) hC17 (by omega) hroom17
               obtain ⟨A17,hA17⟩:∃ A1,A1=(if co16=(1:Int).toNat then (some ad145) else ((some ad145):Option Addr).map (·.add ((1:Int).toNat*1))):=⟨_,rfl⟩
               obtain ⟨c17,hc17⟩:∃ c1,c1=co16 - (1:Int).toNat:=⟨_,rfl⟩
               have hy17:y147.length=x0_3.length - (1:Int).toNat:=(by rw [Ny147.out,List.length_drop] <;> omega)
               rw [show (x0_3).drop (1:Int).toNat=y147 from Ny147.out.symm] at hr17
               replace hr17:Kd.F (Kd.int .u8) _ _ A17 y147.length y147:=(by rw [hA17];exact hr17)
               rw [← hy17,← hA17,← hc17] at hcut17
               have HO151:=Aside0.mk (show Kd.V (Kd.int .u8) 5 _ w.heap.size _ (.slice A17 y147.length c17) y147 from Kd.V_mk (by rw [hy17,hc17];exact Nat.sub_le_sub_right hroom17 _) hr17)
               have HC151:=Aside0.mk (show y147.length≤c17 from by rw [hy17,hc17];exact Nat.sub_le_sub_right hroom17 _);clear hr17 hC17 hroom17 hi017 hsz17 hc17
               have KY17:=Aside0.mk hy17
               have KA17:=Aside0.mk hA17;clear hy17 hA17
               replace q17:=eq_true q17
               go_upto_block 4 with (fail)
               repeat (go_quiet (fail);go_upto_block 4 with (fail))
               go_cut [0,12] (fun v0 v12 wc=>∃ (kq:Nat) (x0_14:List Int) (x12_14:Int),v12=.int .i64 x12_14∧Aside0 (bitmap_Pixels.j4 kq x0_14 a1 x8_3 x9_3 x10_3 (wrap64 ((rd x0_3 0) / 16)) x12_14 a2 x22_2=some (r1,r2))∧Aside0 (kq≤k3)∧Aside0 (Kd.V (Kd.int .u8) 5 wc w.heap.size (fun k_=>(P0_ k_∨w.heap.size≤k_)∧some k_≠(u8:Value).ownBlock) v0 x0_14)∧Aside0 (Kd.R (Kd.int .i64) 3 wc w.heap.size (fun k_=>(w.heap.size≤k_)) u8 x8_3)∧Aside0 (Below w.heap.size w wc))
               case first =>
                have H:=HC15.out;clear HC15
                by_cases c18:(wrap64 (Go.bits .and .u8 (rd x0_3 0) 15))=0
                · rw [if_pos c18] at H
                  have c18b0:((wrap64 (Go.bits .and .u8 (rd x0_3 0) 15)) == 0)=true:=beq_iff_eq.mpr c18
                  have c18b1:((wrap64 (Go.bits .and .u8 (rd x0_3 0) 15)) != 0)=false:=bne_eq_false_iff_eq.mpr c18;clear c18
                  (first|rw [c18b0]|(simp only [i64_w,i32_w];rw [c18b0])|rw [c18b1]|skip)
                  have H':=Aside0.mk H;clear H
                  go_wp2
                  repeat (go_quiet (fail);try go_wp2)
                  go_meet
                  case rel=>exact ⟨_,(y147),(x10_3),okV,H',⟨by have:=HJ3.out;have:=HK2.out;have:=HK3.out;first|omega|exact Nat.le_refl _⟩,⟨by (with_reducible repeat (first|apply Kd.V_alloc|apply Kd.V_drewN|apply Kd.V_drew));exact HO151.out⟩,⟨rowV HO_8.out⟩,⟨belV HB.out⟩⟩
                rw [if_neg c18] at H
                have c18b0:((wrap64 (Go.bits .and .u8 (rd x0_3 0) 15)) == 0)=false:=beq_eq_false_iff_ne.mpr c18
                have c18b1:((wrap64 (Go.bits .and .u8 (rd x0_3 0) 15)) != 0)=true:=bne_iff_ne.mpr c18
                (first|rw [c18b0]|(simp only [i64_w,i32_w];rw [c18b0])|rw [c18b1]|skip)
                by_cases c19:(wrap64 (Go.bits .and .u8 (rd x0_3 0) 15))=15
                · rw [if_pos c19] at H
                  have c19b0:((wrap64 (Go.bits .and .u8 (rd x0_3 0) 15)) == 15)=true:=beq_iff_eq.mpr c19
                  have c19b1:((wrap64 (Go.bits .and .u8 (rd x0_3 0) 15)) != 15)=false:=bne_eq_false_iff_eq.mpr c19;clear c19
                  by_cases c20:(y147.length:Int)=0
                  · rw [if_pos c20] at H
                    have c20b0:((y147.length:Int) == 0)=true:=beq_iff_eq.mpr c20
                    have c20b1:((y147.length:Int) != 0)=false:=bne_eq_false_iff_eq.mpr c20;clear c20
                    simp only [Option.some.injEq,Prod.mk.injEq] at H
                    obtain ⟨rfl,rfl⟩:=H
                    go_wp2
                    repeat (go_quiet (fail);try go_wp2)
                    go_ret2
                    exact ⟨_,by first|rfl|(simp [errW_none,errW_some] <;> rfl)|(simp [*,errW_none,errW_some] <;> rfl),by first|exact Kd.R_nil _ _ _ _ _|exact Kd.N_nil _ _ _ _ _|exact Kd.V_nil _ _ _ _ _|exact Kd.Q_nil _ _ _ _ _|exact Kd.S_nil _ _ _ _ _,by repeat (first|(with_reducible first|exact HB.out|apply below_alloc|apply pw_below_drewN|apply below_drew1)|exact HB.out)⟩
                  rw [if_neg c20] at H
                  have c20b0:((y147.length:Int) == 0)=false:=beq_eq_false_iff_ne.mpr c20
                  have c20b1:((y147.length:Int) != 0)=true:=bne_iff_ne.mpr c20
                  have c20b2:¬ (y147=[]):=fun h_=>c20 (by rw [h_];rfl)
                  by_cases c21:0 < (y147.length:Int)
                  · rw [if_pos c21] at H
                    have c21b0:decide (0 < (y147.length:Int))=true:=decide_eq_true c21
                    have c21b1:decide (0 < y147.length)=true:=decide_eq_true (by omega);clear c21
                    by_cases c22:1≤(y147.length:Int)
                    · rw [if_pos c22] at H
                      have c22b0:=eq_true c22
                      have c22b1:decide (1≤(y147.length:Int))=true:=decide_eq_true c22;clear c22
                      obtain ⟨y153,hy153⟩:∃ y_:List Int,y_=(y147.drop 1):=⟨_,rfl⟩
                      replace H:(if (wrap64 ((wrap64 (Go.bits .and .u8 (rd x0_3 0) 15))+(wrap64 (rd y147 0)))) > 63 then (bitmap_Pixels.j3 k3 y153 a1 x8_3 x9_3 x10_3 (wrap64 ((rd x0_3 0) / 16)) (wrap64 ((wrap64 (Go.bits .and .u8 (rd x0_3 0) 15))+(wrap64 (rd y147 0)))) a2 x22_2 true) else (bitmap_Pixels.j3 k3 y153 a1 x8_3 x9_3 x10_3 (wrap64 ((rd x0_3 0) / 16)) (wrap64 ((wrap64 (Go.bits .and .u8 (rd x0_3 0) 15))+(wrap64 (rd y147 0)))) a2 x22_2 (decide ((wrap64 ((wrap64 (Go.bits .and .u8 (rd x0_3 0) 15))+(wrap64 (rd y147 0))))≥x10_3))))=some (r1,r2):=by first|(rw [hy153];with_reducible exact H)|(have H2_:=(Option.bind_some _ _).symm.trans H;rw [hy153];with_reducible exact H2_)|(have H2_:=(Option.bind_some _ _).symm.trans H;with_reducible exact H2_)|with_reducible exact H|(rw [hy153];exact H)|exact H
                      have Ny153:=Aside0.mk hy153;clear hy153
                      have HC23:=Aside0.mk H;clear H
                      have p152:0≤(0:Int):=(by omega)
                      have q152:0 < (y147.length:Int):=of_decide_eq_true asV
                      obtain ⟨ad152,e152,hx152_0⟩:=Kd.at_int (Kd.V_reads' HO151.out).2.2 0 p152 q152
                      cases e152
                      have qi152:(0 < y147.length)=True:=eq_true (by omega)
                      (try rw [show ((0:Int)).toNat=0 from rfl] at hx152_0)
                      (try rw [Addr.add_zero'] at hx152_0)
                      replace p152:=eq_true p152
                      replace q152:=eq_true q152
                      have q24:(1:Int)≤((y147.length:Int):Int):=of_decide_eq_true asV
                      obtain ⟨i024,hi024,_,hsz24,_⟩:=info_parts info5
                      have hroom24:y147.length≤c17:=(Kd.V_reads' HO151.out).2.1
                      have hC24:Kd.F (Kd.int .u8) _ _ (some ad152) y147.length y147:=(Kd.V_at (base:=w.heap.size) HO151.out).2.2
                      have hcut24:=cut_from (P:=Try.prog) 23 5 .i64 Try.underlying23 hi024 1 hsz24 (some ad152) y147.length c17 1 (by omega) q24
                      have hr24:=Kd.F_cut (m:=(1:Int).toNat) (c:=c17) hC24 (by omega) hroom24
                      obtain ⟨A24,hA24⟩:∃ A1,A1=(if c17=(1:Int).toNat then (some ad152) else ((some ad152):Option Addr).map (·.add ((1:Int).toNat*1))):=⟨_,rfl⟩
                      obtain ⟨c24,hc24⟩:∃ c1,c1=c17 - (1:Int).toNat:=⟨_,rfl⟩
                      have hy24:y153.length=y147.length - (1:Int).toNat:=(by rw [Ny153.out,List.length_drop] <;> omega)
                      rw [show (y147).drop (1:Int).toNat=y153 from Ny153.out.symm] at hr24
                      replace hr24:Kd.F (Kd.int .u8) _ _ A24 y153.length y153:=(by rw [hA24];exact hr24)
                      rw [← hy24,← hA24,← hc24] at hcut24
                      have HO157:=Aside0.mk (show Kd.V (Kd.int .u8) 5 _ w.heap.size _ (.slice A24 y153.length c24) y153 from Kd.V_mk (by rw [hy24,hc24];exact Nat.sub_le_sub_right hroom24 _) hr24)
                      have HC157:=Aside0.mk (show y153.length≤c24 from by rw [hy24,hc24];exact Nat.sub_le_sub_right hroom24 _);clear hr24 hC24 hroom24 hi024 hsz24 hc24
                      have KY24:=Aside0.mk hy24
                      have KA24:=Aside0.mk hA24;clear hy24 hA24
                      replace q24:=eq_true q24
                      go_upto_region 20 with (fail)
                      repeat (go_quiet (fail);go_upto_region 20 with (fail))
                      go_cut [66] (fun v66 wc=>∃ (kq:Nat) (x66_22:Bool),v66=.bool x66_22∧Aside0 (bitmap_Pixels.j3 kq y153 a1 x8_3 x9_3 x10_3 (wrap64 ((rd x0_3 0) / 16)) (wrap64 ((wrap64 (Go.bits .and .u8 (rd x0_3 0) 15))+(wrap64 (rd y147 0)))) a2 x22_2 x66_22=some (r1,r2))∧Aside0 (kq≤k3)∧Aside0 (Kd.V (Kd.int .u8) 5 wc w.heap.size (fun k_=>(P0_ k_∨w.heap.size≤k_)∧some k_≠(u8:Value).ownBlock) (.slice A24 y153.length c24) y153)∧Aside0 (Kd.R (Kd.int .i64) 3 wc w.heap.size (fun k_=>(w.heap.size≤k_)) u8 x8_3)∧Aside0 (Below w.heap.size w wc))
                      case first =>
                       have H:=HC23.out;clear HC23
                       by_cases c25:(wrap64 ((wrap64 (Go.bits .and .u8 (rd x0_3 0) 15))+(wrap64 (rd y147 0)))) > 63
                       · rw [if_pos c25] at H
                         have c25b0:decide (63 < (wrap64 ((wrap64 (Go.bits .and .u8 (rd x0_3 0) 15))+(wrap64 (rd y147 0)))))=true:=decide_eq_true c25;clear c25
                         (first|rw [c25b0]|(simp only [i64_w,i32_w];rw [c25b0])|rw [c25b1]|skip)
                         have H':=Aside0.mk H;clear H
                         go_wp2
                         repeat (go_quiet (fail);try go_wp2)
                         go_meet
                         case rel=>exact ⟨_,(true),okV,H',⟨by have:=HJ3.out;have:=HK2.out;have:=HK3.out;first|omega|exact Nat.le_refl _⟩,⟨by (with_reducible repeat (first|apply Kd.V_alloc|apply Kd.V_drewN|apply Kd.V_drew));exact HO157.out⟩,⟨rowV HO_8.out⟩,⟨belV HB.out⟩⟩
                       rw [if_neg c25] at H
                       have c25b0:decide (63 < (wrap64 ((wrap64 (Go.bits .and .u8 (rd x0_3 0) 15))+(wrap64 (rd y147 0)))))=false:=decide_eq_false c25;clear c25
                       (first|rw [c25b0]|(simp only [i64_w,i32_w];rw [c25b0])|rw [c25b1]|skip)
                       have H':=Aside0.mk H;clear H
                       go_wp2
                       repeat (go_quiet (fail);try go_wp2)
                       go_meet
                       case rel=>exact ⟨_,(decide ((wrap64 ((wrap64 (Go.bits .and .u8 (rd x0_3 0) 15))+(wrap64 (rd y147 0))))≥x10_3)),okV,H',⟨by have:=HJ3.out;have:=HK2.out;have:=HK3.out;first|omega|exact Nat.le_refl _⟩,⟨by (with_reducible repeat (first|apply Kd.V_alloc|apply Kd.V_drewN|apply Kd.V_drew));exact HO157.out⟩,⟨rowV HO_8.out⟩,⟨belV HB.out⟩⟩
                      case rest =>
                       clear HC23
                       try clear c1;try clear p1;try clear q1;try clear hx1;try clear qi1;try clear c2;try clear p2 p2;try clear q2;try clear c6;try clear p6;try clear c8;try clear c9;try clear c9b0;try clear c10;try clear c10b0;try clear c11;try clear c11b0;try clear c11b1;try clear c11b2;try clear c13;try clear c13b0;try clear c13b1;try clear c14;try clear c14b0;try clear c14b1;try clear p14;try clear q14;try clear hx14;try clear qi14;try clear p15;try clear q15;try clear hx15;try clear qi15;try clear c17;try clear q17 q17;try clear c18;try clear c18b0;try clear c18b1;try clear c19;try clear c19b0;try clear c19b1;try clear c20;try clear c20b0;try clear c20b1;try clear c20b2;try clear c21;try clear c21b0;try clear c21b1;try clear c22;try clear c22b0;try clear c22b1;try clear c24;try clear q24 q24;try clear c25;try clear c25b0;try clear c25b1;try clear hx145_0;try clear hx146_0;try clear hx152_0;try clear p145;try clear p146;try clear p152;try clear q145;try clear q146;try clear q152
                       obtain ⟨kq,x66_22,rfl,HA,HJ22,HO_0,HO_8,HB⟩:=hcut
                       cases kq with
                       | zero=>exact absurd HA.out (by simp [bitmap_Pixels.j3])
                       | succ kj22 =>
                        have H:=HA.out;clear HA
                        simp only [bitmap_Pixels.j3] at H
                        by_cases c26:x66_22=true
                        · subst c26
                          have H1:(some (([]:List Int),4))=some (r1,r2):=by rw [if_pos rfl] at H;exact H
                          clear H
                          have H:=H1;clear H1
                          simp only [Option.some.injEq,Prod.mk.injEq] at H
                          obtain ⟨rfl,rfl⟩:=H
                          go_wp2
                          repeat (go_quiet (fail);try go_wp2)
                          go_ret2
                          exact ⟨_,by first|rfl|(simp [errW_none,errW_some] <;> rfl)|(simp [*,errW_none,errW_some] <;> rfl),by first|exact Kd.R_nil _ _ _ _ _|exact Kd.N_nil _ _ _ _ _|exact Kd.V_nil _ _ _ _ _|exact Kd.Q_nil _ _ _ _ _|exact Kd.S_nil _ _ _ _ _,by repeat (first|(with_reducible first|exact HB.out|apply below_alloc|apply pw_below_drewN|apply below_drew1)|exact HB.out)⟩
                        replace c26:=Bool.eq_false_iff.mpr c26;subst c26
                        have H1:(bitmap_Pixels.j4 kj22 y153 a1 x8_3 x9_3 x10_3 (wrap64 ((rd x0_3 0) / 16)) (wrap64 ((wrap64 (Go.bits .and .u8 (rd x0_3 0) 15))+(wrap64 (rd y147 0)))) a2 x22_2)=some (r1,r2):=by rw [if_neg (show ¬ (false=true) by decide)] at H;exact H
                        clear H
                        have H:=H1;clear H1
                        have H':=Aside0.mk H;clear H
                        go_wp2
                        repeat (go_quiet (fail);try go_wp2)
                        go_meet
                        case rel=>exact ⟨_,(y153),((wrap64 ((wrap64 (Go.bits .and .u8 (rd x0_3 0) 15))+(wrap64 (rd y147 0))))),okV,H',⟨by have:=HJ3.out;have:=HK2.out;have:=HK3.out;have:=HJ22.out;first|omega|exact Nat.le_refl _⟩,⟨by (with_reducible repeat (first|apply Kd.V_alloc|apply Kd.V_drewN|apply Kd.V_drew));exact HO_0.out⟩,⟨rowV HO_8.out⟩,⟨belV HB.out⟩⟩
                    rw [if_neg c22] at H
                    exact absurd H (by simp)
                  rw [if_neg c21] at H
                  exact absurd H (by simp)
                rw [if_neg c19] at H
                have c19b0:((wrap64 (Go.bits .and .u8 (rd x0_3 0) 15)) == 15)=false:=beq_eq_false_iff_ne.mpr c19
                have c19b1:((wrap64 (Go.bits .and .u8 (rd x0_3 0) 15)) != 15)=true:=bne_iff_ne.mpr c19
                by_cases c27:(wrap64 (Go.bits .and .u8 (rd x0_3 0) 15))≥x10_3
                · rw [if_pos c27] at H
                  have c27b0:decide (x10_3≤(wrap64 (Go.bits .and .u8 (rd x0_3 0) 15)))=true:=decide_eq_true c27;clear c27
                  simp only [Option.some.injEq,Prod.mk.injEq] at H
                  obtain ⟨rfl,rfl⟩:=H
                  go_wp2
                  repeat (go_quiet (fail);try go_wp2)
                  go_ret2
                  exact ⟨_,by first|rfl|(simp [errW_none,errW_some] <;> rfl)|(simp [*,errW_none,errW_some] <;> rfl),by first|exact Kd.R_nil _ _ _ _ _|exact Kd.N_nil _ _ _ _ _|exact Kd.V_nil _ _ _ _ _|exact Kd.Q_nil _ _ _ _ _|exact Kd.S_nil _ _ _ _ _,by repeat (first|(with_reducible first|exact HB.out|apply below_alloc|apply pw_below_drewN|apply below_drew1)|exact HB.out)⟩
                rw [if_neg c27] at H
                have c27b0:decide (x10_3≤(wrap64 (Go.bits .and .u8 (rd x0_3 0) 15)))=false:=decide_eq_false c27;clear c27
                have H':=Aside0.mk H;clear H
                go_wp2
                repeat (go_quiet (fail);try go_wp2)
                go_meet
                case rel=>exact ⟨_,(y147),(wrap64 (Go.bits .and .u8 (rd x0_3 0) 15)),okV,H',⟨by have:=HJ3.out;have:=HK2.out;have:=HK3.out;first|omega|exact Nat.le_refl _⟩,⟨by (with_reducible repeat (first|apply Kd.V_alloc|apply Kd.V_drewN|apply Kd.V_drew));exact HO151.out⟩,⟨rowV HO_8.out⟩,⟨belV HB.out⟩⟩
               case rest =>
                clear HC15
                try clear c1;try clear p1 p1;try clear q1 q1;try clear hx1;try clear qi1;try clear c2;try clear p2 p2;try clear q2 q2;try clear c6;try clear p6 p6;try clear c8;try clear c9;try clear c9b0;try clear c10;try clear c10b0;try clear c11;try clear c11b0;try clear c11b1;try clear c11b2;try clear c13;try clear c13b0;try clear c13b1;try clear c14;try clear c14b0;try clear c14b1;try clear p14 p14;try clear q14 q14;try clear hx14;try clear qi14;try clear p15 p15;try clear q15 q15;try clear hx15;try clear qi15;try clear c17;try clear q17 q17;try clear c18;try clear c18b0;try clear c18b1;try clear c19;try clear c19b0;try clear c19b1;try clear c20;try clear c20b0;try clear c20b1;try clear c20b2;try clear c21;try clear c21b0;try clear c21b1;try clear c22;try clear c22b0;try clear c22b1;try clear c24;try clear q24 q24;try clear c25;try clear c25b0;try clear c25b1;try clear c26;try clear c27;try clear c27b0;try clear hx145_0;try clear hx146_0;try clear hx152_0;try clear p145;try clear p146;try clear p152;try clear q145;try clear q146;try clear q152
                obtain ⟨kq,x0_14,x12_14,rfl,HA,HJ14,HO_0,HO_8,HB⟩:=hcut
                cases kq with
                | zero=>exact absurd HA.out (by simp [bitmap_Pixels.j4])
                | succ kj14 =>
                 have H:=HA.out;clear HA
                 simp only [bitmap_Pixels.j4] at H
                 by_cases c28:(wrap64 ((rd x0_3 0) / 16))=x9_3
                 · rw [if_pos c28] at H
                   have c28b0:((wrap64 ((rd x0_3 0) / 16)) == x9_3)=true:=beq_iff_eq.mpr c28
                   have c28b1:((wrap64 ((rd x0_3 0) / 16)) != x9_3)=false:=bne_eq_false_iff_eq.mpr c28;clear c28
                   simp only [Option.some.injEq,Prod.mk.injEq] at H
                   obtain ⟨rfl,rfl⟩:=H
                   go_wp2
                   repeat (go_quiet (fail);try go_wp2)
                   go_ret2
                   exact ⟨_,by first|rfl|(simp [errW_none,errW_some] <;> rfl)|(simp [*,errW_none,errW_some] <;> rfl),by first|exact Kd.R_nil _ _ _ _ _|exact Kd.N_nil _ _ _ _ _|exact Kd.V_nil _ _ _ _ _|exact Kd.Q_nil _ _ _ _ _|exact Kd.S_nil _ _ _ _ _,by repeat (first|(with_reducible first|exact HB.out|apply below_alloc|apply pw_below_drewN|apply below_drew1)|exact HB.out)⟩
                 rw [if_neg c28] at H
                 have c28b0:((wrap64 ((rd x0_3 0) / 16)) == x9_3)=false:=beq_eq_false_iff_ne.mpr c28
                 have c28b1:((wrap64 ((rd x0_3 0) / 16)) != x9_3)=true:=bne_iff_ne.mpr c28
                 obtain ⟨y158,hy158⟩:∃ y_:List Int,y_=(([(wrap64 ((rd x0_3 0) / 16))]:List Int)):=⟨_,rfl⟩
                 replace H:((slices_Repeat_int_int.f y158 x12_14).bind fun t161=>(if x8_3.length+t161.length < 17592186044416 then (bitmap_Pixels.l1 kj14 x0_14 a1 (x8_3 ++ t161) (wrap64 ((rd x0_3 0) / 16)) (wrap64 (x10_3 - x12_14)) a2 x22_2) else (none)))=some (r1,r2):=by first|(rw [hy158];with_reducible exact H)|(have H2_:=(Option.bind_some _ _).symm.trans H;rw [hy158];with_reducible exact H2_)|(have H2_:=(Option.bind_some _ _).symm.trans H;with_reducible exact H2_)|with_reducible exact H|(rw [hy158];exact H)|exact H
                 have Ny158:=Aside0.mk hy158;clear hy158
                 replace H:=Option.bind_eq_some_iff.mp H
                 obtain ⟨t161,A290,H⟩:=H
                 replace H:(if x8_3.length+t161.length < 17592186044416 then (bitmap_Pixels.l1 kj14 x0_14 a1 (x8_3 ++ t161) (wrap64 ((rd x0_3 0) / 16)) (wrap64 (x10_3 - x12_14)) a2 x22_2) else (none))=some (r1,r2):=H
                 have A29:=Aside0.mk A290;clear A290
                 by_cases c30:x8_3.length+t161.length < 17592186044416
                 · rw [if_pos c30] at H
                   have LMc30:=Aside0.mk c30;clear c30
                   obtain ⟨y164,hy164⟩:∃ y_:List Int,y_=(x8_3 ++ t161):=⟨_,rfl⟩
                   replace H:(bitmap_Pixels.l1 kj14 x0_14 a1 y164 (wrap64 ((rd x0_3 0) / 16)) (wrap64 (x10_3 - x12_14)) a2 x22_2)=some (r1,r2):=by first|(rw [hy164];with_reducible exact H)|(have H2_:=(Option.bind_some _ _).symm.trans H;rw [hy164];with_reducible exact H2_)|(have H2_:=(Option.bind_some _ _).symm.trans H;with_reducible exact H2_)|with_reducible exact H|(rw [hy164];exact H)|exact H
                   have Ny164:=Aside0.mk hy164;clear hy164
                   have H':=Aside0.mk H;clear H
                   go_wp2_with (first|((with_reducible refine gate_dst (N:=76) rfl ?_);refine Kd.R_lit (Kd.int .i64) _ 3 ?hg (N:=76) ?hd (xs:=([(wrap64 ((rd x0_3 0) / 16))]:List Int)) (inner:=[.int .i64 (wrap64 ((rd x0_3 0) / 16))]) (ok:=fun _=>True) (okp:=fun _=>True) ?hr ?hp (fun _ hk=>hk) trivial (Below.refl _ _) (Nat.le_refl _) (by simp) ?_;(case hd=>rfl);(case hg=>rfl);(case hr=>first|(go_simp;done)|(go_simp;rfl));(case hp=>exact (Reps.one (show Kd.M (Kd.int .i64) _ _ _ (wrap64 ((rd x0_3 0) / 16)) [.int .i64 (wrap64 ((rd x0_3 0) / 16))] from rfl) (Reps.none _ _)));intro v159 w31 ho32 hb hg_ hnew_;clear hg_ hnew_;(first|rw [← Ny158.out] at ho32|(simp only [Int.reduceToNat] at ho32;rw [← Ny158.out] at ho32));have n0_:=Aside0.mk (Kd.V_elder' (by (with_reducible repeat (first|apply Kd.V_alloc|apply Kd.V_drewN|apply Kd.V_drew));exact HO_0.out) (Kd.R_base ho32) hb);have n1_:=Aside0.mk (Kd.R_elder' (rowV HO_8.out) (Kd.R_base ho32) hb);have n2_:=Aside0.mk (Kd.R_lower (Kd.R_new' (Kd.R_newM (M:=fun k_=>(w.heap.size≤k_)) ho32 (below_size (belV HB.out)) (fun k_ h_=>h_)) (Kd.R_lt (rowV HO_8.out))) (below_size (belV HB.out)));have n3_:=Aside0.mk (below_step (belV HB.out) hb);clear HO_0;clear HO_8;clear HB;have HO_0:=n0_;have HO_8:=n1_;have HO160:=n2_;have HB:=n3_;clear n0_ n1_ n2_ n3_;clear hb ho32;obtain ⟨Ao33,co33,eo33⟩:=Kd.R_slice HO160.out;subst eo33)|(go_at_call 53;(with_reducible refine (slices_Repeat_int_int.calls _ _ y158 x12_14 t161 _ ?side1 ?side2 A29.out).mono ?_);(case side1=>exact cV (Kd.R_reads' HO160.out).2.2);(case side2=>exact (Kd.R_reads' HO160.out).2.1);rintro e w34 ⟨v162,rfl,ho0,hb⟩;have n0_:=Aside0.mk (Kd.V_elder' (by (with_reducible repeat (first|apply Kd.V_alloc|apply Kd.V_drewN|apply Kd.V_drew));exact HO_0.out) (Kd.R_base ho0) hb);have n1_:=Aside0.mk (Kd.R_elder' (rowV HO_8.out) (Kd.R_base ho0) hb);have n2_:=Aside0.mk (Kd.R_elder' (rowV HO160.out) (Kd.R_base ho0) hb);have n3_:=Aside0.mk (Kd.R_lower (Kd.R_new' (Kd.R_new' (Kd.R_newM (M:=fun k_=>(w.heap.size≤k_)) ho0 (below_size (belV HB.out)) (fun k_ h_=>h_)) (Kd.R_lt (rowV HO_8.out))) (Kd.R_lt (rowV HO160.out))) (below_size (belV HB.out)));have n4_:=Aside0.mk (below_step (belV HB.out) hb);clear HO_0;clear HO_8;clear HO160;clear HB;have HO_0:=n0_;have HO_8:=n1_;have HO160:=n2_;have HO163:=n3_;have HB:=n4_;clear n0_ n1_ n2_ n3_ n4_;(try clear hb);(try clear hb2);(try clear hk);(try clear hi);(try clear ho0);obtain ⟨Ao36,co36,eo36⟩:=Kd.R_slice HO163.out;subst eo36)|((with_reducible refine gate_builtin (b:=.append) (xs:=#[.tmp 74,.tmp 78]) rfl ?_);at_builtin;refine Kd.R_append_rows (Kd.int .i64) (w0:=w) w.heap.size rfl (.tmp 74) (.tmp 78) 22 3 (.int .i64 0) 8 rfl Try.underlying22 info3 rfl (by decide) (by omega) u8 x8_3 t161 _ _ _ (fun k_=>(w.heap.size≤k_)∧some k_≠(.slice Ao33 y158.length co33:Value).ownBlock) (fun _=>False) rfl rfl ?aO ?aR (fun _ _ h=>h) (fun _ h=>h.elim) ?aF ?aB ?aS ?aL ?_;(case aR=>exact cV (Kd.R_reads' HO163.out).2.2);(case aB=>exact (belV HB.out));(case aF=>exact (fun k_ hk=>⟨(Nat.le_trans (below_size (belV HB.out)) hk),Kd.fresh' (Kd.R_lt (rowV HO160.out)) k_ hk⟩));(case aO=>exact (by (with_reducible repeat (first|apply Kd.R_alloc|apply Kd.R_drewN|apply Kd.R_drew));exact Kd.R_mono HO_8.out (fun _ hk=>⟨hk.1.1,hk.1.2⟩)));(case aS=>exact (below_size (belV HB.out)));(case aL=>have:=LMc30.out;omega);intro v165 w35 ho hb hg hat;rw [← Ny164.out] at ho;have n0_:=Aside0.mk (Kd.V_afterv (ok:=(fun k_=>(P0_ k_∨w.heap.size≤k_)∧some k_≠(.slice Ao33 y158.length co33:Value).ownBlock∧some k_≠(.slice Ao36 t161.length co36:Value).ownBlock)) (by (with_reducible repeat (first|apply Kd.V_alloc|apply Kd.V_drewN|apply Kd.V_drew));exact Kd.V_mono HO_0.out (fun _ hk=>⟨⟨hk.1.1.1,⟨hk.1.2,hk.2⟩⟩,hk.1.1.2⟩)) hg hat);have n1_:=Aside0.mk (Kd.R_after (ok:=(fun k_=>(w.heap.size≤k_)∧some k_≠(.slice Ao36 t161.length co36:Value).ownBlock)) (by (with_reducible repeat (first|apply Kd.R_alloc|apply Kd.R_drewN|apply Kd.R_drew));exact Kd.R_mono HO160.out (fun _ hk=>⟨⟨hk.1.1.1,hk.2⟩,hk.1.2⟩)) hg hat);have n2_:=Aside0.mk (hb);have n3_:=Aside0.mk (ho);clear HO_0;clear HO160;clear HB;clear HO_8;clear HO163;have HO_0:=n0_;have HO160:=n1_;have HB:=n2_;have HO166:=n3_;clear n0_ n1_ n2_ n3_;clear ho hb hg hat))
                   repeat (go_quiet (first|((with_reducible refine gate_dst (N:=76) rfl ?_);refine Kd.R_lit (Kd.int .i64) _ 3 ?hg (N:=76) ?hd (xs:=([(wrap64 ((rd x0_3 0) / 16))]:List Int)) (inner:=[.int .i64 (wrap64 ((rd x0_3 0) / 16))]) (ok:=fun _=>True) (okp:=fun _=>True) ?hr ?hp (fun _ hk=>hk) trivial (Below.refl _ _) (Nat.le_refl _) (by simp) ?_;(case hd=>rfl);(case hg=>rfl);(case hr=>first|(go_simp;done)|(go_simp;rfl));(case hp=>exact (Reps.one (show Kd.M (Kd.int .i64) _ _ _ (wrap64 ((rd x0_3 0) / 16)) [.int .i64 (wrap64 ((rd x0_3 0) / 16))] from rfl) (Reps.none _ _)));intro v159 w31 ho32 hb hg_ hnew_;clear hg_ hnew_;(first|rw [← Ny158.out] at ho32|(simp only [Int.reduceToNat] at ho32;rw [← Ny158.out] at ho32));have n0_:=Aside0.mk (Kd.V_elder' (by (with_reducible repeat (first|apply Kd.V_alloc|apply Kd.V_drewN|apply Kd.V_drew));exact HO_0.out) (Kd.R_base ho32) hb);have n1_:=Aside0.mk (Kd.R_elder' (rowV HO_8.out) (Kd.R_base ho32) hb);have n2_:=Aside0.mk (Kd.R_lower (Kd.R_new' (Kd.R_newM (M:=fun k_=>(w.heap.size≤k_)) ho32 (below_size (belV HB.out)) (fun k_ h_=>h_)) (Kd.R_lt (rowV HO_8.out))) (below_size (belV HB.out)));have n3_:=Aside0.mk (below_step (belV HB.out) hb);clear HO_0;clear HO_8;clear HB;have HO_0:=n0_;have HO_8:=n1_;have HO160:=n2_;have HB:=n3_;clear n0_ n1_ n2_ n3_;clear hb ho32;obtain ⟨Ao33,co33,eo33⟩:=Kd.R_slice HO160.out;subst eo33)|(go_at_call 53;(with_reducible refine (slices_Repeat_int_int.calls _ _ y158 x12_14 t161 _ ?side1 ?side2 A29.out).mono ?_);(case side1=>exact cV (Kd.R_reads' HO160.out).2.2);(case side2=>exact (Kd.R_reads' HO160.out).2.1);rintro e w34 ⟨v162,rfl,ho0,hb⟩;have n0_:=Aside0.mk (Kd.V_elder' (by (with_reducible repeat (first|apply Kd.V_alloc|apply Kd.V_drewN|apply Kd.V_drew));exact HO_0.out) (Kd.R_base ho0) hb);have n1_:=Aside0.mk (Kd.R_elder' (rowV HO_8.out) (Kd.R_base ho0) hb);have n2_:=Aside0.mk (Kd.R_elder' (rowV HO160.out) (Kd.R_base ho0) hb);have n3_:=Aside0.mk (Kd.R_lower (Kd.R_new' (Kd.R_new' (Kd.R_newM (M:=fun k_=>(w.heap.size≤k_)) ho0 (below_size (belV HB.out)) (fun k_ h_=>h_)) (Kd.R_lt (rowV HO_8.out))) (Kd.R_lt (rowV HO160.out))) (below_size (belV HB.out)));have n4_:=Aside0.mk (below_step (belV HB.out) hb);clear HO_0;clear HO_8;clear HO160;clear HB;have HO_0:=n0_;have HO_8:=n1_;have HO160:=n2_;have HO163:=n3_;have HB:=n4_;clear n0_ n1_ n2_ n3_ n4_;(try clear hb);(try clear hb2);(try clear hk);(try clear hi);(try clear ho0);obtain ⟨Ao36,co36,eo36⟩:=Kd.R_slice HO163.out;subst eo36)|((with_reducible refine gate_builtin (b:=.append) (xs:=#[.tmp 74,.tmp 78]) rfl ?_);at_builtin;refine Kd.R_append_rows (Kd.int .i64) (w0:=w) w.heap.size rfl (.tmp 74) (.tmp 78) 22 3 (.int .i64 0) 8 rfl Try.underlying22 info3 rfl (by decide) (by omega) u8 x8_3 t161 _ _ _ (fun k_=>(w.heap.size≤k_)∧some k_≠(.slice Ao33 y158.length co33:Value).ownBlock) (fun _=>False) rfl rfl ?aO ?aR (fun _ _ h=>h) (fun _ h=>h.elim) ?aF ?aB ?aS ?aL ?_;(case aR=>exact cV (Kd.R_reads' HO163.out).2.2);(case aB=>exact (belV HB.out));(case aF=>exact (fun k_ hk=>⟨(Nat.le_trans (below_size (belV HB.out)) hk),Kd.fresh' (Kd.R_lt (rowV HO160.out)) k_ hk⟩));(case aO=>exact (by (with_reducible repeat (first|apply Kd.R_alloc|apply Kd.R_drewN|apply Kd.R_drew));exact Kd.R_mono HO_8.out (fun _ hk=>⟨hk.1.1,hk.1.2⟩)));(case aS=>exact (below_size (belV HB.out)));(case aL=>have:=LMc30.out;omega);intro v165 w35 ho hb hg hat;rw [← Ny164.out] at ho;have n0_:=Aside0.mk (Kd.V_afterv (ok:=(fun k_=>(P0_ k_∨w.heap.size≤k_)∧some k_≠(.slice Ao33 y158.length co33:Value).ownBlock∧some k_≠(.slice Ao36 t161.length co36:Value).ownBlock)) (by (with_reducible repeat (first|apply Kd.V_alloc|apply Kd.V_drewN|apply Kd.V_drew));exact Kd.V_mono HO_0.out (fun _ hk=>⟨⟨hk.1.1.1,⟨hk.1.2,hk.2⟩⟩,hk.1.1.2⟩)) hg hat);have n1_:=Aside0.mk (Kd.R_after (ok:=(fun k_=>(w.heap.size≤k_)∧some k_≠(.slice Ao36 t161.length co36:Value).ownBlock)) (by (with_reducible repeat (first|apply Kd.R_alloc|apply Kd.R_drewN|apply Kd.R_drew));exact Kd.R_mono HO160.out (fun _ hk=>⟨⟨hk.1.1.1,hk.2⟩,hk.1.2⟩)) hg hat);have n2_:=Aside0.mk (hb);have n3_:=Aside0.mk (ho);clear HO_0;clear HO160;clear HB;clear HO_8;clear HO163;have HO_0:=n0_;have HO160:=n1_;have HB:=n2_;have HO166:=n3_;clear n0_ n1_ n2_ n3_;clear ho hb hg hat));try go_wp2_with (first|((with_reducible refine gate_dst (N:=76) rfl ?_);refine Kd.R_lit (Kd.int .i64) _ 3 ?hg (N:=76) ?hd (xs:=([(wrap64 ((rd x0_3 0) / 16))]:List Int)) (inner:=[.int .i64 (wrap64 ((rd x0_3 0) / 16))]) (ok:=fun _=>True) (okp:=fun _=>True) ?hr ?hp (fun _ hk=>hk) trivial (Below.refl _ _) (Nat.le_refl _) (by simp) ?_;(case hd=>rfl);(case hg=>rfl);(case hr=>first|(go_simp;done)|(go_simp;rfl));(case hp=>exact (Reps.one (show Kd.M (Kd.int .i64) _ _ _ (wrap64 ((rd x0_3 0) / 16)) [.int .i64 (wrap64 ((rd x0_3 0) / 16))] from rfl) (Reps.none _ _)));intro v159 w31 ho32 hb hg_ hnew_;clear hg_ hnew_;(first|rw [← Ny158.out] at ho32|(simp only [Int.reduceToNat] at ho32;rw [← Ny158.out] at ho32));have n0_:=Aside0.mk (Kd.V_elder' (by (with_reducible repeat (first|apply Kd.V_alloc|apply Kd.V_drewN|apply Kd.V_drew));exact HO_0.out) (Kd.R_base ho32) hb);have n1_:=Aside0.mk (Kd.R_elder' (rowV HO_8.out) (Kd.R_base ho32) hb);have n2_:=Aside0.mk (Kd.R_lower (Kd.R_new' (Kd.R_newM (M:=fun k_=>(w.heap.size≤k_)) ho32 (below_size (belV HB.out)) (fun k_ h_=>h_)) (Kd.R_lt (rowV HO_8.out))) (below_size (belV HB.out)));have n3_:=Aside0.mk (below_step (belV HB.out) hb);clear HO_0;clear HO_8;clear HB;have HO_0:=n0_;have HO_8:=n1_;have HO160:=n2_;have HB:=n3_;clear n0_ n1_ n2_ n3_;clear hb ho32;obtain ⟨Ao33,co33,eo33⟩:=Kd.R_slice HO160.out;subst eo33)|(go_at_call 53;(with_reducible refine (slices_Repeat_int_int.calls _ _ y158 x12_14 t161 _ ?side1 ?side2 A29.out).mono ?_);(case side1=>exact cV (Kd.R_reads' HO160.out).2.2);(case side2=>exact (Kd.R_reads' HO160.out).2.1);rintro e w34 ⟨v162,rfl,ho0,hb⟩;have n0_:=Aside0.mk (Kd.V_elder' (by (with_reducible repeat (first|apply Kd.V_alloc|apply Kd.V_drewN|apply Kd.V_drew));exact HO_0.out) (Kd.R_base ho0) hb);have n1_:=Aside0.mk (Kd.R_elder' (rowV HO_8.out) (Kd.R_base ho0) hb);have n2_:=Aside0.mk (Kd.R_elder' (rowV HO160.out) (Kd.R_base ho0) hb);have n3_:=Aside0.mk (Kd.R_lower (Kd.R_new' (Kd.R_new' (Kd.R_newM (M:=fun k_=>(w.heap.size≤k_)) ho0 (below_size (belV HB.out)) (fun k_ h_=>h_)) (Kd.R_lt (rowV HO_8.out))) (Kd.R_lt (rowV HO160.out))) (below_size (belV HB.out)));have n4_:=Aside0.mk (below_step (belV HB.out) hb);clear HO_0;clear HO_8;clear HO160;clear HB;have HO_0:=n0_;have HO_8:=n1_;have HO160:=n2_;have HO163:=n3_;have HB:=n4_;clear n0_ n1_ n2_ n3_ n4_;(try clear hb);(try clear hb2);(try clear hk);(try clear hi);(try clear ho0);obtain ⟨Ao36,co36,eo36⟩:=Kd.R_slice HO163.out;subst eo36)|((with_reducible refine gate_builtin (b:=.append) (xs:=#[.tmp 74,.tmp 78]) rfl ?_);at_builtin;refine Kd.R_append_rows (Kd.int .i64) (w0:=w) w.heap.size rfl (.tmp 74) (.tmp 78) 22 3 (.int .i64 0) 8 rfl Try.underlying22 info3 rfl (by decide) (by omega) u8 x8_3 t161 _ _ _ (fun k_=>(w.heap.size≤k_)∧some k_≠(.slice Ao33 y158.length co33:Value).ownBlock) (fun _=>False) rfl rfl ?aO ?aR (fun _ _ h=>h) (fun _ h=>h.elim) ?aF ?aB ?aS ?aL ?_;(case aR=>exact cV (Kd.R_reads' HO163.out).2.2);(case aB=>exact (belV HB.out));(case aF=>exact (fun k_ hk=>⟨(Nat.le_trans (below_size (belV HB.out)) hk),Kd.fresh' (Kd.R_lt (rowV HO160.out)) k_ hk⟩));(case aO=>exact (by (with_reducible repeat (first|apply Kd.R_alloc|apply Kd.R_drewN|apply Kd.R_drew));exact Kd.R_mono HO_8.out (fun _ hk=>⟨hk.1.1,hk.1.2⟩)));(case aS=>exact (below_size (belV HB.out)));(case aL=>have:=LMc30.out;omega);intro v165 w35 ho hb hg hat;rw [← Ny164.out] at ho;have n0_:=Aside0.mk (Kd.V_afterv (ok:=(fun k_=>(P0_ k_∨w.heap.size≤k_)∧some k_≠(.slice Ao33 y158.length co33:Value).ownBlock∧some k_≠(.slice Ao36 t161.length co36:Value).ownBlock)) (by (with_reducible repeat (first|apply Kd.V_alloc|apply Kd.V_drewN|apply Kd.V_drew));exact Kd.V_mono HO_0.out (fun _ hk=>⟨⟨hk.1.1.1,⟨hk.1.2,hk.2⟩⟩,hk.1.1.2⟩)) hg hat);have n1_:=Aside0.mk (Kd.R_after (ok:=(fun k_=>(w.heap.size≤k_)∧some k_≠(.slice Ao36 t161.length co36:Value).ownBlock)) (by (with_reducible repeat (first|apply Kd.R_alloc|apply Kd.R_drewN|apply Kd.R_drew));exact Kd.R_mono HO160.out (fun _ hk=>⟨⟨hk.1.1.1,hk.2⟩,hk.1.2⟩)) hg hat);have n2_:=Aside0.mk (hb);have n3_:=Aside0.mk (ho);clear HO_0;clear HO160;clear HB;clear HO_8;clear HO163;have HO_0:=n0_;have HO160:=n1_;have HB:=n2_;have HO166:=n3_;clear n0_ n1_ n2_ n3_;clear ho hb hg hat)))
                   go_roundg kj14
                   case measure=>have:=HJ3.out;have:=HK2.out;have:=HK3.out;have:=HJ14.out;omega
                   case rel=>exact ⟨(x0_14),(y164),((wrap64 ((rd x0_3 0) / 16))),(wrap64 (x10_3 - x12_14)),okV,okV,H',⟨by have:=HJ3.out;have:=HK2.out;have:=HK3.out;have:=HJ14.out;omega⟩,⟨by (with_reducible repeat (first|apply Kd.V_alloc|apply Kd.V_drewN|apply Kd.V_drew));exact Kd.V_mono HO_0.out (fun _ hk=>⟨hk.1.1,hk.2⟩)⟩,⟨by (with_reducible repeat (first|apply Kd.R_alloc|apply Kd.R_drewN|apply Kd.R_drew));exact Kd.R_mono HO166.out (fun _ hk=>hk.1)⟩,⟨belV HB.out⟩⟩
                 rw [if_neg c30] at H
                 exact absurd H (by simp)
             rw [if_neg c14] at H
             exact absurd H (by simp)
           rw [if_neg c13] at H
           exact absurd H (by simp)
         rw [if_neg c10] at H
         have c10b0:decide (0 < x10_3)=false:=decide_eq_false c10;clear c10
         have H':=Aside0.mk H;clear H
         go_wp2
         repeat (go_quiet (fail);try go_wp2)
         go_roundg k3
         case measure=>have:=HJ3.out;have:=HK2.out;have:=HK3.out;omega
         case rel=>exact ⟨(x0_3),(x8_3),(wrap64 (x22_2+1)),okV,H',⟨by have:=HJ3.out;have:=HK2.out;have:=HK3.out;omega⟩,⟨by (with_reducible repeat (first|apply Kd.V_alloc|apply Kd.V_drewN|apply Kd.V_drew));exact HO_0.out⟩,⟨rowV HO_8.out⟩,⟨belV HB.out⟩⟩
     rw [if_neg c9] at H
     have c9b0:decide (x22_2 < a2)=false:=decide_eq_false c9;clear c9
     by_cases c37:(x0_2.length:Int) > 0
     · rw [if_pos c37] at H
       have c37b0:decide (0 < (x0_2.length:Int))=true:=decide_eq_true c37
       have c37b1:decide (0 < x0_2.length)=true:=decide_eq_true (by omega);clear c37
       simp only [Option.some.injEq,Prod.mk.injEq] at H
       obtain ⟨rfl,rfl⟩:=H
       obtain ⟨Ao38,co38,eo38⟩:=Kd.V_slice HO_0.out;subst eo38
       go_wp2
       repeat (go_quiet (fail);try go_wp2)
       go_ret2
       exact ⟨_,by first|rfl|(simp [errW_none,errW_some] <;> rfl)|(simp [*,errW_none,errW_some] <;> rfl),by first|exact Kd.R_nil _ _ _ _ _|exact Kd.N_nil _ _ _ _ _|exact Kd.V_nil _ _ _ _ _|exact Kd.Q_nil _ _ _ _ _|exact Kd.S_nil _ _ _ _ _,by repeat (first|(with_reducible first|exact HB.out|apply below_alloc|apply pw_below_drewN|apply below_drew1)|exact HB.out)⟩
     rw [if_neg c37] at H
     have c37b0:decide (0 < (x0_2.length:Int))=false:=decide_eq_false c37
     have c37b1:decide (0 < x0_2.length)=false:=decide_eq_false (by omega);clear c37
     simp only [Option.some.injEq,Prod.mk.injEq] at H
     obtain ⟨rfl,rfl⟩:=H
     obtain ⟨Ao39,co39,eo39⟩:=Kd.V_slice HO_0.out;subst eo39
     go_wp2
     repeat (go_quiet (fail);try go_wp2)
     go_ret2
     exact ⟨_,by first|rfl|(simp [errW_none,errW_some] <;> rfl)|(simp [*,errW_none,errW_some] <;> rfl),by (with_reducible repeat (first|apply Kd.R_alloc|apply Kd.R_drewN|apply Kd.R_drew));exact HO_8.out,by repeat (first|(with_reducible first|exact HB.out|apply below_alloc|apply pw_below_drewN|apply below_drew1)|exact HB.out)⟩

/-! ### dioramaref00_EqInts: function 15 -/
def dioramaref00_EqInts.l0 : Nat → List Int → List Int → Int → Option (Bool)
 | 0,_,_,_=>none
 | k+1,x0,x1,x5=>if x5 < (x0.length:Int) then (if 0≤x5 then (if x5 < (x1.length:Int) then (if (rd x0 x5)=(rd x1 x5) then (dioramaref00_EqInts.l0 k x0 x1 (wrap64 (x5+1))) else (some false)) else (none)) else (none)) else (some true)
def dioramaref00_EqInts.f (k : Nat) (l0 : List Int) (l1 : List Int) : Option (Bool) := if (l0.length : Int) = (l1.length : Int) then (dioramaref00_EqInts.l0 k l0 l1 0) else (some false)
theorem dioramaref00_EqInts.mono_l:∀ k,(∀ y0 y1 y2,LeO (dioramaref00_EqInts.l0 k y0 y1 y2) (dioramaref00_EqInts.l0 (k+1) y0 y1 y2))
 | 0=>fun _ _ _ r h=>by simp [dioramaref00_EqInts.l0] at h
 | k+1=>by
  have ih0:=dioramaref00_EqInts.mono_l k
  · intro y0 y1 y2
    unfold dioramaref00_EqInts.l0
    repeat' first
    | (with_reducible exact ih0 _ _ _)
    | (with_reducible exact LeO.refl _)
    | (with_reducible exact LeO.none _)
    | (with_reducible refine LeO.ite ?_ ?_)
    | (with_reducible refine LeO.bind ?_ (fun _=>?_))
    | exact LeO.none _
    | refine LeO.ite ?_ ?_
    | refine LeO.bind ?_ (fun _=>?_)
theorem dioramaref00_EqInts.mono:∀ a0 a1 k,LeO (dioramaref00_EqInts.f k a0 a1) (dioramaref00_EqInts.f (k+1) a0 a1):=by
 intro a0 a1 k
 have ih0:=dioramaref00_EqInts.mono_l k
 unfold dioramaref00_EqInts.f
 repeat' first
  | (with_reducible exact ih0 _ _ _)
  | (with_reducible exact LeO.refl _)
  | (with_reducible exact LeO.none _)
  | (with_reducible refine LeO.ite ?_ ?_)
  | (with_reducible refine LeO.bind ?_ (fun _=>?_))
  | exact LeO.none _
  | refine LeO.ite ?_ ?_
  | refine LeO.bind ?_ (fun _=>?_)
set_option maxHeartbeats 8000000 in
set_option maxRecDepth 100000 in
theorem dioramaref00_EqInts.calls (k:Nat) (A0:Option Addr) (c0:Nat) (l0:List Int) (A1:Option Addr) (c1:Nat) (l1:List Int) (r:Bool) (w:World) (hr0:Kd.C (Kd.int .i64) w A0 l0.length l0) (hc0:l0.length≤c0) (hr1:Kd.C (Kd.int .i64) w A1 l1.length l1) (hc1:l1.length≤c1) (h:dioramaref00_EqInts.f k l0 l1=some r) :
 Calls Try.prog 15 #[.slice A0 l0.length c0,.slice A1 l1.length c1] w fun e w'=>e=.returned (.bool r)∧Drawn0 w w':=by
 have HR0:=Aside0.mk hr0
 have HC0:=Aside0.mk hc0;clear hr0 hc0
 have HR1:=Aside0.mk hr1
 have HC1:=Aside0.mk hc1;clear hr1 hc1
 have H:(if (l0.length:Int)=(l1.length:Int) then (dioramaref00_EqInts.l0 k l0 l1 0) else (some false))=some r:=h;clear h
 by_cases c3:(l0.length:Int)=(l1.length:Int)
 · rw [if_pos c3] at H
   have c3b0:((l0.length:Int) == (l1.length:Int))=true:=beq_iff_eq.mpr c3
   have c3b1:((l0.length:Int) != (l1.length:Int))=false:=bne_eq_false_iff_eq.mpr c3
   have c3b2:(l0.length == l1.length)=true:=by first|simpa using c3|(simp at c3 ⊢;omega)
   clear c3
   have H':=Aside0.mk H;clear H
   go_enter Try.func15,Try.ntmps15
   go_wp2
   repeat (go_quiet (fail);try go_wp2)
   go_loopg [5] k (fun kq v5 w'=>∃ (x5_1:Int),v5=.int .i64 x5_1∧Aside0 (dioramaref00_EqInts.l0 kq l0 l1 x5_1=some r)∧Aside0 (kq≤k)∧Drawn0 w w')
   case atStart=>exact ⟨(0),okV,H',⟨Nat.le_refl _⟩,by repeat (first|exact Drawn0.refl _|apply Drawn0.step)⟩
   case round =>
    clear H'
    try clear c1;try clear p2;try clear c3;try clear c3b0;try clear c3b1;try clear c3b2
    obtain ⟨x5_1,rfl,HA,HK1,⟨m1,rfl⟩⟩:=hrel
    cases gk with
    | zero=>exact absurd HA.out (by simp [dioramaref00_EqInts.l0])
    | succ k1 =>
     have H:=HA.out;clear HA
     simp only [dioramaref00_EqInts.l0] at H
     by_cases c4:x5_1 < (l0.length:Int)
     · rw [if_pos c4] at H
       have c4b0:decide (x5_1 < (l0.length:Int))=true:=decide_eq_true c4;clear c4
       by_cases c5:0≤x5_1
       · rw [if_pos c5] at H
         have c5b0:decide (0≤x5_1)=true:=decide_eq_true c5;clear c5
         by_cases c6:x5_1 < (l1.length:Int)
         · rw [if_pos c6] at H
           have c6b0:decide (x5_1 < (l1.length:Int))=true:=decide_eq_true c6;clear c6
           by_cases c7:(rd l0 x5_1)=(rd l1 x5_1)
           · rw [if_pos c7] at H
             have c7b0:((rd l0 x5_1) == (rd l1 x5_1))=true:=beq_iff_eq.mpr c7
             have c7b1:((rd l0 x5_1) != (rd l1 x5_1))=false:=bne_eq_false_iff_eq.mpr c7;clear c7
             have H':=Aside0.mk H;clear H
             have p167:0≤(x5_1:Int):=of_decide_eq_true asV
             have q167:x5_1 < (l0.length:Int):=of_decide_eq_true asV
             obtain ⟨ad167,e167,hx167_0⟩:=Kd.at_int HR0.out x5_1 p167 q167
             cases e167
             replace p167:=eq_true p167
             replace q167:=eq_true q167
             have p168:0≤(x5_1:Int):=of_decide_eq_true asV
             have q168:x5_1 < (l1.length:Int):=of_decide_eq_true asV
             obtain ⟨ad168,e168,hx168_0⟩:=Kd.at_int HR1.out x5_1 p168 q168
             cases e168
             replace p168:=eq_true p168
             replace q168:=eq_true q168
             go_wp2
             repeat (go_quiet (fail);try go_wp2)
             go_roundg k1
             case measure=>have:=HK1.out;omega
             case rel=>exact ⟨(wrap64 (x5_1+1)),okV,H',⟨by have:=HK1.out;omega⟩,by repeat (first|exact Drawn0.refl _|apply Drawn0.step)⟩
           rw [if_neg c7] at H
           have c7b0:((rd l0 x5_1) == (rd l1 x5_1))=false:=beq_eq_false_iff_ne.mpr c7
           have c7b1:((rd l0 x5_1) != (rd l1 x5_1))=true:=bne_iff_ne.mpr c7
           obtain rfl:=Option.some.inj H
           have p167:0≤(x5_1:Int):=of_decide_eq_true asV
           have q167:x5_1 < (l0.length:Int):=of_decide_eq_true asV
           obtain ⟨ad167,e167,hx167_0⟩:=Kd.at_int HR0.out x5_1 p167 q167
           cases e167
           replace p167:=eq_true p167
           replace q167:=eq_true q167
           have p168:0≤(x5_1:Int):=of_decide_eq_true asV
           have q168:x5_1 < (l1.length:Int):=of_decide_eq_true asV
           obtain ⟨ad168,e168,hx168_0⟩:=Kd.at_int HR1.out x5_1 p168 q168
           cases e168
           replace p168:=eq_true p168
           replace q168:=eq_true q168
           go_wp2
           repeat (go_quiet (fail);try go_wp2)
           go_ret
           exact ⟨by first|rfl|(simp;done)|(simp [*];done),by repeat (first|exact Drawn0.refl _|apply Drawn0.step)⟩
         rw [if_neg c6] at H
         exact absurd H (by simp)
       rw [if_neg c5] at H
       exact absurd H (by simp)
     rw [if_neg c4] at H
     have c4b0:decide (x5_1 < (l0.length:Int))=false:=decide_eq_false c4;clear c4
     obtain rfl:=Option.some.inj H
     go_wp2
     repeat (go_quiet (fail);try go_wp2)
     go_ret
     exact ⟨by first|rfl|(simp;done)|(simp [*];done),by repeat (first|exact Drawn0.refl _|apply Drawn0.step)⟩
 rw [if_neg c3] at H
 have c3b0:((l0.length:Int) == (l1.length:Int))=false:=beq_eq_false_iff_ne.mpr c3
 have c3b1:((l0.length:Int) != (l1.length:Int))=true:=bne_iff_ne.mpr c3
 have c3b2:(l0.length == l1.length)=false:=by first|simpa using c3|(simp at c3 ⊢;omega)
 obtain rfl:=Option.some.inj H
 go_enter Try.func15,Try.ntmps15
 go_wp2
 repeat (go_quiet (fail);try go_wp2)
 go_ret
 exact ⟨by first|rfl|(simp;done)|(simp [*];done),by repeat (first|exact Drawn0.refl _|apply Drawn0.step)⟩

/-! ### dioramalaw19_awake: function 17 -/
def dioramalaw19_awake.j0 : Nat → List Int → Bool → Option (Bool)
 | 0,_,_=>none
 | k+1,x1,x17=>if x17=true then (some false) else ((bitmap_Pixels.f k x1 5 1).bind fun bt180=>(if bt180.2=0 then ((dioramaref00_EqInts.f k bt180.1 (([3,3,3,5,5]:List Int))).bind fun t187=>(some t187)) else (some false)))
def dioramalaw19_awake.f (k : Nat)  : Option (Bool) := (bitmap_Runs.f k (([3, 3, 3, 5, 5] : List Int)) 5).bind fun bt172 => (if bt172.2 = 0 then ((dioramaref00_EqBytes.f k bt172.1 (([51, 80] : List Int))).bind fun t179 => (dioramalaw19_awake.j0 k bt172.1 (!t179))) else (dioramalaw19_awake.j0 k bt172.1 true))
theorem dioramalaw19_awake.mono_l:∀ k,(∀ y0 y1,LeO (dioramalaw19_awake.j0 k y0 y1) (dioramalaw19_awake.j0 (k+1) y0 y1))
 | 0=>fun _ _ r h=>by simp [dioramalaw19_awake.j0] at h
 | k+1=>by
  have ih0:=dioramalaw19_awake.mono_l k
  · intro y0 y1
    unfold dioramalaw19_awake.j0
    repeat' first
    | (with_reducible exact ih0 _ _)
    | (with_reducible exact bitmap_Pixels.mono _ _ _ _)
    | (with_reducible exact bitmap_Runs.mono _ _ _)
    | (with_reducible exact dioramaref00_EqBytes.mono _ _ _)
    | (with_reducible exact dioramaref00_EqInts.mono _ _ _)
    | (with_reducible exact LeO.refl _)
    | (with_reducible exact LeO.none _)
    | (with_reducible refine LeO.ite ?_ ?_)
    | (with_reducible refine LeO.bind ?_ (fun _=>?_))
    | exact LeO.none _
    | refine LeO.ite ?_ ?_
    | refine LeO.bind ?_ (fun _=>?_)
theorem dioramalaw19_awake.mono:∀ k,LeO (dioramalaw19_awake.f k ) (dioramalaw19_awake.f (k+1) ):=by
 intro  k
 have ih0:=dioramalaw19_awake.mono_l k
 unfold dioramalaw19_awake.f
 repeat' first
  | (with_reducible exact ih0 _ _)
  | (with_reducible exact bitmap_Pixels.mono _ _ _ _)
  | (with_reducible exact bitmap_Runs.mono _ _ _)
  | (with_reducible exact dioramaref00_EqBytes.mono _ _ _)
  | (with_reducible exact dioramaref00_EqInts.mono _ _ _)
  | (with_reducible exact LeO.refl _)
  | (with_reducible exact LeO.none _)
  | (with_reducible refine LeO.ite ?_ ?_)
  | (with_reducible refine LeO.bind ?_ (fun _=>?_))
  | exact LeO.none _
  | refine LeO.ite ?_ ?_
  | refine LeO.bind ?_ (fun _=>?_)
set_option maxHeartbeats 8000000 in
set_option maxRecDepth 100000 in
theorem dioramalaw19_awake.calls (k:Nat)  (r:Bool) (w:World) (h:dioramalaw19_awake.f k =some r) :
 Calls Try.prog 17 #[] w fun e w'=>e=.returned (.bool r)∧Below w.heap.size w w':=by
 have HB:=Aside0.mk (Below.refl w.heap.size w)
 have H:((bitmap_Runs.f k (([3,3,3,5,5]:List Int)) 5).bind fun bt172=>(if bt172.2=0 then ((dioramaref00_EqBytes.f k bt172.1 (([51,80]:List Int))).bind fun t179=>(dioramalaw19_awake.j0 k bt172.1 (!t179))) else (dioramalaw19_awake.j0 k bt172.1 true)))=some r:=h
 clear h
 obtain ⟨y169,hy169⟩:∃ y_:List Int,y_=(([3,3,3,5,5]:List Int)):=⟨_,rfl⟩
 replace H:((bitmap_Runs.f k y169 5).bind fun bt172=>(if bt172.2=0 then ((dioramaref00_EqBytes.f k bt172.1 (([51,80]:List Int))).bind fun t179=>(dioramalaw19_awake.j0 k bt172.1 (!t179))) else (dioramalaw19_awake.j0 k bt172.1 true)))=some r:=by first|(rw [hy169];with_reducible exact H)|(have H2_:=(Option.bind_some _ _).symm.trans H;rw [hy169];with_reducible exact H2_)|(have H2_:=(Option.bind_some _ _).symm.trans H;with_reducible exact H2_)|with_reducible exact H|(rw [hy169];exact H)|exact H
 have Ny169:=Aside0.mk hy169;clear hy169
 replace H:=Option.bind_eq_some_iff.mp H
 obtain ⟨⟨t172,t175⟩,A10,H⟩:=H
 replace H:(if t175=0 then ((dioramaref00_EqBytes.f k t172 (([51,80]:List Int))).bind fun t179=>(dioramalaw19_awake.j0 k t172 (!t179))) else (dioramalaw19_awake.j0 k t172 true))=some r:=H
 have A1:=Aside0.mk A10;clear A10
 have HC2:=Aside0.mk H;clear H
 go_enter Try.func17,Try.ntmps17
 go_upto_region 2 with (first|((with_reducible refine gate_dst (N:=6) rfl ?_);(try (refine gate_guard (by rfl) ?_;dsimp only));refine Kd.R_lit (Kd.int .i64) _ 3 ?hg (N:=6) ?hd (xs:=([3,3,3,5,5]:List Int)) (inner:=[.int .i64 3,.int .i64 3,.int .i64 3,.int .i64 5,.int .i64 5]) (ok:=fun _=>True) (okp:=fun _=>True) ?hr ?hp (fun _ hk=>hk) trivial (Below.refl _ _) (Nat.le_refl _) (by simp) ?_;(case hd=>rfl);(case hg=>rfl);(case hr=>first|(go_simp;done)|(go_simp;rfl));(case hp=>exact (Reps.one (show Kd.M (Kd.int .i64) _ _ _ 3 [.int .i64 3] from rfl) (Reps.one (show Kd.M (Kd.int .i64) _ _ _ 3 [.int .i64 3] from rfl) (Reps.one (show Kd.M (Kd.int .i64) _ _ _ 3 [.int .i64 3] from rfl) (Reps.one (show Kd.M (Kd.int .i64) _ _ _ 5 [.int .i64 5] from rfl) (Reps.one (show Kd.M (Kd.int .i64) _ _ _ 5 [.int .i64 5] from rfl) (Reps.none _ _)))))));intro v170 w3 ho4 hb hg_ hnew_;clear hg_ hnew_;(first|rw [← Ny169.out] at ho4|(simp only [Int.reduceToNat] at ho4;rw [← Ny169.out] at ho4));have n0_:=Aside0.mk (Kd.R_lower ho4 (below_size (belV HB.out)));have n1_:=Aside0.mk (below_step (belV HB.out) hb);clear HB;have HO171:=n0_;have HB:=n1_;clear n0_ n1_;clear hb ho4;obtain ⟨Ao5,co5,eo5⟩:=Kd.R_slice HO171.out;subst eo5)|((with_reducible refine gate_callee (f:=11) rfl ?_);refine goesL_ (some 7) rfl rfl Try.func11 (by kernel_rfl) rfl #[.slice Ao5 y169.length co5,.int .i64 5] rfl (by (try simp only [List.map_toArray,List.map_cons,List.map_nil]);first|done|rfl|(simp only [List.length_drop,List.length_take];rfl)) ?_;(with_reducible refine (bitmap_Runs.calls k (fun k_=>some k_=(.slice Ao5 y169.length co5:Value).ownBlock) _ _ y169 5 t172 t175 _ ?side1 A1.out).mono ?_);(case side1=>exact Kd.R_V (Kd.R_tight rfl (HO171.out)));rintro e w6 ⟨v173,rfl,ho0,hb⟩;refine ⟨_,rfl,?_⟩;have n0_:=Aside0.mk (Kd.R_below (rowV HO171.out) hb);have n1_:=Aside0.mk (Kd.R_lower (Kd.R_mono (ok':=fun k_=>True) ho0 (fun _ hk_=>trivial)) (below_size (belV HB.out)));have n2_:=Aside0.mk (below_step (belV HB.out) hb);clear HO171;clear HB;have HO171:=n0_;have HO174:=n1_;have HB:=n2_;clear n0_ n1_ n2_;(try clear hb);(try clear hb2);(try clear hk);(try clear hi);(try clear ho0)))
 (try simp only [Act.put,List.setIfInBounds_toArray,List.set_cons_zero,List.set_cons_succ])
 go_cut [17] (fun v17 wc=>∃ (kq:Nat) (x17_1:Bool),v17=.bool x17_1∧Aside0 (dioramalaw19_awake.j0 kq t172 x17_1=some r)∧Aside0 (kq≤k)∧Aside0 (Kd.R (Kd.int .u8) 5 wc w.heap.size (fun _=>True) v173 t172)∧Aside0 (Below w.heap.size w wc))
 case first =>
  have H:=HC2.out;clear HC2
  by_cases c7:t175=0
  · rw [if_pos c7] at H
    have c7b0:(t175 == 0)=true:=beq_iff_eq.mpr c7
    have c7b1:(t175 != 0)=false:=bne_eq_false_iff_eq.mpr c7;clear c7
    (first|rw [c7b0]|(simp only [i64_w,i32_w];rw [c7b0])|rw [c7b1]|skip)
    obtain ⟨y176,hy176⟩:∃ y_:List Int,y_=(([51,80]:List Int)):=⟨_,rfl⟩
    replace H:((dioramaref00_EqBytes.f k t172 y176).bind fun t179=>(dioramalaw19_awake.j0 k t172 (!t179)))=some r:=by first|(rw [hy176];with_reducible exact H)|(have H2_:=(Option.bind_some _ _).symm.trans H;rw [hy176];with_reducible exact H2_)|(have H2_:=(Option.bind_some _ _).symm.trans H;with_reducible exact H2_)|with_reducible exact H|(rw [hy176];exact H)|exact H
    have Ny176:=Aside0.mk hy176;clear hy176
    replace H:=Option.bind_eq_some_iff.mp H
    obtain ⟨t179,A80,H⟩:=H
    replace H:(dioramalaw19_awake.j0 k t172 (!t179))=some r:=H
    have A8:=Aside0.mk A80;clear A80
    have H':=Aside0.mk H;clear H
    go_wp2_with (first|((with_reducible refine gate_dst (N:=14) rfl ?_);(try (refine gate_guard (by rfl) ?_;dsimp only));refine Kd.R_lit (Kd.int .u8) _ 5 ?hg (N:=14) ?hd (xs:=([51,80]:List Int)) (inner:=[.int .u8 51,.int .u8 80]) (ok:=fun _=>True) (okp:=fun _=>True) ?hr ?hp (fun _ hk=>hk) trivial (Below.refl _ _) (Nat.le_refl _) (by simp) ?_;(case hd=>rfl);(case hg=>rfl);(case hr=>first|(go_simp;done)|(go_simp;rfl));(case hp=>exact (Reps.one (show Kd.M (Kd.int .u8) _ _ _ 51 [.int .u8 51] from rfl) (Reps.one (show Kd.M (Kd.int .u8) _ _ _ 80 [.int .u8 80] from rfl) (Reps.none _ _))));intro v177 w9 ho10 hb hg_ hnew_;clear hg_ hnew_;(first|rw [← Ny176.out] at ho10|(simp only [Int.reduceToNat] at ho10;rw [← Ny176.out] at ho10));have n0_:=Aside0.mk (Kd.R_below (rowV HO171.out) hb);have n1_:=Aside0.mk (Kd.R_elder' (rowV HO174.out) (Kd.R_base ho10) hb);have n2_:=Aside0.mk (Kd.R_lower (Kd.R_new' ho10 (Kd.R_lt (rowV HO174.out))) (below_size (belV HB.out)));have n3_:=Aside0.mk (below_step (belV HB.out) hb);clear HO171;clear HO174;clear HB;have HO171:=n0_;have HO174:=n1_;have HO178:=n2_;have HB:=n3_;clear n0_ n1_ n2_ n3_;clear hb ho10;obtain ⟨Ao11,co11,eo11⟩:=Kd.R_slice HO174.out;subst eo11;obtain ⟨Ao12,co12,eo12⟩:=Kd.R_slice HO178.out;subst eo12)|(go_at_call 13;(with_reducible refine (dioramaref00_EqBytes.calls k _ _ t172 _ _ y176 t179 _ ?side1 ?side2 ?side3 ?side4 A8.out).mono ?_);(case side1=>exact cV (Kd.R_reads' HO174.out).2.2);(case side2=>exact (Kd.R_reads' HO174.out).2.1);(case side3=>exact cV (Kd.R_reads' HO178.out).2.2);(case side4=>exact (Kd.R_reads' HO178.out).2.1);rintro e w' ⟨rfl,⟨nd,rfl⟩⟩))
    go_meet
    case rel=>exact ⟨_,(!t179),okV,H',⟨by first|omega|exact Nat.le_refl _⟩,⟨by (with_reducible repeat (first|apply Kd.R_alloc|apply Kd.R_drewN|apply Kd.R_drew));exact Kd.R_mono HO174.out (fun _ hk=>trivial)⟩,⟨belV HB.out⟩⟩
  rw [if_neg c7] at H
  have c7b0:(t175 == 0)=false:=beq_eq_false_iff_ne.mpr c7
  have c7b1:(t175 != 0)=true:=bne_iff_ne.mpr c7
  (first|rw [c7b0]|(simp only [i64_w,i32_w];rw [c7b0])|rw [c7b1]|skip)
  have H':=Aside0.mk H;clear H
  go_wp2
  go_meet
  case rel=>exact ⟨_,(true),okV,H',⟨by first|omega|exact Nat.le_refl _⟩,⟨rowV HO174.out⟩,⟨belV HB.out⟩⟩
 case rest =>
  clear HC2
  try clear c1;try clear p2;try clear c7;try clear c7b0;try clear c7b1;try clear c11
  obtain ⟨kq,x17_1,rfl,HA,HJ1,HO_1,HB⟩:=hcut
  cases kq with
  | zero=>exact absurd HA.out (by simp [dioramalaw19_awake.j0])
  | succ kj1 =>
   have H:=HA.out;clear HA
   simp only [dioramalaw19_awake.j0] at H
   by_cases c13:x17_1=true
   · subst c13
     have H1:(some false)=some r:=by rw [if_pos rfl] at H;exact H
     clear H
     have H:=H1;clear H1
     obtain rfl:=Option.some.inj H
     go_wp2
     go_ret
     exact ⟨by first|rfl|(simp [errW_none,errW_some] <;> rfl)|(simp [*,errW_none,errW_some] <;> rfl),by repeat (first|(with_reducible first|exact HB.out|apply below_alloc|apply pw_below_drewN|apply below_drew1)|exact HB.out)⟩
   replace c13:=Bool.eq_false_iff.mpr c13;subst c13
   have H1:((bitmap_Pixels.f kj1 t172 5 1).bind fun bt180=>(if bt180.2=0 then ((dioramaref00_EqInts.f kj1 bt180.1 (([3,3,3,5,5]:List Int))).bind fun t187=>(some t187)) else (some false)))=some r:=by rw [if_neg (show ¬ (false=true) by decide)] at H;exact H
   clear H
   have H:=H1;clear H1
   replace H:=Option.bind_eq_some_iff.mp H
   obtain ⟨⟨t180,t183⟩,A140,H⟩:=H
   replace H:(if t183=0 then ((dioramaref00_EqInts.f kj1 t180 (([3,3,3,5,5]:List Int))).bind fun t187=>(some t187)) else (some false))=some r:=H
   have A14:=Aside0.mk A140;clear A140
   by_cases c15:t183=0
   · rw [if_pos c15] at H
     have c15b0:(t183 == 0)=true:=beq_iff_eq.mpr c15
     have c15b1:(t183 != 0)=false:=bne_eq_false_iff_eq.mpr c15;clear c15
     obtain ⟨y184,hy184⟩:∃ y_:List Int,y_=(([3,3,3,5,5]:List Int)):=⟨_,rfl⟩
     replace H:((dioramaref00_EqInts.f kj1 t180 y184).bind fun t187=>(some t187))=some r:=by first|(rw [hy184];with_reducible exact H)|(have H2_:=(Option.bind_some _ _).symm.trans H;rw [hy184];with_reducible exact H2_)|(have H2_:=(Option.bind_some _ _).symm.trans H;with_reducible exact H2_)|with_reducible exact H|(rw [hy184];exact H)|exact H
     have Ny184:=Aside0.mk hy184;clear hy184
     replace H:=Option.bind_eq_some_iff.mp H
     obtain ⟨t187,A160,H⟩:=H
     replace H:(some t187)=some r:=H
     have A16:=Aside0.mk A160;clear A160
     obtain rfl:=Option.some.inj H
     obtain ⟨Ao17,co17,eo17⟩:=Kd.R_slice HO_1.out;subst eo17
     go_wp2_with (first|((with_reducible refine gate_callee (f:=14) rfl ?_);refine goesL_ (some 20) rfl rfl Try.func14 (by kernel_rfl) rfl #[.slice Ao17 t172.length co17,.int .i64 5,.int .i64 1] rfl (by (try simp only [List.map_toArray,List.map_cons,List.map_nil]);first|done|rfl|(simp only [List.length_drop,List.length_take];rfl)) ?_;(with_reducible refine (bitmap_Pixels.calls kj1 (fun k_=>some k_=(.slice Ao17 t172.length co17:Value).ownBlock) _ _ t172 5 1 t180 t183 _ ?side1 A14.out).mono ?_);(case side1=>exact Kd.R_V (Kd.R_tight rfl (HO_1.out)));rintro e w18 ⟨v181,rfl,ho0,hb⟩;refine ⟨_,rfl,?_⟩;have n0_:=Aside0.mk (Kd.R_below (rowV HO_1.out) hb);have n1_:=Aside0.mk (Kd.R_lower (Kd.R_mono (ok':=fun k_=>True) ho0 (fun _ hk_=>trivial)) (below_size (belV HB.out)));have n2_:=Aside0.mk (below_step (belV HB.out) hb);clear HO_1;clear HB;have HO_1:=n0_;have HO182:=n1_;have HB:=n2_;clear n0_ n1_ n2_;(try clear hb);(try clear hb2);(try clear hk);(try clear hi);(try clear ho0))|((with_reducible refine gate_dst (N:=27) rfl ?_);(try (refine gate_guard (by rfl) ?_;dsimp only));refine Kd.R_lit (Kd.int .i64) _ 3 ?hg (N:=27) ?hd (xs:=([3,3,3,5,5]:List Int)) (inner:=[.int .i64 3,.int .i64 3,.int .i64 3,.int .i64 5,.int .i64 5]) (ok:=fun _=>True) (okp:=fun _=>True) ?hr ?hp (fun _ hk=>hk) trivial (Below.refl _ _) (Nat.le_refl _) (by simp) ?_;(case hd=>rfl);(case hg=>rfl);(case hr=>first|(go_simp;done)|(go_simp;rfl));(case hp=>exact (Reps.one (show Kd.M (Kd.int .i64) _ _ _ 3 [.int .i64 3] from rfl) (Reps.one (show Kd.M (Kd.int .i64) _ _ _ 3 [.int .i64 3] from rfl) (Reps.one (show Kd.M (Kd.int .i64) _ _ _ 3 [.int .i64 3] from rfl) (Reps.one (show Kd.M (Kd.int .i64) _ _ _ 5 [.int .i64 5] from rfl) (Reps.one (show Kd.M (Kd.int .i64) _ _ _ 5 [.int .i64 5] from rfl) (Reps.none _ _)))))));intro v185 w19 ho20 hb hg_ hnew_;clear hg_ hnew_;(first|rw [← Ny184.out] at ho20|(simp only [Int.reduceToNat] at ho20;rw [← Ny184.out] at ho20));have n0_:=Aside0.mk (Kd.R_below (rowV HO_1.out) hb);have n1_:=Aside0.mk (Kd.R_elder' (rowV HO182.out) (Kd.R_base ho20) hb);have n2_:=Aside0.mk (Kd.R_lower (Kd.R_new' ho20 (Kd.R_lt (rowV HO182.out))) (below_size (belV HB.out)));have n3_:=Aside0.mk (below_step (belV HB.out) hb);clear HO_1;clear HO182;clear HB;have HO_1:=n0_;have HO182:=n1_;have HO186:=n2_;have HB:=n3_;clear n0_ n1_ n2_ n3_;clear hb ho20;obtain ⟨Ao21,co21,eo21⟩:=Kd.R_slice HO182.out;subst eo21;obtain ⟨Ao22,co22,eo22⟩:=Kd.R_slice HO186.out;subst eo22)|(go_at_call 15;(with_reducible refine (dioramaref00_EqInts.calls kj1 _ _ t180 _ _ y184 t187 _ ?side1 ?side2 ?side3 ?side4 A16.out).mono ?_);(case side1=>exact cV (Kd.R_reads' HO182.out).2.2);(case side2=>exact (Kd.R_reads' HO182.out).2.1);(case side3=>exact cV (Kd.R_reads' HO186.out).2.2);(case side4=>exact (Kd.R_reads' HO186.out).2.1);rintro e w' ⟨rfl,⟨nd,rfl⟩⟩))
     go_ret
     exact ⟨by first|rfl|(simp [errW_none,errW_some] <;> rfl)|(simp [*,errW_none,errW_some] <;> rfl),by repeat (first|(with_reducible first|exact HB.out|apply below_alloc|apply pw_below_drewN|apply below_drew1)|exact HB.out)⟩
   rw [if_neg c15] at H
   have c15b0:(t183 == 0)=false:=beq_eq_false_iff_ne.mpr c15
   have c15b1:(t183 != 0)=true:=bne_iff_ne.mpr c15
   obtain rfl:=Option.some.inj H
   obtain ⟨Ao23,co23,eo23⟩:=Kd.R_slice HO_1.out;subst eo23
   go_wp2_with (first|((with_reducible refine gate_callee (f:=14) rfl ?_);refine goesL_ (some 20) rfl rfl Try.func14 (by kernel_rfl) rfl #[.slice Ao23 t172.length co23,.int .i64 5,.int .i64 1] rfl (by (try simp only [List.map_toArray,List.map_cons,List.map_nil]);first|done|rfl|(simp only [List.length_drop,List.length_take];rfl)) ?_;(with_reducible refine (bitmap_Pixels.calls kj1 (fun k_=>some k_=(.slice Ao23 t172.length co23:Value).ownBlock) _ _ t172 5 1 t180 t183 _ ?side1 A14.out).mono ?_);(case side1=>exact Kd.R_V (Kd.R_tight rfl (HO_1.out)));rintro e w24 ⟨v181,rfl,ho0,hb⟩;refine ⟨_,rfl,?_⟩;have n0_:=Aside0.mk (Kd.R_below (rowV HO_1.out) hb);have n1_:=Aside0.mk (Kd.R_lower (Kd.R_mono (ok':=fun k_=>True) ho0 (fun _ hk_=>trivial)) (below_size (belV HB.out)));have n2_:=Aside0.mk (below_step (belV HB.out) hb);clear HO_1;clear HB;have HO_1:=n0_;have HO182:=n1_;have HB:=n2_;clear n0_ n1_ n2_;(try clear hb);(try clear hb2);(try clear hk);(try clear hi);(try clear ho0)))
   go_ret
   exact ⟨by first|rfl|(simp [errW_none,errW_some] <;> rfl)|(simp [*,errW_none,errW_some] <;> rfl),by repeat (first|(with_reducible first|exact HB.out|apply below_alloc|apply pw_below_drewN|apply below_drew1)|exact HB.out)⟩

/-! ### dioramalaw19_small: function 25 -/
def dioramalaw19_small.l0 : Nat → Int → Bool → List Int → List (S91) → Option (Bool)
 | 0,_,_,_,_=>none
 | k+1,x3,x189000,x189001,x189002=>if x3 < (x189002.length:Int) then (if 0≤x3 then (if (((rd_T91 x189002 x3).f4).length:Int) > 5000 then (some false) else (dioramalaw19_small.l0 k (wrap64 (x3+1)) x189000 x189001 x189002)) else (none)) else (if (x189002.length:Int)≤20 then (some (decide ((x189001.length:Int)≤100))) else (some false))
def dioramalaw19_small.f (k : Nat) (a0_0 : Bool) (l0_1 : List Int) (l0_2 : List (S91)) : Option (Bool) := dioramalaw19_small.l0 k 0 a0_0 l0_1 l0_2
theorem dioramalaw19_small.mono_l:∀ k,(∀ y0 y1 y2 y3,LeO (dioramalaw19_small.l0 k y0 y1 y2 y3) (dioramalaw19_small.l0 (k+1) y0 y1 y2 y3))
 | 0=>fun _ _ _ _ r h=>by simp [dioramalaw19_small.l0] at h
 | k+1=>by
  have ih0:=dioramalaw19_small.mono_l k
  · intro y0 y1 y2 y3
    unfold dioramalaw19_small.l0
    repeat' first
    | (with_reducible exact ih0 _ _ _ _)
    | (with_reducible exact LeO.refl _)
    | (with_reducible exact LeO.none _)
    | (with_reducible refine LeO.ite ?_ ?_)
    | (with_reducible refine LeO.bind ?_ (fun _=>?_))
    | exact LeO.none _
    | refine LeO.ite ?_ ?_
    | refine LeO.bind ?_ (fun _=>?_)
theorem dioramalaw19_small.mono:∀ a0 a1 a2 k,LeO (dioramalaw19_small.f k a0 a1 a2) (dioramalaw19_small.f (k+1) a0 a1 a2):=by
 intro a0 a1 a2 k
 have ih0:=dioramalaw19_small.mono_l k
 unfold dioramalaw19_small.f
 repeat' first
  | (with_reducible exact ih0 _ _ _ _)
  | (with_reducible exact LeO.refl _)
  | (with_reducible exact LeO.none _)
  | (with_reducible refine LeO.ite ?_ ?_)
  | (with_reducible refine LeO.bind ?_ (fun _=>?_))
  | exact LeO.none _
  | refine LeO.ite ?_ ?_
  | refine LeO.bind ?_ (fun _=>?_)
set_option maxHeartbeats 8000000 in
set_option maxRecDepth 100000 in
theorem dioramalaw19_small.calls (k:Nat) (a0_0:Bool) (A0_1:Option Addr) (c0_1:Nat) (l0_1:List Int) (A0_2:Option Addr) (c0_2:Nat) (l0_2:List (S91)) (r:Bool) (w:World) (hr0_1:Kd.C (Kd.int .i64) w A0_1 l0_1.length l0_1) (hc0_1:l0_1.length≤c0_1) (hr0_2:Kd.C k91 w A0_2 l0_2.length l0_2) (hc0_2:l0_2.length≤c0_2) (h:dioramalaw19_small.f k a0_0 l0_1 l0_2=some r) :
 Calls Try.prog 25 #[.agg #[.bool a0_0,.slice A0_1 l0_1.length c0_1,.slice A0_2 l0_2.length c0_2]] w fun e w'=>e=.returned (.bool r)∧Below w.heap.size w w':=by
 have hu51:=Try.underlying51
 have HR0_1:=Aside0.mk hr0_1
 have HC0_1:=Aside0.mk hc0_1;clear hr0_1 hc0_1
 have HR0_2:=Aside0.mk hr0_2
 have HC0_2:=Aside0.mk hc0_2;clear hr0_2 hc0_2;have HB:=Aside0.mk (Below.refl w.heap.size w)
 have H:(dioramalaw19_small.l0 k 0 a0_0 l0_1 l0_2)=some r:=h;clear h
 have H':=Aside0.mk H;clear H
 go_enter Try.func25,Try.ntmps25
 go_wp2_with (first|((with_reducible refine gate_dst (N:=1) rfl ?_);(try (refine gate_guard (by rfl) ?_;dsimp only));refine box_event ?hg (N:=1) ?hd (cs:=#[.bool a0_0,.slice A0_1 l0_1.length c0_1,.slice A0_2 l0_2.length c0_2]) (t:=51) ?hr ?_;(case hd=>rfl);(case hg=>rfl);(case hr=>first|(go_simp;done)|(go_simp;rfl));intro gb188 hg w2 hbox hb;have n0_:=Aside0.mk (below_step (belV HB.out) hb);have n1_:=Aside0.mk (hbox);have n2_:=Aside0.mk ((by rw [hg];exact (below_size (belV HB.out)):w.heap.size≤gb188));have n3_:=Aside0.mk ((by rw [hg];exact (below_size (belV HB.out)):w.heap.size≤gb188));clear HB;have HB:=n0_;have BK188:=n1_;have GW188:=n2_;have GE188:=n3_;clear n0_ n1_ n2_ n3_;clear hb hbox hg))
 go_loopg [3] k (fun kq v3 w'=>∃ (x3_1:Int),v3=.int .i64 x3_1∧Aside0 (dioramalaw19_small.l0 kq x3_1 a0_0 l0_1 l0_2=some r)∧Aside0 (kq≤k)∧Aside0 (w'.heap[gb188]?=some (.cells #[.bool a0_0,(.slice A0_1 l0_1.length c0_1),(.slice A0_2 l0_2.length c0_2)] 51 (0,0)))∧Aside0 (Below w.heap.size w w'))
 case atStart=>exact ⟨(0),okV,H',⟨Nat.le_refl _⟩,⟨blkV BK188.out⟩,⟨belV1 HB.out GE188.out⟩⟩
 case round =>
  clear H'
  try clear c2;try clear p2
  obtain ⟨x3_1,rfl,HA,HK1,BK188,HB⟩:=hrel
  cases gk with
  | zero=>exact absurd HA.out (by simp [dioramalaw19_small.l0])
  | succ k1 =>
   have H:=HA.out;clear HA
   simp only [dioramalaw19_small.l0] at H
   by_cases c3:x3_1 < (l0_2.length:Int)
   · rw [if_pos c3] at H
     have c3b0:decide (x3_1 < (l0_2.length:Int))=true:=decide_eq_true c3;clear c3
     by_cases c4:0≤x3_1
     · rw [if_pos c4] at H
       have c4b0:decide (0≤x3_1)=true:=decide_eq_true c4;clear c4
       by_cases c5:(((rd_T91 l0_2 x3_1).f4).length:Int) > 5000
       · rw [if_pos c5] at H
         have c5b0:decide (5000 < (((rd_T91 l0_2 x3_1).f4).length:Int))=true:=decide_eq_true c5
         have c5b1:decide (5000 < ((rd_T91 l0_2 x3_1).f4).length)=true:=decide_eq_true (by omega);clear c5
         obtain rfl:=Option.some.inj H
         obtain ⟨hcz6_0,hcz6_1,hcz6_2,hfz6_0,hfz6_1,hfz6_2⟩:=bcells3 BK188.out
         have p189:0≤(x3_1:Int):=of_decide_eq_true asV
         have q189:x3_1 < (l0_2.length:Int):=of_decide_eq_true asV
         obtain ⟨ad189,A189_4,c189_4,e189,hx189_0,hx189_1,hx189_2,hx189_3,hx189_4,hl189_4,hi189_4⟩:=at_T91 HR0_2.out x3_1 p189 q189
         cases e189
         replace hx189_0:=(HB.out.cell (World.block_lt_of_cell? w _ hx189_0)).trans hx189_0
         replace hx189_1:=(HB.out.cell (World.block_lt_of_cell? w _ hx189_1)).trans hx189_1
         replace hx189_2:=(HB.out.cell (World.block_lt_of_cell? w _ hx189_2)).trans hx189_2
         replace hx189_3:=(HB.out.cell (World.block_lt_of_cell? w _ hx189_3)).trans hx189_3
         replace hx189_4:=(HB.out.cell (World.block_lt_of_cell? w _ hx189_4)).trans hx189_4
         have HR189_4:=Aside0.mk hi189_4
         have HC189_4:=Aside0.mk hl189_4;clear hi189_4 hl189_4
         replace p189:=eq_true p189
         replace q189:=eq_true q189
         go_wp2
         go_ret
         exact ⟨by first|rfl|(simp [errW_none,errW_some] <;> rfl)|(simp [*,errW_none,errW_some] <;> rfl),by repeat (first|(with_reducible first|exact HB.out|apply below_alloc|apply pw_below_drewN|apply below_drew1|refine below_set ?_ GE188.out)|exact HB.out)⟩
       rw [if_neg c5] at H
       have c5b0:decide (5000 < (((rd_T91 l0_2 x3_1).f4).length:Int))=false:=decide_eq_false c5
       have c5b1:decide (5000 < ((rd_T91 l0_2 x3_1).f4).length)=false:=decide_eq_false (by omega);clear c5
       have H':=Aside0.mk H;clear H
       obtain ⟨hcz7_0,hcz7_1,hcz7_2,hfz7_0,hfz7_1,hfz7_2⟩:=bcells3 BK188.out
       have p189:0≤(x3_1:Int):=of_decide_eq_true asV
       have q189:x3_1 < (l0_2.length:Int):=of_decide_eq_true asV
       obtain ⟨ad189,A189_4,c189_4,e189,hx189_0,hx189_1,hx189_2,hx189_3,hx189_4,hl189_4,hi189_4⟩:=at_T91 HR0_2.out x3_1 p189 q189
       cases e189
       replace hx189_0:=(HB.out.cell (World.block_lt_of_cell? w _ hx189_0)).trans hx189_0
       replace hx189_1:=(HB.out.cell (World.block_lt_of_cell? w _ hx189_1)).trans hx189_1
       replace hx189_2:=(HB.out.cell (World.block_lt_of_cell? w _ hx189_2)).trans hx189_2
       replace hx189_3:=(HB.out.cell (World.block_lt_of_cell? w _ hx189_3)).trans hx189_3
       replace hx189_4:=(HB.out.cell (World.block_lt_of_cell? w _ hx189_4)).trans hx189_4
       have HR189_4:=Aside0.mk hi189_4
       have HC189_4:=Aside0.mk hl189_4;clear hi189_4 hl189_4
       replace p189:=eq_true p189
       replace q189:=eq_true q189
       go_wp2
       go_roundg k1
       case measure=>have:=HK1.out;omega
       case rel=>exact ⟨(wrap64 (x3_1+1)),okV,H',⟨by have:=HK1.out;omega⟩,⟨blkV BK188.out⟩,⟨belV1 HB.out GE188.out⟩⟩
     rw [if_neg c4] at H
     exact absurd H (by simp)
   rw [if_neg c3] at H
   have c3b0:decide (x3_1 < (l0_2.length:Int))=false:=decide_eq_false c3;clear c3
   by_cases c8:(l0_2.length:Int)≤20
   · rw [if_pos c8] at H
     have c8b0:decide ((l0_2.length:Int)≤20)=true:=decide_eq_true c8
     have c8b1:decide (l0_2.length≤20)=true:=decide_eq_true (by omega);clear c8
     obtain rfl:=Option.some.inj H
     obtain ⟨hcz9_0,hcz9_1,hcz9_2,hfz9_0,hfz9_1,hfz9_2⟩:=bcells3 BK188.out
     go_wp2
     go_ret
     exact ⟨by first|rfl|(simp [errW_none,errW_some] <;> rfl)|(simp [*,errW_none,errW_some] <;> rfl),by repeat (first|(with_reducible first|exact HB.out|apply below_alloc|apply pw_below_drewN|apply below_drew1|refine below_set ?_ GE188.out)|exact HB.out)⟩
   rw [if_neg c8] at H
   have c8b0:decide ((l0_2.length:Int)≤20)=false:=decide_eq_false c8
   have c8b1:decide (l0_2.length≤20)=false:=decide_eq_false (by omega);clear c8
   obtain rfl:=Option.some.inj H
   obtain ⟨hcz10_0,hcz10_1,hcz10_2,hfz10_0,hfz10_1,hfz10_2⟩:=bcells3 BK188.out
   go_wp2
   go_ret
   exact ⟨by first|rfl|(simp [errW_none,errW_some] <;> rfl)|(simp [*,errW_none,errW_some] <;> rfl),by repeat (first|(with_reducible first|exact HB.out|apply below_alloc|apply pw_below_drewN|apply below_drew1|refine below_set ?_ GE188.out)|exact HB.out)⟩

/-! ### bits_Int: function 55 -/
mutual
def bits_Int.j0 : Nat → List Int → Int → Int → Bool → Option (Int × Int)
 | 0,_,_,_,_=>none
 | k+1,x0,x1,x2,x20=>if x20=true then (some (0,1)) else (if x1 > (x0.length:Int) then (bits_Int.j1 k x0 x1 x2 true) else (bits_Int.j1 k x0 x1 x2 (decide ((wrap64 ((x0.length:Int) - x1)) < x2))))
def bits_Int.j1 : Nat → List Int → Int → Int → Bool → Option (Int × Int)
 | 0,_,_,_,_=>none
 | k+1,x0,x1,x2,x32=>if x32=true then (some (0,3)) else (if 0≤x1 then (if x1≤(wrap64 (x1+x2)) then (if (wrap64 (x1+x2))≤(x0.length:Int) then ((some ((x0.take ((wrap64 (x1+x2)):Int).toNat).drop (x1:Int).toNat:List Int)).bind fun y190=>(bits_Int.l0 k 0 y190 (y190.length:Int) 0)) else (none)) else (none)) else (none))
def bits_Int.l0 : Nat → Int → List Int → Int → Int → Option (Int × Int)
 | 0,_,_,_,_=>none
 | k+1,x8,x38,x39,x40=>if x40 < x39 then (if 0≤x40 then (if x40 < (x38.length:Int) then (bits_Int.l0 k (Go.bits .or .u64 (IntKind.u64.wrap (x8*256)) (IntKind.u64.wrap (rd x38 x40))) x38 x39 (wrap64 (x40+1))) else (none)) else (none)) else (if x8 > 9223372036854775807 then (some (0,1)) else (some (wrap64 (x8),0)))
end
def bits_Int.f (k : Nat) (l0 : List Int) (a1 : Int) (a2 : Int) : Option (Int × Int) := if a2 < 1 then (bits_Int.j0 k l0 a1 a2 true) else (if a2 > 8 then (bits_Int.j0 k l0 a1 a2 true) else (bits_Int.j0 k l0 a1 a2 (decide (a1 < 0))))
theorem bits_Int.mono_l:∀ k,(∀ y0 y1 y2 y3,LeO (bits_Int.j0 k y0 y1 y2 y3) (bits_Int.j0 (k+1) y0 y1 y2 y3))∧(∀ y0 y1 y2 y3,LeO (bits_Int.j1 k y0 y1 y2 y3) (bits_Int.j1 (k+1) y0 y1 y2 y3))∧(∀ y0 y1 y2 y3,LeO (bits_Int.l0 k y0 y1 y2 y3) (bits_Int.l0 (k+1) y0 y1 y2 y3))
 | 0=>⟨fun _ _ _ _ r h=>by simp [bits_Int.j0] at h,fun _ _ _ _ r h=>by simp [bits_Int.j1] at h,fun _ _ _ _ r h=>by simp [bits_Int.l0] at h⟩
 | k+1=>by
  obtain ⟨ih0,ih1,ih2⟩:=bits_Int.mono_l k
  refine ⟨?_,?_,?_⟩
  · intro y0 y1 y2 y3
    unfold bits_Int.j0
    repeat' first
    | (with_reducible exact ih0 _ _ _ _)
    | (with_reducible exact ih1 _ _ _ _)
    | (with_reducible exact ih2 _ _ _ _)
    | (with_reducible exact LeO.refl _)
    | (with_reducible exact LeO.none _)
    | (with_reducible refine LeO.ite ?_ ?_)
    | (with_reducible refine LeO.bind ?_ (fun _=>?_))
    | exact LeO.none _
    | refine LeO.ite ?_ ?_
    | refine LeO.bind ?_ (fun _=>?_)
  · intro y0 y1 y2 y3
    unfold bits_Int.j1
    repeat' first
    | (with_reducible exact ih0 _ _ _ _)
    | (with_reducible exact ih1 _ _ _ _)
    | (with_reducible exact ih2 _ _ _ _)
    | (with_reducible exact LeO.refl _)
    | (with_reducible exact LeO.none _)
    | (with_reducible refine LeO.ite ?_ ?_)
    | (with_reducible refine LeO.bind ?_ (fun _=>?_))
    | exact LeO.none _
    | refine LeO.ite ?_ ?_
    | refine LeO.bind ?_ (fun _=>?_)
  intro y0 y1 y2 y3
  unfold bits_Int.l0
  repeat' first
  | (with_reducible exact ih0 _ _ _ _)
  | (with_reducible exact ih1 _ _ _ _)
  | (with_reducible exact ih2 _ _ _ _)
  | (with_reducible exact LeO.refl _)
  | (with_reducible exact LeO.none _)
  | (with_reducible refine LeO.ite ?_ ?_)
  | (with_reducible refine LeO.bind ?_ (fun _=>?_))
  | exact LeO.none _
  | refine LeO.ite ?_ ?_
  | refine LeO.bind ?_ (fun _=>?_)
theorem bits_Int.mono:∀ a0 a1 a2 k,LeO (bits_Int.f k a0 a1 a2) (bits_Int.f (k+1) a0 a1 a2):=by
 intro a0 a1 a2 k
 obtain ⟨ih0,ih1,ih2⟩:=bits_Int.mono_l k
 unfold bits_Int.f
 repeat' first
  | (with_reducible exact ih0 _ _ _ _)
  | (with_reducible exact ih1 _ _ _ _)
  | (with_reducible exact ih2 _ _ _ _)
  | (with_reducible exact LeO.refl _)
  | (with_reducible exact LeO.none _)
  | (with_reducible refine LeO.ite ?_ ?_)
  | (with_reducible refine LeO.bind ?_ (fun _=>?_))
  | exact LeO.none _
  | refine LeO.ite ?_ ?_
  | refine LeO.bind ?_ (fun _=>?_)
set_option maxHeartbeats 8000000 in
set_option maxRecDepth 100000 in
theorem bits_Int.calls (k:Nat) (A0:Option Addr) (c0:Nat) (l0:List Int) (a1:Int) (a2:Int) (r1:Int) (r2:Int) (w:World) (hr0:Kd.C (Kd.int .u8) w A0 l0.length l0) (hc0:l0.length≤c0) (h:bits_Int.f k l0 a1 a2=some (r1,r2)) :
 Calls Try.prog 55 #[.slice A0 l0.length c0,.int .i64 a1,.int .i64 a2] w fun e w'=>e=.returned (.tuple #[.int .i64 r1,.int .i64 r2])∧Drawn0 w w':=by
 have HR0:=Aside0.mk hr0
 have HC0:=Aside0.mk hc0;clear hr0 hc0
 have H:(if a2 < 1 then (bits_Int.j0 k l0 a1 a2 true) else (if a2 > 8 then (bits_Int.j0 k l0 a1 a2 true) else (bits_Int.j0 k l0 a1 a2 (decide (a1 < 0)))))=some (r1,r2):=h;clear h
 have HC4:=Aside0.mk H;clear H
 go_enter Try.func55,Try.ntmps55
 go_upto_region 1 with (fail)
 go_cut [20] (fun v20 wc=>∃ (kq:Nat) (x20_3:Bool),v20=.bool x20_3∧Aside0 (bits_Int.j0 kq l0 a1 a2 x20_3=some (r1,r2))∧Aside0 (kq≤k)∧Drawn0 w wc)
 case first =>
  have H:=HC4.out;clear HC4
  by_cases c5:a2 < 1
  · rw [if_pos c5] at H
    have c5b0:decide (a2 < 1)=true:=decide_eq_true c5;clear c5
    (first|rw [c5b0]|(simp only [i64_w,i32_w];rw [c5b0])|rw [c5b1]|skip)
    have H':=Aside0.mk H;clear H
    go_wp2
    go_meet
    case rel=>exact ⟨_,(true),okV,H',⟨by first|omega|exact Nat.le_refl _⟩,by repeat (first|exact Drawn0.refl _|apply Drawn0.step)⟩
  rw [if_neg c5] at H
  have c5b0:decide (a2 < 1)=false:=decide_eq_false c5;clear c5
  (first|rw [c5b0]|(simp only [i64_w,i32_w];rw [c5b0])|rw [c5b1]|skip)
  by_cases c6:a2 > 8
  · rw [if_pos c6] at H
    have c6b0:decide (8 < a2)=true:=decide_eq_true c6;clear c6
    have H':=Aside0.mk H;clear H
    go_wp2
    go_meet
    case rel=>exact ⟨_,(true),okV,H',⟨by first|omega|exact Nat.le_refl _⟩,by repeat (first|exact Drawn0.refl _|apply Drawn0.step)⟩
  rw [if_neg c6] at H
  have c6b0:decide (8 < a2)=false:=decide_eq_false c6;clear c6
  have H':=Aside0.mk H;clear H
  go_wp2
  go_meet
  case rel=>exact ⟨_,(decide (a1 < 0)),okV,H',⟨by first|omega|exact Nat.le_refl _⟩,by repeat (first|exact Drawn0.refl _|apply Drawn0.step)⟩
 case rest =>
  clear HC4
  try clear p2;try clear c5;try clear c5b0;try clear c5b1;try clear c6;try clear c6b0
  obtain ⟨kq,x20_3,rfl,HA,HJ3,⟨mc3,rfl⟩⟩:=hcut
  cases kq with
  | zero=>exact absurd HA.out (by simp [bits_Int.j0])
  | succ kj3 =>
   have H:=HA.out;clear HA
   simp only [bits_Int.j0] at H
   by_cases c7:x20_3=true
   · subst c7
     have H1:(some (0,1))=some (r1,r2):=by rw [if_pos rfl] at H;exact H
     clear H
     have H:=H1;clear H1
     simp only [Option.some.injEq,Prod.mk.injEq] at H
     obtain ⟨rfl,rfl⟩:=H
     go_wp2
     go_ret2
     exact ⟨by first|rfl|(simp;done)|(simp [*];done),by repeat (first|exact Drawn0.refl _|apply Drawn0.step)⟩
   replace c7:=Bool.eq_false_iff.mpr c7;subst c7
   have H1:(if a1 > (l0.length:Int) then (bits_Int.j1 kj3 l0 a1 a2 true) else (bits_Int.j1 kj3 l0 a1 a2 (decide ((wrap64 ((l0.length:Int) - a1)) < a2))))=some (r1,r2):=by rw [if_neg (show ¬ (false=true) by decide)] at H;exact H
   clear H
   have H:=H1;clear H1
   have HC8:=Aside0.mk H;clear H
   go_upto_region 3 with (fail)
   go_cut [32] (fun v32 wc=>∃ (kq:Nat) (x32_7:Bool),v32=.bool x32_7∧Aside0 (bits_Int.j1 kq l0 a1 a2 x32_7=some (r1,r2))∧Aside0 (kq≤kj3)∧Drawn0 w wc)
   case first =>
    have H:=HC8.out;clear HC8
    by_cases c9:a1 > (l0.length:Int)
    · rw [if_pos c9] at H
      have c9b0:decide ((l0.length:Int) < a1)=true:=decide_eq_true c9;clear c9
      (first|rw [c9b0]|(simp only [i64_w,i32_w];rw [c9b0])|rw [c9b1]|skip)
      have H':=Aside0.mk H;clear H
      go_wp2
      go_meet
      case rel=>exact ⟨_,(true),okV,H',⟨by have:=HJ3.out;first|omega|exact Nat.le_refl _⟩,by repeat (first|exact Drawn0.refl _|apply Drawn0.step)⟩
    rw [if_neg c9] at H
    have c9b0:decide ((l0.length:Int) < a1)=false:=decide_eq_false c9;clear c9
    (first|rw [c9b0]|(simp only [i64_w,i32_w];rw [c9b0])|rw [c9b1]|skip)
    have H':=Aside0.mk H;clear H
    go_wp2
    go_meet
    case rel=>exact ⟨_,(decide ((wrap64 ((l0.length:Int) - a1)) < a2)),okV,H',⟨by have:=HJ3.out;first|omega|exact Nat.le_refl _⟩,by repeat (first|exact Drawn0.refl _|apply Drawn0.step)⟩
   case rest =>
    clear HC8
    try clear p2 p2;try clear c3;try clear c5;try clear c5b0;try clear c5b1;try clear c6;try clear c6b0;try clear p6;try clear c7;try clear c9;try clear c9b0;try clear c9b1
    obtain ⟨kq,x32_7,rfl,HA,HJ7,⟨mc7,rfl⟩⟩:=hcut
    cases kq with
    | zero=>exact absurd HA.out (by simp [bits_Int.j1])
    | succ kj7 =>
     have H:=HA.out;clear HA
     simp only [bits_Int.j1] at H
     by_cases c10:x32_7=true
     · subst c10
       have H1:(some (0,3))=some (r1,r2):=by rw [if_pos rfl] at H;exact H
       clear H
       have H:=H1;clear H1
       simp only [Option.some.injEq,Prod.mk.injEq] at H
       obtain ⟨rfl,rfl⟩:=H
       go_wp2
       go_ret2
       exact ⟨by first|rfl|(simp;done)|(simp [*];done),by repeat (first|exact Drawn0.refl _|apply Drawn0.step)⟩
     replace c10:=Bool.eq_false_iff.mpr c10;subst c10
     have H1:(if 0≤a1 then (if a1≤(wrap64 (a1+a2)) then (if (wrap64 (a1+a2))≤(l0.length:Int) then ((some ((l0.take ((wrap64 (a1+a2)):Int).toNat).drop (a1:Int).toNat:List Int)).bind fun y190=>(bits_Int.l0 kj7 0 y190 (y190.length:Int) 0)) else (none)) else (none)) else (none))=some (r1,r2):=by rw [if_neg (show ¬ (false=true) by decide)] at H;exact H
     clear H
     have H:=H1;clear H1
     by_cases c11:0≤a1
     · rw [if_pos c11] at H
       have c11b0:=eq_true c11
       have c11b1:decide (0≤a1)=true:=decide_eq_true c11;clear c11
       by_cases c12:a1≤(wrap64 (a1+a2))
       · rw [if_pos c12] at H
         have c12b0:=eq_true c12
         have c12b1:decide (a1≤(wrap64 (a1+a2)))=true:=decide_eq_true c12
         by_cases c13:(wrap64 (a1+a2))≤(l0.length:Int)
         · rw [if_pos c13] at H
           have c13b0:=eq_true c13
           have c13b1:decide ((wrap64 (a1+a2))≤(l0.length:Int))=true:=decide_eq_true c13
           obtain ⟨y190,hy190⟩:∃ y_:List Int,y_=((l0.take ((wrap64 (a1+a2)):Int).toNat).drop (a1:Int).toNat):=⟨_,rfl⟩
           replace H:(bits_Int.l0 kj7 0 y190 (y190.length:Int) 0)=some (r1,r2):=by first|(rw [hy190];with_reducible exact H)|(have H2_:=(Option.bind_some _ _).symm.trans H;rw [hy190];with_reducible exact H2_)|(have H2_:=(Option.bind_some _ _).symm.trans H;with_reducible exact H2_)|with_reducible exact H|(rw [hy190];exact H)|exact H
           have Ny190:=Aside0.mk hy190;clear hy190
           have H':=Aside0.mk H;clear H
           have q14:((wrap64 (a1+a2)):Int)≤((l0.length:Int):Int):=of_decide_eq_true asV
           obtain ⟨i014,hi014,_,hsz14,_⟩:=info_parts info5
           have hroom14:l0.length≤c0:=HC0.out
           have hC14:Kd.C (Kd.int .u8) _ A0 l0.length l0:=HR0.out
           have ql14:(a1:Int)≤((wrap64 (a1+a2)):Int):=of_decide_eq_true asV
           have q014:(0:Int)≤(a1:Int):=of_decide_eq_true asV
           have hcut14:=cut_mid (P:=Try.prog) 23 5 .i64 .i64 Try.underlying23 hi014 1 hsz14 A0 l0.length c0 a1 (wrap64 (a1+a2)) q014 ql14 q14 hroom14
           have hr14:=Kd.C_mid (lo:=(a1:Int).toNat) (hi:=((wrap64 (a1+a2)):Int).toNat) (c:=c0) hC14 (by omega) (by omega) hroom14
           obtain ⟨A14,hA14⟩:∃ A1,A1=(if c0=(a1:Int).toNat then A0 else (A0:Option Addr).map (·.add ((a1:Int).toNat*1))):=⟨_,rfl⟩
           obtain ⟨c14,hc14⟩:∃ c1,c1=c0 - (a1:Int).toNat:=⟨_,rfl⟩
           have hy14:y190.length=((wrap64 (a1+a2)):Int).toNat - (a1:Int).toNat:=(by rw [Ny190.out,List.length_drop,List.length_take] <;> omega)
           rw [show ((l0).take ((wrap64 (a1+a2)):Int).toNat).drop (a1:Int).toNat=y190 from Ny190.out.symm] at hr14
           replace hr14:Kd.C (Kd.int .u8) _ A14 y190.length y190:=(by rw [hA14];exact hr14)
           rw [← hy14,← hA14,← hc14] at hcut14
           have HR193:=Aside0.mk hr14
           have HC193:=Aside0.mk (show y190.length≤c14 from by rw [hy14,hc14];exact Nat.sub_le_sub_right (Nat.le_trans (by omega) hroom14) _);clear hr14 hC14 hroom14 hi014 hsz14 hc14
           have KY14:=Aside0.mk hy14
           have KA14:=Aside0.mk hA14;clear hy14 hA14
           replace q14:=eq_true q14
           go_wp2
           go_loopg [8,40] kj7 (fun kq v8 v40 w'=>∃ (x8_3:Int) (x40_3:Int),v8=.int .u64 x8_3∧v40=.int .i64 x40_3∧Aside0 (bits_Int.l0 kq x8_3 y190 (y190.length:Int) x40_3=some (r1,r2))∧Aside0 (kq≤kj7)∧Drawn0 w w')
           case atStart=>exact ⟨(0),(0),okV,okV,H',⟨Nat.le_refl _⟩,by repeat (first|exact Drawn0.refl _|apply Drawn0.step)⟩
           case round =>
            clear H'
            try clear c1;try clear q1;try clear p2 p2;try clear c3;try clear c5;try clear c5b0;try clear c5b1;try clear c6;try clear c6b0;try clear p6 p6;try clear c7;try clear c9;try clear c9b0;try clear c9b1;try clear c10;try clear c11;try clear c11b0;try clear c11b1;try clear c12;try clear c12b0;try clear c12b1;try clear c13;try clear c13b0;try clear c13b1;try clear c14;try clear q14 q14;try clear q014
            obtain ⟨x8_3,x40_3,rfl,rfl,HA,HK3,⟨m3,rfl⟩⟩:=hrel
            cases gk with
            | zero=>exact absurd HA.out (by simp [bits_Int.l0])
            | succ k3 =>
             have H:=HA.out;clear HA
             simp only [bits_Int.l0] at H
             by_cases c15:x40_3 < (y190.length:Int)
             · rw [if_pos c15] at H
               have c15b0:decide (x40_3 < (y190.length:Int))=true:=decide_eq_true c15;clear c15
               by_cases c16:0≤x40_3
               · rw [if_pos c16] at H
                 have c16b0:decide (0≤x40_3)=true:=decide_eq_true c16;clear c16
                 by_cases c17:x40_3 < (y190.length:Int)
                 · rw [if_pos c17] at H
                   have c17b0:decide (x40_3 < (y190.length:Int))=true:=decide_eq_true c17;clear c17
                   have H':=Aside0.mk H;clear H
                   have p194:0≤(x40_3:Int):=of_decide_eq_true asV
                   have q194:x40_3 < (y190.length:Int):=of_decide_eq_true asV
                   obtain ⟨ad194,e194,hx194_0⟩:=Kd.at_int HR193.out x40_3 p194 q194
                   cases e194
                   replace p194:=eq_true p194
                   replace q194:=eq_true q194
                   go_wp2
                   go_roundg k3
                   case measure=>have:=HJ3.out;have:=HJ7.out;have:=HK3.out;omega
                   case rel=>exact ⟨(Go.bits .or .u64 (IntKind.u64.wrap (x8_3*256)) (IntKind.u64.wrap (rd y190 x40_3))),(wrap64 (x40_3+1)),okV,okV,H',⟨by have:=HJ3.out;have:=HJ7.out;have:=HK3.out;omega⟩,by repeat (first|exact Drawn0.refl _|apply Drawn0.step)⟩
                 rw [if_neg c17] at H
                 exact absurd H (by simp)
               rw [if_neg c16] at H
               exact absurd H (by simp)
             rw [if_neg c15] at H
             have c15b0:decide (x40_3 < (y190.length:Int))=false:=decide_eq_false c15;clear c15
             by_cases c18:x8_3 > 9223372036854775807
             · rw [if_pos c18] at H
               have c18b0:decide (9223372036854775807 < x8_3)=true:=decide_eq_true c18;clear c18
               simp only [Option.some.injEq,Prod.mk.injEq] at H
               obtain ⟨rfl,rfl⟩:=H
               go_wp2
               go_ret2
               exact ⟨by first|rfl|(simp;done)|(simp [*];done),by repeat (first|exact Drawn0.refl _|apply Drawn0.step)⟩
             rw [if_neg c18] at H
             have c18b0:decide (9223372036854775807 < x8_3)=false:=decide_eq_false c18;clear c18
             simp only [Option.some.injEq,Prod.mk.injEq] at H
             obtain ⟨rfl,rfl⟩:=H
             go_wp2
             go_ret2
             exact ⟨by first|rfl|(simp;done)|(simp [*];done),by repeat (first|exact Drawn0.refl _|apply Drawn0.step)⟩
         rw [if_neg c13] at H
         exact absurd H (by simp)
       rw [if_neg c12] at H
       exact absurd H (by simp)
     rw [if_neg c11] at H
     exact absurd H (by simp)

end Go.Proofs.Ytaebgjdaoloceaa.QBmpP
