/- Part of a proof: functions of the program as Lean functions, and that the machine's calls come to them. Made by a program of this session (wip/mp). -/
import Derived.Test.YtaebgjdaoloceaaQBmpPx0
namespace Go.Proofs.Ytaebgjdaoloceaa.QBmpP
open Go.RowKit Go.Proofs.YtaebgjdaoloceaaV Go.Proofs.YtaebgjdaoloceaaW.PrintWords Go.Proofs.YtaebgjdaoloceaaW.PrintLast Go.Proofs.YtaebgjdaoloceaaW.PrintMore
attribute [local go_sem] max2_int min2_int max_two min_two max_three min_three max_four min_four   -- for this text's walks alone
set_option linter.unusedVariables false
set_option linter.unusedSimpArgs false

/-! ### dioramaref00_EqBytes: function 13 -/
def dioramaref00_EqBytes.l0 : Nat → List Int → List Int → Int → Option (Bool)
 | 0,_,_,_=>none
 | k+1,x0,x1,x5=>if x5 < (x0.length:Int) then (if 0≤x5 then (if x5 < (x1.length:Int) then (if (rd x0 x5)=(rd x1 x5) then (dioramaref00_EqBytes.l0 k x0 x1 (wrap64 (x5+1))) else (some false)) else (none)) else (none)) else (some true)
def dioramaref00_EqBytes.f (k : Nat) (l0 : List Int) (l1 : List Int) : Option (Bool) := if (l0.length : Int) = (l1.length : Int) then (dioramaref00_EqBytes.l0 k l0 l1 0) else (some false)
theorem dioramaref00_EqBytes.mono_l:∀ k,(∀ y0 y1 y2,LeO (dioramaref00_EqBytes.l0 k y0 y1 y2) (dioramaref00_EqBytes.l0 (k+1) y0 y1 y2))
 | 0=>fun _ _ _ r h=>by simp [dioramaref00_EqBytes.l0] at h
 | k+1=>by
  have ih0:=dioramaref00_EqBytes.mono_l k
  · intro y0 y1 y2
    unfold dioramaref00_EqBytes.l0
    repeat' first
    | (with_reducible exact ih0 _ _ _)
    | (with_reducible exact LeO.refl _)
    | (with_reducible exact LeO.none _)
    | (with_reducible refine LeO.ite ?_ ?_)
    | (with_reducible refine LeO.bind ?_ (fun _=>?_))
    | exact LeO.none _
    | refine LeO.ite ?_ ?_
    | refine LeO.bind ?_ (fun _=>?_)
theorem dioramaref00_EqBytes.mono:∀ a0 a1 k,LeO (dioramaref00_EqBytes.f k a0 a1) (dioramaref00_EqBytes.f (k+1) a0 a1):=by
 intro a0 a1 k
 have ih0:=dioramaref00_EqBytes.mono_l k
 unfold dioramaref00_EqBytes.f
 repeat' first
  | (with_reducible exact ih0 _ _ _)
  | (with_reducible exact LeO.refl _)
  | (with_reducible exact LeO.none _)
  | (with_reducible refine LeO.ite ?_ ?_)
  | (with_reducible refine LeO.bind ?_ (fun _=>?_))
  | exact LeO.none _
  | refine LeO.ite ?_ ?_
  | refine LeO.bind ?_ (fun _=>?_)
set_option maxHeartbeats 8000000 in
set_option maxRecDepth 100000 in
theorem dioramaref00_EqBytes.calls (k:Nat) (A0:Option Addr) (c0:Nat) (l0:List Int) (A1:Option Addr) (c1:Nat) (l1:List Int) (r:Bool) (w:World) (hr0:Kd.C (Kd.int .u8) w A0 l0.length l0) (hc0:l0.length≤c0) (hr1:Kd.C (Kd.int .u8) w A1 l1.length l1) (hc1:l1.length≤c1) (h:dioramaref00_EqBytes.f k l0 l1=some r) :
 Calls Try.prog 13 #[.slice A0 l0.length c0,.slice A1 l1.length c1] w fun e w'=>e=.returned (.bool r)∧Drawn0 w w':=by
 have HR0:=Aside0.mk hr0
 have HC0:=Aside0.mk hc0;clear hr0 hc0
 have HR1:=Aside0.mk hr1
 have HC1:=Aside0.mk hc1;clear hr1 hc1
 have H:(if (l0.length:Int)=(l1.length:Int) then (dioramaref00_EqBytes.l0 k l0 l1 0) else (some false))=some r:=h;clear h
 by_cases c3:(l0.length:Int)=(l1.length:Int)
 · rw [if_pos c3] at H
   have c3b0:((l0.length:Int) == (l1.length:Int))=true:=beq_iff_eq.mpr c3
   have c3b1:((l0.length:Int) != (l1.length:Int))=false:=bne_eq_false_iff_eq.mpr c3
   have c3b2:(l0.length == l1.length)=true:=by first|simpa using c3|(simp at c3 ⊢;omega)
   clear c3
   have H':=Aside0.mk H;clear H
   go_enter Try.func13,Try.ntmps13
   go_wp2
   repeat (go_quiet (fail);try go_wp2)
   go_loopg [5] k (fun kq v5 w'=>∃ (x5_1:Int),v5=.int .i64 x5_1∧Aside0 (dioramaref00_EqBytes.l0 kq l0 l1 x5_1=some r)∧Aside0 (kq≤k)∧Drawn0 w w')
   case atStart=>exact ⟨(0),okV,H',⟨Nat.le_refl _⟩,by repeat (first|exact Drawn0.refl _|apply Drawn0.step)⟩
   case round =>
    clear H'
    try clear c1;try clear p2;try clear c3;try clear c3b0;try clear c3b1;try clear c3b2
    obtain ⟨x5_1,rfl,HA,HK1,⟨m1,rfl⟩⟩:=hrel
    cases gk with
    | zero=>exact absurd HA.out (by simp [dioramaref00_EqBytes.l0])
    | succ k1 =>
     have H:=HA.out;clear HA
     simp only [dioramaref00_EqBytes.l0] at H
     by_cases c4:x5_1 < (l0.length:Int)
     · rw [if_pos c4] at H
       have c4b0:decide (x5_1 < (l0.length:Int))=true:=decide_eq_true c4;clear c4
       by_cases c5:0≤x5_1
       · rw [if_pos c5] at H
         have c5b0:decide (0≤x5_1)=true:=decide_eq_true c5;clear c5
         by_cases c6:x5_1 < (l1.length:Int)
         · rw [if_pos c6] at H
           have c6b0:decide (x5_1 < (l1.length:Int))=true:=decide_eq_true c6;clear c6
           by_cases c7:(rd l0 x5_1)=(rd l1 x5_1)
           · rw [if_pos c7] at H
             have c7b0:((rd l0 x5_1) == (rd l1 x5_1))=true:=beq_iff_eq.mpr c7
             have c7b1:((rd l0 x5_1) != (rd l1 x5_1))=false:=bne_eq_false_iff_eq.mpr c7;clear c7
             have H':=Aside0.mk H;clear H
             have p101:0≤(x5_1:Int):=of_decide_eq_true asV
             have q101:x5_1 < (l0.length:Int):=of_decide_eq_true asV
             obtain ⟨ad101,e101,hx101_0⟩:=Kd.at_int HR0.out x5_1 p101 q101
             cases e101
             replace p101:=eq_true p101
             replace q101:=eq_true q101
             have p102:0≤(x5_1:Int):=of_decide_eq_true asV
             have q102:x5_1 < (l1.length:Int):=of_decide_eq_true asV
             obtain ⟨ad102,e102,hx102_0⟩:=Kd.at_int HR1.out x5_1 p102 q102
             cases e102
             replace p102:=eq_true p102
             replace q102:=eq_true q102
             go_wp2
             repeat (go_quiet (fail);try go_wp2)
             go_roundg k1
             case measure=>have:=HK1.out;omega
             case rel=>exact ⟨(wrap64 (x5_1+1)),okV,H',⟨by have:=HK1.out;omega⟩,by repeat (first|exact Drawn0.refl _|apply Drawn0.step)⟩
           rw [if_neg c7] at H
           have c7b0:((rd l0 x5_1) == (rd l1 x5_1))=false:=beq_eq_false_iff_ne.mpr c7
           have c7b1:((rd l0 x5_1) != (rd l1 x5_1))=true:=bne_iff_ne.mpr c7
           obtain rfl:=Option.some.inj H
           have p101:0≤(x5_1:Int):=of_decide_eq_true asV
           have q101:x5_1 < (l0.length:Int):=of_decide_eq_true asV
           obtain ⟨ad101,e101,hx101_0⟩:=Kd.at_int HR0.out x5_1 p101 q101
           cases e101
           replace p101:=eq_true p101
           replace q101:=eq_true q101
           have p102:0≤(x5_1:Int):=of_decide_eq_true asV
           have q102:x5_1 < (l1.length:Int):=of_decide_eq_true asV
           obtain ⟨ad102,e102,hx102_0⟩:=Kd.at_int HR1.out x5_1 p102 q102
           cases e102
           replace p102:=eq_true p102
           replace q102:=eq_true q102
           go_wp2
           repeat (go_quiet (fail);try go_wp2)
           go_ret
           exact ⟨by first|rfl|(simp;done)|(simp [*];done),by repeat (first|exact Drawn0.refl _|apply Drawn0.step)⟩
         rw [if_neg c6] at H
         exact absurd H (by simp)
       rw [if_neg c5] at H
       exact absurd H (by simp)
     rw [if_neg c4] at H
     have c4b0:decide (x5_1 < (l0.length:Int))=false:=decide_eq_false c4;clear c4
     obtain rfl:=Option.some.inj H
     go_wp2
     repeat (go_quiet (fail);try go_wp2)
     go_ret
     exact ⟨by first|rfl|(simp;done)|(simp [*];done),by repeat (first|exact Drawn0.refl _|apply Drawn0.step)⟩
 rw [if_neg c3] at H
 have c3b0:((l0.length:Int) == (l1.length:Int))=false:=beq_eq_false_iff_ne.mpr c3
 have c3b1:((l0.length:Int) != (l1.length:Int))=true:=bne_iff_ne.mpr c3
 have c3b2:(l0.length == l1.length)=false:=by first|simpa using c3|(simp at c3 ⊢;omega)
 obtain rfl:=Option.some.inj H
 go_enter Try.func13,Try.ntmps13
 go_wp2
 repeat (go_quiet (fail);try go_wp2)
 go_ret
 exact ⟨by first|rfl|(simp;done)|(simp [*];done),by repeat (first|exact Drawn0.refl _|apply Drawn0.step)⟩

/-! ### bitmap_within: function 47 -/
def bitmap_within.f (a0 : Int) (a1 : Int) (a2 : Int) : Option (Bool) := if a0 ≥ a1 then (some (decide (a0 ≤ a2))) else (some false)
set_option maxHeartbeats 8000000 in
set_option maxRecDepth 100000 in
theorem bitmap_within.calls (a0:Int) (a1:Int) (a2:Int) (r:Bool) (w:World) (h:bitmap_within.f a0 a1 a2=some r) :
 Calls Try.prog 47 #[.int .i64 a0,.int .i64 a1,.int .i64 a2] w fun e w'=>e=.returned (.bool r)∧Drawn0 w w':=by
 have H:(if a0≥a1 then (some (decide (a0≤a2))) else (some false))=some r:=h;clear h
 by_cases c4:a0≥a1
 · rw [if_pos c4] at H
   have c4b0:decide (a1≤a0)=true:=decide_eq_true c4;clear c4
   obtain rfl:=Option.some.inj H
   go_enter Try.func47,Try.ntmps47
   go_wp2
   go_ret
   exact ⟨by first|rfl|(simp;done)|(simp [*];done),by repeat (first|exact Drawn0.refl _|apply Drawn0.step)⟩
 rw [if_neg c4] at H
 have c4b0:decide (a1≤a0)=false:=decide_eq_false c4;clear c4
 obtain rfl:=Option.some.inj H
 go_enter Try.func47,Try.ntmps47
 go_wp2
 go_ret
 exact ⟨by first|rfl|(simp;done)|(simp [*];done),by repeat (first|exact Drawn0.refl _|apply Drawn0.step)⟩

-- NOT PRINTED: function 83 (slices_IndexFunc_int_int)

-- NOT PRINTED: function 48 (slices_ContainsFunc_int_int)

/-! ### bitmap_Runs_1: function 49 -/
def bitmap_Runs_1.f (a0 : Int) : Option (Bool) := (bitmap_within.f a0 0 15).bind fun t103 => (some (!t103))
set_option maxHeartbeats 8000000 in
set_option maxRecDepth 100000 in
theorem bitmap_Runs_1.calls (a0:Int) (r:Bool) (w:World) (h:bitmap_Runs_1.f a0=some r) :
 Calls Try.prog 49 #[.int .i64 a0] w fun e w'=>e=.returned (.bool r)∧Drawn0 w w':=by
 have H:((bitmap_within.f a0 0 15).bind fun t103=>(some (!t103)))=some r:=h;clear h
 replace H:=Option.bind_eq_some_iff.mp H
 obtain ⟨t103,A20,H⟩:=H
 replace H:(some (!t103))=some r:=H
 have A2:=Aside0.mk A20;clear A20
 obtain rfl:=Option.some.inj H
 go_enter Try.func49,Try.ntmps49
 go_wp2_with (first|((with_reducible refine gate_callee (f:=47) rfl ?_);refine goesL_ (some 4) rfl rfl Try.func47 (by kernel_rfl) rfl #[.int .i64 a0,.int .i64 0,.int .i64 15] rfl (by (try simp only [List.map_toArray,List.map_cons,List.map_nil]);first|done|rfl|(simp only [List.length_drop,List.length_take];rfl)) ?_;(with_reducible refine (bitmap_within.calls a0 0 15 t103 _ A2.out).mono ?_);rintro e w' ⟨rfl,⟨nd,rfl⟩⟩;refine ⟨_,rfl,?_⟩))
 go_ret
 exact ⟨by first|rfl|(simp;done)|(simp [*];done),by repeat (first|exact Drawn0.refl _|apply Drawn0.step)⟩

/-! ### slices_IndexFunc_int_int__49: function 83 -/
def slices_IndexFunc_int_int__49.l0 : Nat → List Int → Int → Int → Option (Int)
 | 0,_,_,_=>none
 | k+1,x0,x7,x8=>if x8 < x7 then (if 0≤x8 then (if x8 < (x0.length:Int) then ((bitmap_Runs_1.f (rd x0 x8)).bind fun t105=>(if t105=true then (some x8) else (slices_IndexFunc_int_int__49.l0 k x0 x7 (wrap64 (x8+1))))) else (none)) else (none)) else (some (-1))
def slices_IndexFunc_int_int__49.f (k : Nat) (l0 : List Int)  : Option (Int) := slices_IndexFunc_int_int__49.l0 k l0 (l0.length : Int) 0
theorem slices_IndexFunc_int_int__49.mono_l:∀ k,(∀ y0 y1 y2,LeO (slices_IndexFunc_int_int__49.l0 k y0 y1 y2) (slices_IndexFunc_int_int__49.l0 (k+1) y0 y1 y2))
 | 0=>fun _ _ _ r h=>by simp [slices_IndexFunc_int_int__49.l0] at h
 | k+1=>by
  have ih0:=slices_IndexFunc_int_int__49.mono_l k
  · intro y0 y1 y2
    unfold slices_IndexFunc_int_int__49.l0
    repeat' first
    | (with_reducible exact ih0 _ _ _)
    | (with_reducible exact LeO.refl _)
    | (with_reducible exact LeO.none _)
    | (with_reducible refine LeO.ite ?_ ?_)
    | (with_reducible refine LeO.bind ?_ (fun _=>?_))
    | exact LeO.none _
    | refine LeO.ite ?_ ?_
    | refine LeO.bind ?_ (fun _=>?_)
theorem slices_IndexFunc_int_int__49.mono:∀ a0 k,LeO (slices_IndexFunc_int_int__49.f k a0) (slices_IndexFunc_int_int__49.f (k+1) a0):=by
 intro a0 k
 have ih0:=slices_IndexFunc_int_int__49.mono_l k
 unfold slices_IndexFunc_int_int__49.f
 repeat' first
  | (with_reducible exact ih0 _ _ _)
  | (with_reducible exact LeO.refl _)
  | (with_reducible exact LeO.none _)
  | (with_reducible refine LeO.ite ?_ ?_)
  | (with_reducible refine LeO.bind ?_ (fun _=>?_))
  | exact LeO.none _
  | refine LeO.ite ?_ ?_
  | refine LeO.bind ?_ (fun _=>?_)
set_option maxHeartbeats 8000000 in
set_option maxRecDepth 100000 in
theorem slices_IndexFunc_int_int__49.calls (k:Nat) (A0:Option Addr) (c0:Nat) (l0:List Int)  (r:Int) (w:World) (hr0:Kd.C (Kd.int .i64) w A0 l0.length l0) (hc0:l0.length≤c0) (h:slices_IndexFunc_int_int__49.f k l0=some r) :
 Calls Try.prog 83 #[.slice A0 l0.length c0,.func (.func 49) #[] #[]] w fun e w'=>e=.returned (.int .i64 r)∧Drawn0 w w':=by
 have HR0:=Aside0.mk hr0
 have HC0:=Aside0.mk hc0;clear hr0 hc0
 have H:(slices_IndexFunc_int_int__49.l0 k l0 (l0.length:Int) 0)=some r:=h;clear h
 have H':=Aside0.mk H;clear H
 go_enter Try.func83,Try.ntmps83
 go_wp2
 go_loopg [8] k (fun kq v8 w'=>∃ (x8_1:Int),v8=.int .i64 x8_1∧Aside0 (slices_IndexFunc_int_int__49.l0 kq l0 (l0.length:Int) x8_1=some r)∧Aside0 (kq≤k)∧Drawn0 w w')
 case atStart=>exact ⟨(0),okV,H',⟨Nat.le_refl _⟩,by repeat (first|exact Drawn0.refl _|apply Drawn0.step)⟩
 case round =>
  clear H'
  try clear p2
  obtain ⟨x8_1,rfl,HA,HK1,⟨m1,rfl⟩⟩:=hrel
  cases gk with
  | zero=>exact absurd HA.out (by simp [slices_IndexFunc_int_int__49.l0])
  | succ k1 =>
   have H:=HA.out;clear HA
   simp only [slices_IndexFunc_int_int__49.l0] at H
   by_cases c3:x8_1 < (l0.length:Int)
   · rw [if_pos c3] at H
     have c3b0:decide (x8_1 < (l0.length:Int))=true:=decide_eq_true c3;clear c3
     by_cases c4:0≤x8_1
     · rw [if_pos c4] at H
       have c4b0:decide (0≤x8_1)=true:=decide_eq_true c4;clear c4
       by_cases c5:x8_1 < (l0.length:Int)
       · rw [if_pos c5] at H
         have c5b0:decide (x8_1 < (l0.length:Int))=true:=decide_eq_true c5;clear c5
         replace H:=Option.bind_eq_some_iff.mp H
         obtain ⟨t105,A60,H⟩:=H
         replace H:(if t105=true then (some x8_1) else (slices_IndexFunc_int_int__49.l0 k1 l0 (l0.length:Int) (wrap64 (x8_1+1))))=some r:=H
         have A6:=Aside0.mk A60;clear A60
         by_cases c7:t105=true
         · subst c7
           have H1:(some x8_1)=some r:=by rw [if_pos rfl] at H;exact H
           clear H
           have H:=H1;clear H1
           obtain rfl:=Option.some.inj H
           have p104:0≤(x8_1:Int):=of_decide_eq_true asV
           have q104:x8_1 < (l0.length:Int):=of_decide_eq_true asV
           obtain ⟨ad104,e104,hx104_0⟩:=Kd.at_int HR0.out x8_1 p104 q104
           cases e104
           replace p104:=eq_true p104
           replace q104:=eq_true q104
           go_wp2_with (first|(go_at_call 49;(with_reducible refine (bitmap_Runs_1.calls (rd l0 x8_1) true _ A6.out).mono ?_);rintro e w' ⟨rfl,⟨nd,rfl⟩⟩))
           go_ret
           exact ⟨by first|rfl|(simp;done)|(simp [*];done),by repeat (first|exact Drawn0.refl _|apply Drawn0.step)⟩
         replace c7:=Bool.eq_false_iff.mpr c7;subst c7
         have H1:(slices_IndexFunc_int_int__49.l0 k1 l0 (l0.length:Int) (wrap64 (x8_1+1)))=some r:=by rw [if_neg (show ¬ (false=true) by decide)] at H;exact H
         clear H
         have H:=H1;clear H1
         have H':=Aside0.mk H;clear H
         have p104:0≤(x8_1:Int):=of_decide_eq_true asV
         have q104:x8_1 < (l0.length:Int):=of_decide_eq_true asV
         obtain ⟨ad104,e104,hx104_0⟩:=Kd.at_int HR0.out x8_1 p104 q104
         cases e104
         replace p104:=eq_true p104
         replace q104:=eq_true q104
         go_wp2_with (first|(go_at_call 49;(with_reducible refine (bitmap_Runs_1.calls (rd l0 x8_1) false _ A6.out).mono ?_);rintro e w' ⟨rfl,⟨nd,rfl⟩⟩))
         go_roundg k1
         case measure=>have:=HK1.out;omega
         case rel=>exact ⟨(wrap64 (x8_1+1)),okV,H',⟨by have:=HK1.out;omega⟩,by repeat (first|exact Drawn0.refl _|apply Drawn0.step)⟩
       rw [if_neg c5] at H
       exact absurd H (by simp)
     rw [if_neg c4] at H
     exact absurd H (by simp)
   rw [if_neg c3] at H
   have c3b0:decide (x8_1 < (l0.length:Int))=false:=decide_eq_false c3;clear c3
   obtain rfl:=Option.some.inj H
   go_wp2
   go_ret
   exact ⟨by first|rfl|(simp;done)|(simp [*];done),by repeat (first|exact Drawn0.refl _|apply Drawn0.step)⟩

/-! ### slices_ContainsFunc_int_int__49: function 48 -/
def slices_ContainsFunc_int_int__49.f (k : Nat) (l0 : List Int)  : Option (Bool) := (slices_IndexFunc_int_int__49.f k l0).bind fun t106 => (some (decide (t106 ≥ 0)))
theorem slices_ContainsFunc_int_int__49.mono:∀ a0 k,LeO (slices_ContainsFunc_int_int__49.f k a0) (slices_ContainsFunc_int_int__49.f (k+1) a0):=by
 intro a0 k
 unfold slices_ContainsFunc_int_int__49.f
 repeat' first
  | (with_reducible exact slices_IndexFunc_int_int__49.mono _ _)
  | (with_reducible exact LeO.refl _)
  | (with_reducible exact LeO.none _)
  | (with_reducible refine LeO.ite ?_ ?_)
  | (with_reducible refine LeO.bind ?_ (fun _=>?_))
  | exact LeO.none _
  | refine LeO.ite ?_ ?_
  | refine LeO.bind ?_ (fun _=>?_)
set_option maxHeartbeats 8000000 in
set_option maxRecDepth 100000 in
theorem slices_ContainsFunc_int_int__49.calls (k:Nat) (A0:Option Addr) (c0:Nat) (l0:List Int)  (r:Bool) (w:World) (hr0:Kd.C (Kd.int .i64) w A0 l0.length l0) (hc0:l0.length≤c0) (h:slices_ContainsFunc_int_int__49.f k l0=some r) :
 Calls Try.prog 48 #[.slice A0 l0.length c0,.func (.func 49) #[] #[]] w fun e w'=>e=.returned (.bool r)∧Drawn0 w w':=by
 have HR0:=Aside0.mk hr0
 have HC0:=Aside0.mk hc0;clear hr0 hc0
 have H:((slices_IndexFunc_int_int__49.f k l0).bind fun t106=>(some (decide (t106≥0))))=some r:=h;clear h
 replace H:=Option.bind_eq_some_iff.mp H
 obtain ⟨t106,A30,H⟩:=H
 replace H:(some (decide (t106≥0)))=some r:=H
 have A3:=Aside0.mk A30;clear A30
 obtain rfl:=Option.some.inj H
 go_enter Try.func48,Try.ntmps48
 go_wp2_with (first|((with_reducible refine gate_callee (f:=83) rfl ?_);refine goesL_ (some 7) rfl rfl Try.func83 (by kernel_rfl) rfl #[.slice A0 l0.length c0,.func (.func 49) #[] #[]] rfl (by (try simp only [List.map_toArray,List.map_cons,List.map_nil]);first|done|rfl|(simp only [List.length_drop,List.length_take];rfl)) ?_;(with_reducible refine (slices_IndexFunc_int_int__49.calls k _ _ l0  t106 _ ?side1 ?side2 A3.out).mono ?_);(case side1=>repeat (first|exact HR0.out|(with_reducible refine Kd.C_alloc ?_ _)|(with_reducible refine Kd.C_drewN ?_ _)|(with_reducible refine Kd.C_drew ?_)));(case side2=>exact HC0.out);rintro e w' ⟨rfl,⟨nd,rfl⟩⟩;refine ⟨_,rfl,?_⟩))
 go_ret
 exact ⟨by first|rfl|(simp;done)|(simp [*];done),by repeat (first|exact Drawn0.refl _|apply Drawn0.step)⟩

/-! ### bitmap_Runs: function 11 -/
mutual
def bitmap_Runs.j0 : Nat → List Int → Int → Bool → Option (List Int × Int)
 | 0,_,_,_=>none
 | k+1,x0,x1,x17=>if x17=true then (some (([]:List Int),1)) else (if (x0.length:Int)=0 then (bitmap_Runs.j1 k x0 x1 true) else (if x1=0 then (none) else (if ((x0.length:Int) % x1)=0 then (bitmap_Runs.j1 k x0 x1 (decide ((wrap64 ((x0.length:Int) / x1)) > 64))) else (bitmap_Runs.j1 k x0 x1 true))))
def bitmap_Runs.j1 : Nat → List Int → Int → Bool → Option (List Int × Int)
 | 0,_,_,_=>none
 | k+1,x0,x1,x34=>if x34=true then (some (([]:List Int),4)) else (bitmap_Runs.l0 k x0 x1 ([]:List Int) 0)
def bitmap_Runs.l0 : Nat → List Int → Int → List Int → Int → Option (List Int × Int)
 | 0,_,_,_,_=>none
 | k+1,x0,x1,x6,x7=>if x7 < (x0.length:Int) then (if 0≤x7 then (if x7≤(wrap64 (x7+x1)) then (if (wrap64 (x7+x1))≤(x0.length:Int) then (bitmap_Runs.l1 k x0 x1 x6 x7 ((x0.take ((wrap64 (x7+x1)):Int).toNat).drop (x7:Int).toNat)) else (none)) else (none)) else (none)) else (some (x6,0))
def bitmap_Runs.l1 : Nat → List Int → Int → List Int → Int → List Int → Option (List Int × Int)
 | 0,_,_,_,_,_=>none
 | k+1,x0,x1,x6,x7,x8=>if (x8.length:Int) > 0 then (bitmap_Runs.l2 k x0 x1 x6 x7 x8 1) else (bitmap_Runs.l0 k x0 x1 x6 (wrap64 (x7+x1)))
def bitmap_Runs.j5 : Nat → List Int → Int → List Int → Int → List Int → Int → Option (List Int × Int)
 | 0,_,_,_,_,_,_=>none
 | k+1,x0,x1,x6,x7,x8,x9=>if 0 < (x8.length:Int) then (if x9=(x8.length:Int) then (if x6.length < 140737488355328 then (if 0≤x9 then (if x9≤(x8.length:Int) then (bitmap_Runs.l1 k x0 x1 (x6 ++ [(wrap64 ((rd x8 0)*16)) % 256]) x7 (x8.drop (x9:Int).toNat)) else (none)) else (none)) else (none)) else (if x9≤14 then (if x6.length < 140737488355328 then (if 0≤x9 then (if x9≤(x8.length:Int) then (bitmap_Runs.l1 k x0 x1 (x6 ++ [Go.bits .or .u8 ((wrap64 ((rd x8 0)*16)) % 256) ((x9) % 256)]) x7 (x8.drop (x9:Int).toNat)) else (none)) else (none)) else (none)) else ((some (([Go.bits .or .u8 ((wrap64 ((rd x8 0)*16)) % 256) 15,(wrap64 (x9 - 15)) % 256]:List Int):List Int)).bind fun y130=>(if x6.length+y130.length < 140737488355328 then (if 0≤x9 then (if x9≤(x8.length:Int) then (bitmap_Runs.l1 k x0 x1 (x6 ++ y130) x7 (x8.drop (x9:Int).toNat)) else (none)) else (none)) else (none))))) else (none)
def bitmap_Runs.l2 : Nat → List Int → Int → List Int → Int → List Int → Int → Option (List Int × Int)
 | 0,_,_,_,_,_,_=>none
 | k+1,x0,x1,x6,x7,x8,x9=>if x9 < (x8.length:Int) then (if 0≤x9 then (if 0 < (x8.length:Int) then (if (rd x8 x9)=(rd x8 0) then (bitmap_Runs.l2 k x0 x1 x6 x7 x8 (wrap64 (x9+1))) else (bitmap_Runs.j5 k x0 x1 x6 x7 x8 x9)) else (none)) else (none)) else (bitmap_Runs.j5 k x0 x1 x6 x7 x8 x9)
end
def bitmap_Runs.f (k : Nat) (l0 : List Int) (a1 : Int) : Option (List Int × Int) := (bitmap_within.f a1 1 64).bind fun t104 => (if t104 = true then ((slices_ContainsFunc_int_int__49.f k l0).bind fun t105 => (bitmap_Runs.j0 k l0 a1 t105)) else (bitmap_Runs.j0 k l0 a1 true))
theorem bitmap_Runs.mono_l:∀ k,(∀ y0 y1 y2,LeO (bitmap_Runs.j0 k y0 y1 y2) (bitmap_Runs.j0 (k+1) y0 y1 y2))∧(∀ y0 y1 y2,LeO (bitmap_Runs.j1 k y0 y1 y2) (bitmap_Runs.j1 (k+1) y0 y1 y2))∧(∀ y0 y1 y2 y3,LeO (bitmap_Runs.l0 k y0 y1 y2 y3) (bitmap_Runs.l0 (k+1) y0 y1 y2 y3))∧(∀ y0 y1 y2 y3 y4,LeO (bitmap_Runs.l1 k y0 y1 y2 y3 y4) (bitmap_Runs.l1 (k+1) y0 y1 y2 y3 y4))∧(∀ y0 y1 y2 y3 y4 y5,LeO (bitmap_Runs.j5 k y0 y1 y2 y3 y4 y5) (bitmap_Runs.j5 (k+1) y0 y1 y2 y3 y4 y5))∧(∀ y0 y1 y2 y3 y4 y5,LeO (bitmap_Runs.l2 k y0 y1 y2 y3 y4 y5) (bitmap_Runs.l2 (k+1) y0 y1 y2 y3 y4 y5))
 | 0=>⟨fun _ _ _ r h=>by simp [bitmap_Runs.j0] at h,fun _ _ _ r h=>by simp [bitmap_Runs.j1] at h,fun _ _ _ _ r h=>by simp [bitmap_Runs.l0] at h,fun _ _ _ _ _ r h=>by simp [bitmap_Runs.l1] at h,fun _ _ _ _ _ _ r h=>by simp [bitmap_Runs.j5] at h,fun _ _ _ _ _ _ r h=>by simp [bitmap_Runs.l2] at h⟩
 | k+1=>by
  obtain ⟨ih0,ih1,ih2,ih3,ih4,ih5⟩:=bitmap_Runs.mono_l k
  refine ⟨?_,?_,?_,?_,?_,?_⟩
  · intro y0 y1 y2
    unfold bitmap_Runs.j0
    repeat' first
    | (with_reducible exact ih0 _ _ _)
    | (with_reducible exact ih1 _ _ _)
    | (with_reducible exact ih2 _ _ _ _)
    | (with_reducible exact ih3 _ _ _ _ _)
    | (with_reducible exact ih4 _ _ _ _ _ _)
    | (with_reducible exact ih5 _ _ _ _ _ _)
    | (with_reducible exact slices_ContainsFunc_int_int__49.mono _ _)
    | (with_reducible exact LeO.refl _)
    | (with_reducible exact LeO.none _)
    | (with_reducible refine LeO.ite ?_ ?_)
    | (with_reducible refine LeO.bind ?_ (fun _=>?_))
    | exact LeO.none _
    | refine LeO.ite ?_ ?_
    | refine LeO.bind ?_ (fun _=>?_)
  · intro y0 y1 y2
    unfold bitmap_Runs.j1
    repeat' first
    | (with_reducible exact ih0 _ _ _)
    | (with_reducible exact ih1 _ _ _)
    | (with_reducible exact ih2 _ _ _ _)
    | (with_reducible exact ih3 _ _ _ _ _)
    | (with_reducible exact ih4 _ _ _ _ _ _)
    | (with_reducible exact ih5 _ _ _ _ _ _)
    | (with_reducible exact slices_ContainsFunc_int_int__49.mono _ _)
    | (with_reducible exact LeO.refl _)
    | (with_reducible exact LeO.none _)
    | (with_reducible refine LeO.ite ?_ ?_)
    | (with_reducible refine LeO.bind ?_ (fun _=>?_))
    | exact LeO.none _
    | refine LeO.ite ?_ ?_
    | refine LeO.bind ?_ (fun _=>?_)
  · intro y0 y1 y2 y3
    unfold bitmap_Runs.l0
    repeat' first
    | (with_reducible exact ih0 _ _ _)
    | (with_reducible exact ih1 _ _ _)
    | (with_reducible exact ih2 _ _ _ _)
    | (with_reducible exact ih3 _ _ _ _ _)
    | (with_reducible exact ih4 _ _ _ _ _ _)
    | (with_reducible exact ih5 _ _ _ _ _ _)
    | (with_reducible exact slices_ContainsFunc_int_int__49.mono _ _)
    | (with_reducible exact LeO.refl _)
    | (with_reducible exact LeO.none _)
    | (with_reducible refine LeO.ite ?_ ?_)
    | (with_reducible refine LeO.bind ?_ (fun _=>?_))
    | exact LeO.none _
    | refine LeO.ite ?_ ?_
    | refine LeO.bind ?_ (fun _=>?_)
  · intro y0 y1 y2 y3 y4
    unfold bitmap_Runs.l1
    repeat' first
    | (with_reducible exact ih0 _ _ _)
    | (with_reducible exact ih1 _ _ _)
    | (with_reducible exact ih2 _ _ _ _)
    | (with_reducible exact ih3 _ _ _ _ _)
    | (with_reducible exact ih4 _ _ _ _ _ _)
    | (with_reducible exact ih5 _ _ _ _ _ _)
    | (with_reducible exact slices_ContainsFunc_int_int__49.mono _ _)
    | (with_reducible exact LeO.refl _)
    | (with_reducible exact LeO.none _)
    | (with_reducible refine LeO.ite ?_ ?_)
    | (with_reducible refine LeO.bind ?_ (fun _=>?_))
    | exact LeO.none _
    | refine LeO.ite ?_ ?_
    | refine LeO.bind ?_ (fun _=>?_)
  · intro y0 y1 y2 y3 y4 y5
    unfold bitmap_Runs.j5
    repeat' first
    | (with_reducible exact ih0 _ _ _)
    | (with_reducible exact ih1 _ _ _)
    | (with_reducible exact ih2 _ _ _ _)
    | (with_reducible exact ih3 _ _ _ _ _)
    | (with_reducible exact ih4 _ _ _ _ _ _)
    | (with_reducible exact ih5 _ _ _ _ _ _)
    | (with_reducible exact slices_ContainsFunc_int_int__49.mono _ _)
    | (with_reducible exact LeO.refl _)
    | (with_reducible exact LeO.none _)
    | (with_reducible refine LeO.ite ?_ ?_)
    | (with_reducible refine LeO.bind ?_ (fun _=>?_))
    | exact LeO.none _
    | refine LeO.ite ?_ ?_
    | refine LeO.bind ?_ (fun _=>?_)
  intro y0 y1 y2 y3 y4 y5
  unfold bitmap_Runs.l2
  repeat' first
  | (with_reducible exact ih0 _ _ _)
  | (with_reducible exact ih1 _ _ _)
  | (with_reducible exact ih2 _ _ _ _)
  | (with_reducible exact ih3 _ _ _ _ _)
  | (with_reducible exact ih4 _ _ _ _ _ _)
  | (with_reducible exact ih5 _ _ _ _ _ _)
  | (with_reducible exact slices_ContainsFunc_int_int__49.mono _ _)
  | (with_reducible exact LeO.refl _)
  | (with_reducible exact LeO.none _)
  | (with_reducible refine LeO.ite ?_ ?_)
  | (with_reducible refine LeO.bind ?_ (fun _=>?_))
  | exact LeO.none _
  | refine LeO.ite ?_ ?_
  | refine LeO.bind ?_ (fun _=>?_)
theorem bitmap_Runs.mono:∀ a0 a1 k,LeO (bitmap_Runs.f k a0 a1) (bitmap_Runs.f (k+1) a0 a1):=by
 intro a0 a1 k
 obtain ⟨ih0,ih1,ih2,ih3,ih4,ih5⟩:=bitmap_Runs.mono_l k
 unfold bitmap_Runs.f
 repeat' first
  | (with_reducible exact ih0 _ _ _)
  | (with_reducible exact ih1 _ _ _)
  | (with_reducible exact ih2 _ _ _ _)
  | (with_reducible exact ih3 _ _ _ _ _)
  | (with_reducible exact ih4 _ _ _ _ _ _)
  | (with_reducible exact ih5 _ _ _ _ _ _)
  | (with_reducible exact slices_ContainsFunc_int_int__49.mono _ _)
  | (with_reducible exact LeO.refl _)
  | (with_reducible exact LeO.none _)
  | (with_reducible refine LeO.ite ?_ ?_)
  | (with_reducible refine LeO.bind ?_ (fun _=>?_))
  | exact LeO.none _
  | refine LeO.ite ?_ ?_
  | refine LeO.bind ?_ (fun _=>?_)
set_option maxHeartbeats 8000000 in
set_option maxRecDepth 100000 in
theorem bitmap_Runs.calls (k:Nat) (P0_:Nat→Prop) (A0:Option Addr) (c0:Nat) (l0:List Int) (a1:Int) (r1:List Int) (r2:Int) (w:World) (hs0:Kd.V (Kd.int .i64) 3 w w.heap.size (fun k_=>P0_ k_) (.slice A0 l0.length c0) l0) (h:bitmap_Runs.f k l0 a1=some (r1,r2)) :
 Calls Try.prog 11 #[.slice A0 l0.length c0,.int .i64 a1] w fun e w'=>∃ v0_:Value,e=.returned (.tuple #[v0_,.int .i64 r2])∧Kd.R (Kd.int .u8) 5 w' w.heap.size (fun k_=>(w.heap.size≤k_)) v0_ r1∧Below w.heap.size w w':=by
 have HO0:=Aside0.mk (show Kd.V (Kd.int .i64) 3 w w.heap.size (fun k_=>(P0_ k_∨w.heap.size≤k_)) (.slice A0 l0.length c0) l0 from Kd.V_mono hs0 (fun k_ hk=>.inl hk));have HB:=Aside0.mk (Below.refl w.heap.size w)
 have H:((bitmap_within.f a1 1 64).bind fun t104=>(if t104=true then ((slices_ContainsFunc_int_int__49.f k l0).bind fun t105=>(bitmap_Runs.j0 k l0 a1 t105)) else (bitmap_Runs.j0 k l0 a1 true)))=some (r1,r2):=h;clear h
 have HC3:=Aside0.mk H;clear H
 go_enter Try.func11,Try.ntmps11
 go_upto_region 1 with (fail)
 repeat (go_quiet (fail);go_upto_region 1 with (fail))
 go_cut [17] (fun v17 wc=>∃ (kq:Nat) (x17_2:Bool),v17=.bool x17_2∧Aside0 (bitmap_Runs.j0 kq l0 a1 x17_2=some (r1,r2))∧Aside0 (kq≤k)∧Aside0 (Kd.V (Kd.int .i64) 3 wc w.heap.size (fun k_=>(P0_ k_∨w.heap.size≤k_)) (.slice A0 l0.length c0) l0)∧Aside0 (Below w.heap.size w wc))
 case first =>
  have H:=HC3.out;clear HC3
  replace H:=Option.bind_eq_some_iff.mp H
  obtain ⟨t104,A40,H⟩:=H
  replace H:(if t104=true then ((slices_ContainsFunc_int_int__49.f k l0).bind fun t105=>(bitmap_Runs.j0 k l0 a1 t105)) else (bitmap_Runs.j0 k l0 a1 true))=some (r1,r2):=H
  have A4:=Aside0.mk A40;clear A40
  by_cases c5:t104=true
  · subst c5
    have H1:((slices_ContainsFunc_int_int__49.f k l0).bind fun t105=>(bitmap_Runs.j0 k l0 a1 t105))=some (r1,r2):=by rw [if_pos rfl] at H;exact H
    clear H
    have H:=H1;clear H1
    replace H:=Option.bind_eq_some_iff.mp H
    obtain ⟨t105,A60,H⟩:=H
    replace H:(bitmap_Runs.j0 k l0 a1 t105)=some (r1,r2):=H
    have A6:=Aside0.mk A60;clear A60
    have H':=Aside0.mk H;clear H
    go_wp2_with (first|(go_at_call 47;(with_reducible refine (bitmap_within.calls a1 1 64 true _ A4.out).mono ?_);rintro e w' ⟨rfl,⟨nd,rfl⟩⟩;(try first|exact ⟨rfl,_,World.drewN_drewN _ _ _⟩|exact ⟨rfl,_,Eq.trans (World.drewN_drewN _ _ _) (congrArg (World.drewN _) (Nat.add_assoc _ _ _))⟩))|(go_at_call 48;(with_reducible refine (slices_ContainsFunc_int_int__49.calls k _ _ l0  t105 _ ?side1 ?side2 A6.out).mono ?_);(case side1=>exact cV (Kd.V_reads' HO0.out).2.2);(case side2=>exact (Kd.V_reads' HO0.out).2.1);rintro e w' ⟨rfl,⟨nd,rfl⟩⟩;(try first|exact ⟨rfl,_,World.drewN_drewN _ _ _⟩|exact ⟨rfl,_,Eq.trans (World.drewN_drewN _ _ _) (congrArg (World.drewN _) (Nat.add_assoc _ _ _))⟩)))
    repeat (go_quiet (first|(go_at_call 47;(with_reducible refine (bitmap_within.calls a1 1 64 true _ A4.out).mono ?_);rintro e w' ⟨rfl,⟨nd,rfl⟩⟩;(try first|exact ⟨rfl,_,World.drewN_drewN _ _ _⟩|exact ⟨rfl,_,Eq.trans (World.drewN_drewN _ _ _) (congrArg (World.drewN _) (Nat.add_assoc _ _ _))⟩))|(go_at_call 48;(with_reducible refine (slices_ContainsFunc_int_int__49.calls k _ _ l0  t105 _ ?side1 ?side2 A6.out).mono ?_);(case side1=>exact cV (Kd.V_reads' HO0.out).2.2);(case side2=>exact (Kd.V_reads' HO0.out).2.1);rintro e w' ⟨rfl,⟨nd,rfl⟩⟩;(try first|exact ⟨rfl,_,World.drewN_drewN _ _ _⟩|exact ⟨rfl,_,Eq.trans (World.drewN_drewN _ _ _) (congrArg (World.drewN _) (Nat.add_assoc _ _ _))⟩)));try go_wp2_with (first|(go_at_call 47;(with_reducible refine (bitmap_within.calls a1 1 64 true _ A4.out).mono ?_);rintro e w' ⟨rfl,⟨nd,rfl⟩⟩;(try first|exact ⟨rfl,_,World.drewN_drewN _ _ _⟩|exact ⟨rfl,_,Eq.trans (World.drewN_drewN _ _ _) (congrArg (World.drewN _) (Nat.add_assoc _ _ _))⟩))|(go_at_call 48;(with_reducible refine (slices_ContainsFunc_int_int__49.calls k _ _ l0  t105 _ ?side1 ?side2 A6.out).mono ?_);(case side1=>exact cV (Kd.V_reads' HO0.out).2.2);(case side2=>exact (Kd.V_reads' HO0.out).2.1);rintro e w' ⟨rfl,⟨nd,rfl⟩⟩;(try first|exact ⟨rfl,_,World.drewN_drewN _ _ _⟩|exact ⟨rfl,_,Eq.trans (World.drewN_drewN _ _ _) (congrArg (World.drewN _) (Nat.add_assoc _ _ _))⟩))))
    go_meet
    case rel=>exact ⟨_,(t105),okV,H',⟨by first|omega|exact Nat.le_refl _⟩,⟨by (with_reducible repeat (first|apply Kd.V_alloc|apply Kd.V_drewN|apply Kd.V_drew));exact HO0.out⟩,⟨belV HB.out⟩⟩
  replace c5:=Bool.eq_false_iff.mpr c5;subst c5
  have H1:(bitmap_Runs.j0 k l0 a1 true)=some (r1,r2):=by rw [if_neg (show ¬ (false=true) by decide)] at H;exact H
  clear H
  have H:=H1;clear H1
  have H':=Aside0.mk H;clear H
  go_wp2_with (first|(go_at_call 47;(with_reducible refine (bitmap_within.calls a1 1 64 false _ A4.out).mono ?_);rintro e w' ⟨rfl,⟨nd,rfl⟩⟩;(try first|exact ⟨rfl,_,World.drewN_drewN _ _ _⟩|exact ⟨rfl,_,Eq.trans (World.drewN_drewN _ _ _) (congrArg (World.drewN _) (Nat.add_assoc _ _ _))⟩)))
  repeat (go_quiet (first|(go_at_call 47;(with_reducible refine (bitmap_within.calls a1 1 64 false _ A4.out).mono ?_);rintro e w' ⟨rfl,⟨nd,rfl⟩⟩;(try first|exact ⟨rfl,_,World.drewN_drewN _ _ _⟩|exact ⟨rfl,_,Eq.trans (World.drewN_drewN _ _ _) (congrArg (World.drewN _) (Nat.add_assoc _ _ _))⟩)));try go_wp2_with (first|(go_at_call 47;(with_reducible refine (bitmap_within.calls a1 1 64 false _ A4.out).mono ?_);rintro e w' ⟨rfl,⟨nd,rfl⟩⟩;(try first|exact ⟨rfl,_,World.drewN_drewN _ _ _⟩|exact ⟨rfl,_,Eq.trans (World.drewN_drewN _ _ _) (congrArg (World.drewN _) (Nat.add_assoc _ _ _))⟩))))
  go_meet
  case rel=>exact ⟨_,(true),okV,H',⟨by first|omega|exact Nat.le_refl _⟩,⟨by (with_reducible repeat (first|apply Kd.V_alloc|apply Kd.V_drewN|apply Kd.V_drew));exact HO0.out⟩,⟨belV HB.out⟩⟩
 case rest =>
  clear HC3
  try clear c1;try clear p2;try clear c5
  obtain ⟨kq,x17_2,rfl,HA,HJ2,HO_0,HB⟩:=hcut
  cases kq with
  | zero=>exact absurd HA.out (by simp [bitmap_Runs.j0])
  | succ kj2 =>
   have H:=HA.out;clear HA
   simp only [bitmap_Runs.j0] at H
   by_cases c7:x17_2=true
   · subst c7
     have H1:(some (([]:List Int),1))=some (r1,r2):=by rw [if_pos rfl] at H;exact H
     clear H
     have H:=H1;clear H1
     simp only [Option.some.injEq,Prod.mk.injEq] at H
     obtain ⟨rfl,rfl⟩:=H
     go_wp2
     repeat (go_quiet (fail);try go_wp2)
     go_ret2
     exact ⟨_,by first|rfl|(simp [errW_none,errW_some] <;> rfl)|(simp [*,errW_none,errW_some] <;> rfl),by first|exact Kd.R_nil _ _ _ _ _|exact Kd.N_nil _ _ _ _ _|exact Kd.V_nil _ _ _ _ _|exact Kd.Q_nil _ _ _ _ _|exact Kd.S_nil _ _ _ _ _,by repeat (first|(with_reducible first|exact HB.out|apply below_alloc|apply pw_below_drewN|apply below_drew1)|exact HB.out)⟩
   replace c7:=Bool.eq_false_iff.mpr c7;subst c7
   have H1:(if (l0.length:Int)=0 then (bitmap_Runs.j1 kj2 l0 a1 true) else (if a1=0 then (none) else (if ((l0.length:Int) % a1)=0 then (bitmap_Runs.j1 kj2 l0 a1 (decide ((wrap64 ((l0.length:Int) / a1)) > 64))) else (bitmap_Runs.j1 kj2 l0 a1 true))))=some (r1,r2):=by rw [if_neg (show ¬ (false=true) by decide)] at H;exact H
   clear H
   have H:=H1;clear H1
   have HC8:=Aside0.mk H;clear H
   go_upto_region 3 with (fail)
   repeat (go_quiet (fail);go_upto_region 3 with (fail))
   go_cut [34] (fun v34 wc=>∃ (kq:Nat) (x34_7:Bool),v34=.bool x34_7∧Aside0 (bitmap_Runs.j1 kq l0 a1 x34_7=some (r1,r2))∧Aside0 (kq≤kj2)∧Aside0 (Kd.V (Kd.int .i64) 3 wc w.heap.size (fun k_=>(P0_ k_∨w.heap.size≤k_)) (.slice A0 l0.length c0) l0)∧Aside0 (Below w.heap.size w wc))
   case first =>
    have H:=HC8.out;clear HC8
    by_cases c9:(l0.length:Int)=0
    · rw [if_pos c9] at H
      have c9b0:((l0.length:Int) == 0)=true:=beq_iff_eq.mpr c9
      have c9b1:((l0.length:Int) != 0)=false:=bne_eq_false_iff_eq.mpr c9;clear c9
      (first|rw [c9b0]|(simp only [i64_w,i32_w];rw [c9b0])|rw [c9b1]|skip)
      have H':=Aside0.mk H;clear H
      go_wp2
      repeat (go_quiet (fail);try go_wp2)
      go_meet
      case rel=>exact ⟨_,(true),okV,H',⟨by have:=HJ2.out;first|omega|exact Nat.le_refl _⟩,⟨by (with_reducible repeat (first|apply Kd.V_alloc|apply Kd.V_drewN|apply Kd.V_drew));exact HO_0.out⟩,⟨belV HB.out⟩⟩
    rw [if_neg c9] at H
    have c9b0:((l0.length:Int) == 0)=false:=beq_eq_false_iff_ne.mpr c9
    have c9b1:((l0.length:Int) != 0)=true:=bne_iff_ne.mpr c9
    have c9b2:¬ (l0=[]):=fun h_=>c9 (by rw [h_];rfl)
    (first|rw [c9b0]|(simp only [i64_w,i32_w];rw [c9b0])|rw [c9b1]|skip)
    by_cases c10:a1=0
    · rw [if_pos c10] at H
      exact absurd H (by simp)
    rw [if_neg c10] at H
    have c10b0:(a1 == 0)=false:=beq_eq_false_iff_ne.mpr c10
    have c10b1:(a1 != 0)=true:=bne_iff_ne.mpr c10
    by_cases c11:((l0.length:Int) % a1)=0
    · rw [if_pos c11] at H
      have c11b0:(((l0.length:Int) % a1) == 0)=true:=beq_iff_eq.mpr c11
      have c11b1:(((l0.length:Int) % a1) != 0)=false:=bne_eq_false_iff_eq.mpr c11;clear c11
      have H':=Aside0.mk H;clear H
      go_wp2
      repeat (go_quiet (fail);try go_wp2)
      go_meet
      case rel=>exact ⟨_,(decide ((wrap64 ((l0.length:Int) / a1)) > 64)),okV,H',⟨by have:=HJ2.out;first|omega|exact Nat.le_refl _⟩,⟨by (with_reducible repeat (first|apply Kd.V_alloc|apply Kd.V_drewN|apply Kd.V_drew));exact HO_0.out⟩,⟨belV HB.out⟩⟩
    rw [if_neg c11] at H
    have c11b0:(((l0.length:Int) % a1) == 0)=false:=beq_eq_false_iff_ne.mpr c11
    have c11b1:(((l0.length:Int) % a1) != 0)=true:=bne_iff_ne.mpr c11
    have H':=Aside0.mk H;clear H
    go_wp2
    repeat (go_quiet (fail);try go_wp2)
    go_meet
    case rel=>exact ⟨_,(true),okV,H',⟨by have:=HJ2.out;first|omega|exact Nat.le_refl _⟩,⟨by (with_reducible repeat (first|apply Kd.V_alloc|apply Kd.V_drewN|apply Kd.V_drew));exact HO_0.out⟩,⟨belV HB.out⟩⟩
   case rest =>
    clear HC8
    try clear c1;try clear p2 p2;try clear c5;try clear p6;try clear c7;try clear c9;try clear c9b0;try clear c9b1;try clear c9b2;try clear c10;try clear c10b0;try clear c10b1;try clear c11;try clear c11b0;try clear c11b1
    obtain ⟨kq,x34_7,rfl,HA,HJ7,HO_0,HB⟩:=hcut
    cases kq with
    | zero=>exact absurd HA.out (by simp [bitmap_Runs.j1])
    | succ kj7 =>
     have H:=HA.out;clear HA
     simp only [bitmap_Runs.j1] at H
     by_cases c12:x34_7=true
     · subst c12
       have H1:(some (([]:List Int),4))=some (r1,r2):=by rw [if_pos rfl] at H;exact H
       clear H
       have H:=H1;clear H1
       simp only [Option.some.injEq,Prod.mk.injEq] at H
       obtain ⟨rfl,rfl⟩:=H
       go_wp2
       repeat (go_quiet (fail);try go_wp2)
       go_ret2
       exact ⟨_,by first|rfl|(simp [errW_none,errW_some] <;> rfl)|(simp [*,errW_none,errW_some] <;> rfl),by first|exact Kd.R_nil _ _ _ _ _|exact Kd.N_nil _ _ _ _ _|exact Kd.V_nil _ _ _ _ _|exact Kd.Q_nil _ _ _ _ _|exact Kd.S_nil _ _ _ _ _,by repeat (first|(with_reducible first|exact HB.out|apply below_alloc|apply pw_below_drewN|apply below_drew1)|exact HB.out)⟩
     replace c12:=Bool.eq_false_iff.mpr c12;subst c12
     have H1:(bitmap_Runs.l0 kj7 l0 a1 ([]:List Int) 0)=some (r1,r2):=by rw [if_neg (show ¬ (false=true) by decide)] at H;exact H
     clear H
     have H:=H1;clear H1
     have H':=Aside0.mk H;clear H
     go_wp2
     repeat (go_quiet (fail);try go_wp2)
     go_loopg [6,7] kj7 (fun kq v6 v7 w'=>∃ (x6_3:List Int) (x7_3:Int),v7=.int .i64 x7_3∧Aside0 (bitmap_Runs.l0 kq l0 a1 x6_3 x7_3=some (r1,r2))∧Aside0 (kq≤kj7)∧Aside0 (Kd.V (Kd.int .i64) 3 w' w.heap.size (fun k_=>(P0_ k_∨w.heap.size≤k_)∧some k_≠(v6:Value).ownBlock) (.slice A0 l0.length c0) l0)∧Aside0 (Kd.R (Kd.int .u8) 5 w' w.heap.size (fun k_=>(w.heap.size≤k_)) v6 x6_3)∧Aside0 (Below w.heap.size w w'))
     case atStart=>exact ⟨(([]:List Int)),(0),okV,H',⟨Nat.le_refl _⟩,⟨by (with_reducible repeat (first|apply Kd.V_alloc|apply Kd.V_drewN|apply Kd.V_drew));exact Kd.V_mono HO_0.out (fun _ hk=>⟨hk,(by simp [Value.ownBlock])⟩)⟩,⟨by first|exact Kd.R_nil _ _ _ _ _|exact Kd.N_nil _ _ _ _ _|exact Kd.V_nil _ _ _ _ _|exact Kd.Q_nil _ _ _ _ _|exact Kd.S_nil _ _ _ _ _⟩,⟨belV HB.out⟩⟩
     case round =>
      clear H'
      try clear c1;try clear p2 p2;try clear c5;try clear p6 p6;try clear c7;try clear c9;try clear c9b0;try clear c9b1;try clear c9b2;try clear c10;try clear c10b0;try clear c10b1;try clear c11;try clear c11b0;try clear c11b1;try clear c12
      obtain ⟨x6_3,x7_3,rfl,HA,HK3,HO_0,HO_6,HB⟩:=hrel
      cases gk with
      | zero=>exact absurd HA.out (by simp [bitmap_Runs.l0])
      | succ k3 =>
       have H:=HA.out;clear HA
       simp only [bitmap_Runs.l0] at H
       by_cases c13:x7_3 < (l0.length:Int)
       · rw [if_pos c13] at H
         have c13b0:decide (x7_3 < (l0.length:Int))=true:=decide_eq_true c13;clear c13
         by_cases c14:0≤x7_3
         · rw [if_pos c14] at H
           have c14b0:=eq_true c14
           have c14b1:decide (0≤x7_3)=true:=decide_eq_true c14;clear c14
           by_cases c15:x7_3≤(wrap64 (x7_3+a1))
           · rw [if_pos c15] at H
             have c15b0:=eq_true c15
             have c15b1:decide (x7_3≤(wrap64 (x7_3+a1)))=true:=decide_eq_true c15
             by_cases c16:(wrap64 (x7_3+a1))≤(l0.length:Int)
             · rw [if_pos c16] at H
               have c16b0:=eq_true c16
               have c16b1:decide ((wrap64 (x7_3+a1))≤(l0.length:Int))=true:=decide_eq_true c16
               obtain ⟨y106,hy106⟩:∃ y_:List Int,y_=((l0.take ((wrap64 (x7_3+a1)):Int).toNat).drop (x7_3:Int).toNat):=⟨_,rfl⟩
               replace H:(bitmap_Runs.l1 k3 l0 a1 x6_3 x7_3 y106)=some (r1,r2):=by first|(rw [hy106];with_reducible exact H)|(have H2_:=(Option.bind_some _ _).symm.trans H;rw [hy106];with_reducible exact H2_)|(have H2_:=(Option.bind_some _ _).symm.trans H;with_reducible exact H2_)|with_reducible exact H|(rw [hy106];exact H)|exact H
               have Ny106:=Aside0.mk hy106;clear hy106
               have H':=Aside0.mk H;clear H
               have q17:((wrap64 (x7_3+a1)):Int)≤((l0.length:Int):Int):=of_decide_eq_true asV
               obtain ⟨i017,hi017,_,hsz17,_⟩:=info_parts info3
               have hroom17:l0.length≤c0:=(Kd.V_reads' HO_0.out).2.1
               have hC17:Kd.F (Kd.int .i64) _ _ A0 l0.length l0:=(Kd.V_at (base:=w.heap.size) HO_0.out).2.2
               have ql17:(x7_3:Int)≤((wrap64 (x7_3+a1)):Int):=of_decide_eq_true asV
               have q017:(0:Int)≤(x7_3:Int):=of_decide_eq_true asV
               obtain ⟨c17,hc17⟩:∃ c1,c1=((wrap64 (x7_3+a1)):Int).toNat - (x7_3:Int).toNat:=⟨_,rfl⟩
               have hcut17:=cut_mid3 (P:=Try.prog) 22 3 .i64 .i64 .i64 Try.underlying22 hi017 1 hsz17 A0 l0.length c0 x7_3 (wrap64 (x7_3+a1)) q017 ql17 q17 hroom17 c17 hc17
               have hr17:=Kd.F_mid3 (lo:=(x7_3:Int).toNat) (hi:=((wrap64 (x7_3+a1)):Int).toNat) hC17 (by omega) (by omega)
               obtain ⟨A17,hA17⟩:∃ A1,A1=(if ((wrap64 (x7_3+a1)):Int).toNat=(x7_3:Int).toNat then A0 else (A0:Option Addr).map (·.add ((x7_3:Int).toNat*1))):=⟨_,rfl⟩
               have hy17:y106.length=((wrap64 (x7_3+a1)):Int).toNat - (x7_3:Int).toNat:=(by rw [Ny106.out,List.length_drop,List.length_take] <;> omega)
               rw [show ((l0).take ((wrap64 (x7_3+a1)):Int).toNat).drop (x7_3:Int).toNat=y106 from Ny106.out.symm] at hr17
               replace hr17:Kd.F (Kd.int .i64) _ _ A17 y106.length y106:=(by rw [hA17];exact hr17)
               rw [← hy17,← hA17] at hcut17
               have HO110:=Aside0.mk (show Kd.V (Kd.int .i64) 3 _ w.heap.size _ (.slice A17 y106.length c17) y106 from Kd.V_mk (by rw [hy17,hc17];exact Nat.le_refl _) hr17)
               have HC110:=Aside0.mk (show y106.length≤c17 from by rw [hy17,hc17];exact Nat.le_refl _);clear hr17 hC17 hroom17 hi017 hsz17 hc17
               have KY17:=Aside0.mk hy17
               have KA17:=Aside0.mk hA17;clear hy17 hA17
               replace q17:=eq_true q17
               go_wp2
               repeat (go_quiet (fail);try go_wp2)
               go_loopg [6,8] k3 (fun kq v6 v8 w'=>∃ (x6_4:List Int) (x8_4:List Int),Aside0 (bitmap_Runs.l1 kq l0 a1 x6_4 x7_3 x8_4=some (r1,r2))∧Aside0 (kq≤k3)∧Aside0 (Kd.V (Kd.int .i64) 3 w' w.heap.size (fun k_=>(P0_ k_∨w.heap.size≤k_)∧some k_≠(v6:Value).ownBlock) (.slice A0 l0.length c0) l0)∧Aside0 (Kd.R (Kd.int .u8) 5 w' w.heap.size (fun k_=>(w.heap.size≤k_)) v6 x6_4)∧Aside0 (Kd.V (Kd.int .i64) 3 w' w.heap.size (fun k_=>(P0_ k_∨w.heap.size≤k_)∧some k_≠(v6:Value).ownBlock) v8 x8_4)∧Aside0 (Below w.heap.size w w'))
               case atStart=>exact ⟨(x6_3),(y106),H',⟨Nat.le_refl _⟩,⟨by (with_reducible repeat (first|apply Kd.V_alloc|apply Kd.V_drewN|apply Kd.V_drew));exact HO_0.out⟩,⟨rowV HO_6.out⟩,⟨by (with_reducible repeat (first|apply Kd.V_alloc|apply Kd.V_drewN|apply Kd.V_drew));exact HO110.out⟩,⟨belV HB.out⟩⟩
               case round =>
                clear H'
                try clear c1;try clear q1;try clear p2 p2;try clear c5;try clear p6 p6;try clear c7;try clear c9;try clear c9b0;try clear c9b1;try clear c9b2;try clear c10;try clear c10b0;try clear c10b1;try clear c11;try clear c11b0;try clear c11b1;try clear c12;try clear c13;try clear c13b0;try clear c14;try clear c14b0;try clear c14b1;try clear c15;try clear c15b0;try clear c15b1;try clear c16;try clear c16b0;try clear c16b1;try clear c17;try clear q17 q17;try clear q017
                obtain ⟨x6_4,x8_4,HA,HK4,HO_0,HO_6,HO_8,HB⟩:=hrel
                cases gk with
                | zero=>exact absurd HA.out (by simp [bitmap_Runs.l1])
                | succ k4 =>
                 have H:=HA.out;clear HA
                 simp only [bitmap_Runs.l1] at H
                 by_cases c18:(x8_4.length:Int) > 0
                 · rw [if_pos c18] at H
                   have c18b0:decide (0 < (x8_4.length:Int))=true:=decide_eq_true c18
                   have c18b1:decide (0 < x8_4.length)=true:=decide_eq_true (by omega);clear c18
                   have HC19:=Aside0.mk H;clear H
                   obtain ⟨Ao20,co20,eo20⟩:=Kd.V_slice HO_8.out;subst eo20
                   go_upto_block 4 with (fail)
                   repeat (go_quiet (fail);go_upto_block 4 with (fail))
                   go_cut [9] (fun v9 wc=>∃ (kq:Nat) (x9_18:Int),v9=.int .i64 x9_18∧Aside0 (bitmap_Runs.j5 kq l0 a1 x6_4 x7_3 x8_4 x9_18=some (r1,r2))∧Aside0 (kq≤k4)∧Aside0 (Kd.V (Kd.int .i64) 3 wc w.heap.size (fun k_=>(P0_ k_∨w.heap.size≤k_)∧some k_≠(u6:Value).ownBlock) (.slice A0 l0.length c0) l0)∧Aside0 (Kd.R (Kd.int .u8) 5 wc w.heap.size (fun k_=>(w.heap.size≤k_)) u6 x6_4)∧Aside0 (Kd.V (Kd.int .i64) 3 wc w.heap.size (fun k_=>(P0_ k_∨w.heap.size≤k_)∧some k_≠(u6:Value).ownBlock) (.slice Ao20 x8_4.length co20) x8_4)∧Aside0 (Below w.heap.size w wc))
                   case first =>
                    have H:=HC19.out;clear HC19
                    have H':=Aside0.mk H;clear H
                    go_wp2
                    repeat (go_quiet (fail);try go_wp2)
                    go_loopg [9] k4 (fun kq v9 w'=>∃ (x9_5:Int),v9=.int .i64 x9_5∧Aside0 (bitmap_Runs.l2 kq l0 a1 x6_4 x7_3 x8_4 x9_5=some (r1,r2))∧Aside0 (kq≤k4)∧Aside0 (Kd.V (Kd.int .i64) 3 w' w.heap.size (fun k_=>(P0_ k_∨w.heap.size≤k_)∧some k_≠(u6:Value).ownBlock) (.slice A0 l0.length c0) l0)∧Aside0 (Kd.R (Kd.int .u8) 5 w' w.heap.size (fun k_=>(w.heap.size≤k_)) u6 x6_4)∧Aside0 (Kd.V (Kd.int .i64) 3 w' w.heap.size (fun k_=>(P0_ k_∨w.heap.size≤k_)∧some k_≠(u6:Value).ownBlock) (.slice Ao20 x8_4.length co20) x8_4)∧Aside0 (Below w.heap.size w w'))
                    case atStart=>exact ⟨(1),okV,H',⟨Nat.le_refl _⟩,⟨by (with_reducible repeat (first|apply Kd.V_alloc|apply Kd.V_drewN|apply Kd.V_drew));exact HO_0.out⟩,⟨rowV HO_6.out⟩,⟨by (with_reducible repeat (first|apply Kd.V_alloc|apply Kd.V_drewN|apply Kd.V_drew));exact HO_8.out⟩,⟨belV HB.out⟩⟩
                    case round =>
                     clear H'
                     try clear c1;try clear q1 q1;try clear p2 p2;try clear c5;try clear p6 p6;try clear c7;try clear c9;try clear c9b0;try clear c9b1;try clear c9b2;try clear c10;try clear c10b0;try clear c10b1;try clear c11;try clear c11b0;try clear c11b1;try clear c12;try clear c13;try clear c13b0;try clear c14;try clear c14b0;try clear c14b1;try clear c15;try clear c15b0;try clear c15b1;try clear c16;try clear c16b0;try clear c16b1;try clear c17;try clear q17 q17;try clear c18;try clear c18b0;try clear c18b1;try clear q017
                     obtain ⟨x9_5,rfl,HA,HK5,HO_0,HO_6,HO_8,HB⟩:=hrel
                     cases gk with
                     | zero=>exact absurd HA.out (by simp [bitmap_Runs.l2])
                     | succ k5 =>
                      have H:=HA.out;clear HA
                      simp only [bitmap_Runs.l2] at H
                      by_cases c21:x9_5 < (x8_4.length:Int)
                      · rw [if_pos c21] at H
                        have c21b0:decide (x9_5 < (x8_4.length:Int))=true:=decide_eq_true c21;clear c21
                        (first|rw [c21b0]|(simp only [i64_w,i32_w];rw [c21b0])|rw [c21b1]|skip)
                        by_cases c22:0≤x9_5
                        · rw [if_pos c22] at H
                          have c22b0:decide (0≤x9_5)=true:=decide_eq_true c22;clear c22
                          by_cases c23:0 < (x8_4.length:Int)
                          · rw [if_pos c23] at H
                            have c23b0:decide (0 < (x8_4.length:Int))=true:=decide_eq_true c23
                            have c23b1:decide (0 < x8_4.length)=true:=decide_eq_true (by omega);clear c23
                            by_cases c24:(rd x8_4 x9_5)=(rd x8_4 0)
                            · rw [if_pos c24] at H
                              have c24b0:((rd x8_4 x9_5) == (rd x8_4 0))=true:=beq_iff_eq.mpr c24
                              have c24b1:((rd x8_4 x9_5) != (rd x8_4 0))=false:=bne_eq_false_iff_eq.mpr c24;clear c24
                              have H':=Aside0.mk H;clear H
                              have p111:0≤(x9_5:Int):=of_decide_eq_true asV
                              have q111:x9_5 < (x8_4.length:Int):=of_decide_eq_true asV
                              obtain ⟨ad111,e111,hx111_0⟩:=Kd.at_int (Kd.V_reads' HO_8.out).2.2 x9_5 p111 q111
                              cases e111
                              replace p111:=eq_true p111
                              replace q111:=eq_true q111
                              have p112:0≤(0:Int):=(by omega)
                              have q112:0 < (x8_4.length:Int):=of_decide_eq_true asV
                              obtain ⟨ad112,e112,hx112_0⟩:=Kd.at_int (Kd.V_reads' HO_8.out).2.2 0 p112 q112
                              obtain rfl:ad111=ad112:=(by injection e112)
                              have qi112:(0 < x8_4.length)=True:=eq_true (by omega)
                              (try rw [show ((0:Int)).toNat=0 from rfl] at hx112_0)
                              (try rw [Addr.add_zero'] at hx112_0)
                              replace p112:=eq_true p112
                              replace q112:=eq_true q112
                              go_wp2
                              repeat (go_quiet (fail);try go_wp2)
                              go_roundg k5
                              case measure=>have:=HJ2.out;have:=HJ7.out;have:=HK3.out;have:=HK4.out;have:=HK5.out;omega
                              case rel=>exact ⟨(wrap64 (x9_5+1)),okV,H',⟨by have:=HJ2.out;have:=HJ7.out;have:=HK3.out;have:=HK4.out;have:=HK5.out;omega⟩,⟨by (with_reducible repeat (first|apply Kd.V_alloc|apply Kd.V_drewN|apply Kd.V_drew));exact HO_0.out⟩,⟨rowV HO_6.out⟩,⟨by (with_reducible repeat (first|apply Kd.V_alloc|apply Kd.V_drewN|apply Kd.V_drew));exact HO_8.out⟩,⟨belV HB.out⟩⟩
                            rw [if_neg c24] at H
                            have c24b0:((rd x8_4 x9_5) == (rd x8_4 0))=false:=beq_eq_false_iff_ne.mpr c24
                            have c24b1:((rd x8_4 x9_5) != (rd x8_4 0))=true:=bne_iff_ne.mpr c24
                            have H':=Aside0.mk H;clear H
                            have p111:0≤(x9_5:Int):=of_decide_eq_true asV
                            have q111:x9_5 < (x8_4.length:Int):=of_decide_eq_true asV
                            obtain ⟨ad111,e111,hx111_0⟩:=Kd.at_int (Kd.V_reads' HO_8.out).2.2 x9_5 p111 q111
                            cases e111
                            replace p111:=eq_true p111
                            replace q111:=eq_true q111
                            have p112:0≤(0:Int):=(by omega)
                            have q112:0 < (x8_4.length:Int):=of_decide_eq_true asV
                            obtain ⟨ad112,e112,hx112_0⟩:=Kd.at_int (Kd.V_reads' HO_8.out).2.2 0 p112 q112
                            obtain rfl:ad111=ad112:=(by injection e112)
                            have qi112:(0 < x8_4.length)=True:=eq_true (by omega)
                            (try rw [show ((0:Int)).toNat=0 from rfl] at hx112_0)
                            (try rw [Addr.add_zero'] at hx112_0)
                            replace p112:=eq_true p112
                            replace q112:=eq_true q112
                            go_wp2
                            repeat (go_quiet (fail);try go_wp2)
                            go_meet
                            case rel=>exact ⟨_,(x9_5),okV,H',⟨by have:=HJ2.out;have:=HJ7.out;have:=HK3.out;have:=HK4.out;have:=HK5.out;first|omega|exact Nat.le_refl _⟩,⟨by (with_reducible repeat (first|apply Kd.V_alloc|apply Kd.V_drewN|apply Kd.V_drew));exact HO_0.out⟩,⟨rowV HO_6.out⟩,⟨by (with_reducible repeat (first|apply Kd.V_alloc|apply Kd.V_drewN|apply Kd.V_drew));exact HO_8.out⟩,⟨belV HB.out⟩⟩
                          rw [if_neg c23] at H
                          exact absurd H (by simp)
                        rw [if_neg c22] at H
                        exact absurd H (by simp)
                      rw [if_neg c21] at H
                      have c21b0:decide (x9_5 < (x8_4.length:Int))=false:=decide_eq_false c21;clear c21
                      (first|rw [c21b0]|(simp only [i64_w,i32_w];rw [c21b0])|rw [c21b1]|skip)
                      have H':=Aside0.mk H;clear H
                      go_wp2
                      repeat (go_quiet (fail);try go_wp2)
                      go_meet
                      case rel=>exact ⟨_,(x9_5),okV,H',⟨by have:=HJ2.out;have:=HJ7.out;have:=HK3.out;have:=HK4.out;have:=HK5.out;first|omega|exact Nat.le_refl _⟩,⟨by (with_reducible repeat (first|apply Kd.V_alloc|apply Kd.V_drewN|apply Kd.V_drew));exact HO_0.out⟩,⟨rowV HO_6.out⟩,⟨by (with_reducible repeat (first|apply Kd.V_alloc|apply Kd.V_drewN|apply Kd.V_drew));exact HO_8.out⟩,⟨belV HB.out⟩⟩
                   case rest =>
                    clear HC19
                    try clear c1;try clear p1;try clear q1 q1;try clear hx1;try clear qi1;try clear c2;try clear p2 p2;try clear c5;try clear p6 p6;try clear c7;try clear c9;try clear c9b0;try clear c9b1;try clear c9b2;try clear c10;try clear c10b0;try clear c10b1;try clear c11;try clear c11b0;try clear c11b1;try clear p11;try clear q11;try clear hx11;try clear qi11;try clear c12;try clear c13;try clear c13b0;try clear c14;try clear c14b0;try clear c14b1;try clear c15;try clear c15b0;try clear c15b1;try clear c16;try clear c16b0;try clear c16b1;try clear c17;try clear q17 q17;try clear c18;try clear c18b0;try clear c18b1;try clear c21;try clear c21b0;try clear c21b1;try clear c22;try clear c22b0;try clear c23;try clear c23b0;try clear c23b1;try clear c24;try clear c24b0;try clear c24b1;try clear hx111_0;try clear hx112_0;try clear p111;try clear p112;try clear q017;try clear q111;try clear q112
                    obtain ⟨kq,x9_18,rfl,HA,HJ18,HO_0,HO_6,HO_8,HB⟩:=hcut
                    cases kq with
                    | zero=>exact absurd HA.out (by simp [bitmap_Runs.j5])
                    | succ kj18 =>
                     have H:=HA.out;clear HA
                     simp only [bitmap_Runs.j5] at H
                     by_cases c25:0 < (x8_4.length:Int)
                     · rw [if_pos c25] at H
                       have c25b0:decide (0 < (x8_4.length:Int))=true:=decide_eq_true c25
                       have c25b1:decide (0 < x8_4.length)=true:=decide_eq_true (by omega);clear c25
                       by_cases c26:x9_18=(x8_4.length:Int)
                       · rw [if_pos c26] at H
                         have c26b0:(x9_18 == (x8_4.length:Int))=true:=beq_iff_eq.mpr c26
                         have c26b1:(x9_18 != (x8_4.length:Int))=false:=bne_eq_false_iff_eq.mpr c26;clear c26
                         by_cases c27:x6_4.length < 140737488355328
                         · rw [if_pos c27] at H
                           have LMc27:=Aside0.mk c27;clear c27
                           obtain ⟨y114,hy114⟩:∃ y_:List Int,y_=(x6_4 ++ [(wrap64 ((rd x8_4 0)*16)) % 256]):=⟨_,rfl⟩
                           replace H:(if 0≤x9_18 then (if x9_18≤(x8_4.length:Int) then (bitmap_Runs.l1 kj18 l0 a1 y114 x7_3 (x8_4.drop (x9_18:Int).toNat)) else (none)) else (none))=some (r1,r2):=by first|(rw [hy114];with_reducible exact H)|(have H2_:=(Option.bind_some _ _).symm.trans H;rw [hy114];with_reducible exact H2_)|(have H2_:=(Option.bind_some _ _).symm.trans H;with_reducible exact H2_)|with_reducible exact H|(rw [hy114];exact H)|exact H
                           have Ny114:=Aside0.mk hy114;clear hy114
                           by_cases c28:0≤x9_18
                           · rw [if_pos c28] at H
                             have c28b0:=eq_true c28
                             have c28b1:decide (0≤x9_18)=true:=decide_eq_true c28;clear c28
                             by_cases c29:x9_18≤(x8_4.length:Int)
                             · rw [if_pos c29] at H
                               have c29b0:=eq_true c29
                               have c29b1:decide (x9_18≤(x8_4.length:Int))=true:=decide_eq_true c29;clear c29
                               obtain ⟨y117,hy117⟩:∃ y_:List Int,y_=(x8_4.drop (x9_18:Int).toNat):=⟨_,rfl⟩
                               replace H:(bitmap_Runs.l1 kj18 l0 a1 y114 x7_3 y117)=some (r1,r2):=by first|(rw [hy117];with_reducible exact H)|(have H2_:=(Option.bind_some _ _).symm.trans H;rw [hy117];with_reducible exact H2_)|(have H2_:=(Option.bind_some _ _).symm.trans H;with_reducible exact H2_)|with_reducible exact H|(rw [hy117];exact H)|exact H
                               have Ny117:=Aside0.mk hy117;clear hy117
                               have H':=Aside0.mk H;clear H
                               have p113:0≤(0:Int):=(by omega)
                               have q113:0 < (x8_4.length:Int):=of_decide_eq_true asV
                               obtain ⟨ad113,e113,hx113_0⟩:=Kd.at_int (Kd.V_reads' HO_8.out).2.2 0 p113 q113
                               cases e113
                               have qi113:(0 < x8_4.length)=True:=eq_true (by omega)
                               (try rw [show ((0:Int)).toNat=0 from rfl] at hx113_0)
                               (try rw [Addr.add_zero'] at hx113_0)
                               replace p113:=eq_true p113
                               replace q113:=eq_true q113
                               go_wp2_with (first|((with_reducible refine gate_builtin (b:=.append) (xs:=#[.tmp 88,.tmp 90]) rfl ?_);(try (refine gate_guard (by rfl) ?_;dsimp only));at_builtin;refine Kd.R_append (Kd.int .u8) (w0:=w) w.heap.size rfl (.tmp 88) (.tmp 90) 23 5 (.int .u8 0) 1 rfl Try.underlying23 info5 rfl (by decide) (by omega) u6 x6_4 ((wrap64 ((rd x8_4 0)*16)) % 256) [.int .u8 ((wrap64 ((rd x8_4 0)*16)) % 256)] (fun k_=>(w.heap.size≤k_)) (fun _=>False) rfl rfl ?aP (fun _ hk=>hk.elim) ?aF ?aO ?aB ?aS ?aL ?_;(case aP=>exact rfl);(case aB=>exact (belV HB.out));(case aF=>exact (fun k_ hk=>(Nat.le_trans (below_size (belV HB.out)) hk)));(case aO=>exact (rowV HO_6.out));(case aS=>exact (below_size (belV HB.out)));(case aL=>have:=LMc27.out;omega);intro v115 w30 ho hb hg hat;rw [← Ny114.out] at ho;have n0_:=Aside0.mk (Kd.V_afterv (ok:=(fun k_=>(P0_ k_∨w.heap.size≤k_))) (by (with_reducible repeat (first|apply Kd.V_alloc|apply Kd.V_drewN|apply Kd.V_drew));exact HO_0.out) hg hat);have n1_:=Aside0.mk (Kd.V_afterv (ok:=(fun k_=>(P0_ k_∨w.heap.size≤k_))) (by (with_reducible repeat (first|apply Kd.V_alloc|apply Kd.V_drewN|apply Kd.V_drew));exact HO_8.out) hg hat);have n2_:=Aside0.mk (hb);have n3_:=Aside0.mk (ho);clear HO_0;clear HO_8;clear HB;clear HO_6;have HO_0:=n0_;have HO_8:=n1_;have HB:=n2_;have HO116:=n3_;clear n0_ n1_ n2_ n3_;clear ho hb hg hat;have q31:(x9_18:Int)≤((x8_4.length:Int):Int):=of_decide_eq_true asV;obtain ⟨i031,hi031,_,hsz31,_⟩:=info_parts info3;have hroom31:x8_4.length≤co20:=(Kd.V_reads' HO_8.out).2.1;have hC31:Kd.F (Kd.int .i64) _ _ (some ad113) x8_4.length x8_4:=(Kd.V_at (base:=w.heap.size) HO_8.out).2.2;have q031:(0:Int)≤(x9_18:Int):=of_decide_eq_true asV;have hcut31:=cut_from (P:=Try.prog) 22 3 .i64 Try.underlying22 hi031 1 hsz31 (some ad113) x8_4.length co20 x9_18 q031 q31;have hr31:=Kd.F_cut (m:=(x9_18:Int).toNat) (c:=co20) hC31 (by omega) hroom31;obtain ⟨A31,hA31⟩:∃ A1,A1=(if co20=(x9_18:Int).toNat then (some ad113) else ((some ad113):Option Addr).map (·.add ((x9_18:Int).toNat*1))):=⟨_,rfl⟩;obtain ⟨c31,hc31⟩:∃ c1,c1=co20 - (x9_18:Int).toNat:=⟨_,rfl⟩;have hy31:y117.length=x8_4.length - (x9_18:Int).toNat:=(by rw [Ny117.out,List.length_drop] <;> omega);rw [show (x8_4).drop (x9_18:Int).toNat=y117 from Ny117.out.symm] at hr31;replace hr31:Kd.F (Kd.int .i64) _ _ A31 y117.length y117:=(by rw [hA31];exact hr31);rw [← hy31,← hA31,← hc31] at hcut31;have HO121:=Aside0.mk (show Kd.V (Kd.int .i64) 3 _ w.heap.size _ (.slice A31 y117.length c31) y117 from Kd.V_mk (by rw [hy31,hc31];exact Nat.sub_le_sub_right hroom31 _) hr31);have HC121:=Aside0.mk (show y117.length≤c31 from by rw [hy31,hc31];exact Nat.sub_le_sub_right hroom31 _);clear hr31 hC31 hroom31 hi031 hsz31 hc31;have KY31:=Aside0.mk hy31;have KA31:=Aside0.mk hA31;clear hy31 hA31;replace q31:=eq_true q31))
                               repeat (go_quiet (fail);try go_wp2_with (first|((with_reducible refine gate_builtin (b:=.append) (xs:=#[.tmp 88,.tmp 90]) rfl ?_);(try (refine gate_guard (by rfl) ?_;dsimp only));at_builtin;refine Kd.R_append (Kd.int .u8) (w0:=w) w.heap.size rfl (.tmp 88) (.tmp 90) 23 5 (.int .u8 0) 1 rfl Try.underlying23 info5 rfl (by decide) (by omega) u6 x6_4 ((wrap64 ((rd x8_4 0)*16)) % 256) [.int .u8 ((wrap64 ((rd x8_4 0)*16)) % 256)] (fun k_=>(w.heap.size≤k_)) (fun _=>False) rfl rfl ?aP (fun _ hk=>hk.elim) ?aF ?aO ?aB ?aS ?aL ?_;(case aP=>exact rfl);(case aB=>exact (belV HB.out));(case aF=>exact (fun k_ hk=>(Nat.le_trans (below_size (belV HB.out)) hk)));(case aO=>exact (rowV HO_6.out));(case aS=>exact (below_size (belV HB.out)));(case aL=>have:=LMc27.out;omega);intro v115 w30 ho hb hg hat;rw [← Ny114.out] at ho;have n0_:=Aside0.mk (Kd.V_afterv (ok:=(fun k_=>(P0_ k_∨w.heap.size≤k_))) (by (with_reducible repeat (first|apply Kd.V_alloc|apply Kd.V_drewN|apply Kd.V_drew));exact HO_0.out) hg hat);have n1_:=Aside0.mk (Kd.V_afterv (ok:=(fun k_=>(P0_ k_∨w.heap.size≤k_))) (by (with_reducible repeat (first|apply Kd.V_alloc|apply Kd.V_drewN|apply Kd.V_drew));exact HO_8.out) hg hat);have n2_:=Aside0.mk (hb);have n3_:=Aside0.mk (ho);clear HO_0;clear HO_8;clear HB;clear HO_6;have HO_0:=n0_;have HO_8:=n1_;have HB:=n2_;have HO116:=n3_;clear n0_ n1_ n2_ n3_;clear ho hb hg hat;have q31:(x9_18:Int)≤((x8_4.length:Int):Int):=of_decide_eq_true asV;obtain ⟨i031,hi031,_,hsz31,_⟩:=info_parts info3;have hroom31:x8_4.length≤co20:=(Kd.V_reads' HO_8.out).2.1;have hC31:Kd.F (Kd.int .i64) _ _ (some ad113) x8_4.length x8_4:=(Kd.V_at (base:=w.heap.size) HO_8.out).2.2;have q031:(0:Int)≤(x9_18:Int):=of_decide_eq_true asV;have hcut31:=cut_from (P:=Try.prog) 22 3 .i64 Try.underlying22 hi031 1 hsz31 (some ad113) x8_4.length co20 x9_18 q031 q31;have hr31:=Kd.F_cut (m:=(x9_18:Int).toNat) (c:=co20) hC31 (by omega) hroom31;obtain ⟨A31,hA31⟩:∃ A1,A1=(if co20=(x9_18:Int).toNat then (some ad113) else ((some ad113):Option Addr).map (·.add ((x9_18:Int).toNat*1))):=⟨_,rfl⟩;obtain ⟨c31,hc31⟩:∃ c1,c1=co20 - (x9_18:Int).toNat:=⟨_,rfl⟩;have hy31:y117.length=x8_4.length - (x9_18:Int).toNat:=(by rw [Ny117.out,List.length_drop] <;> omega);rw [show (x8_4).drop (x9_18:Int).toNat=y117 from Ny117.out.symm] at hr31;replace hr31:Kd.F (Kd.int .i64) _ _ A31 y117.length y117:=(by rw [hA31];exact hr31);rw [← hy31,← hA31,← hc31] at hcut31;have HO121:=Aside0.mk (show Kd.V (Kd.int .i64) 3 _ w.heap.size _ (.slice A31 y117.length c31) y117 from Kd.V_mk (by rw [hy31,hc31];exact Nat.sub_le_sub_right hroom31 _) hr31);have HC121:=Aside0.mk (show y117.length≤c31 from by rw [hy31,hc31];exact Nat.sub_le_sub_right hroom31 _);clear hr31 hC31 hroom31 hi031 hsz31 hc31;have KY31:=Aside0.mk hy31;have KA31:=Aside0.mk hA31;clear hy31 hA31;replace q31:=eq_true q31)))
                               go_roundg kj18
                               case measure=>have:=HJ2.out;have:=HJ7.out;have:=HK3.out;have:=HK4.out;have:=HJ18.out;omega
                               case rel=>exact ⟨(y114),(y117),H',⟨by have:=HJ2.out;have:=HJ7.out;have:=HK3.out;have:=HK4.out;have:=HJ18.out;omega⟩,⟨by (with_reducible repeat (first|apply Kd.V_alloc|apply Kd.V_drewN|apply Kd.V_drew));exact HO_0.out⟩,⟨rowV HO116.out⟩,⟨by (with_reducible repeat (first|apply Kd.V_alloc|apply Kd.V_drewN|apply Kd.V_drew));exact HO121.out⟩,⟨belV HB.out⟩⟩
                             rw [if_neg c29] at H
                             exact absurd H (by simp)
                           rw [if_neg c28] at H
                           exact absurd H (by simp)
                         rw [if_neg c27] at H
                         exact absurd H (by simp)
                       rw [if_neg c26] at H
                       have c26b0:(x9_18 == (x8_4.length:Int))=false:=beq_eq_false_iff_ne.mpr c26
                       have c26b1:(x9_18 != (x8_4.length:Int))=true:=bne_iff_ne.mpr c26
                       by_cases c32:x9_18≤14
                       · rw [if_pos c32] at H
                         have c32b0:decide (x9_18≤14)=true:=decide_eq_true c32;clear c32
                         by_cases c33:x6_4.length < 140737488355328
                         · rw [if_pos c33] at H
                           have LMc33:=Aside0.mk c33;clear c33
                           obtain ⟨y122,hy122⟩:∃ y_:List Int,y_=(x6_4 ++ [Go.bits .or .u8 ((wrap64 ((rd x8_4 0)*16)) % 256) ((x9_18) % 256)]):=⟨_,rfl⟩
                           replace H:(if 0≤x9_18 then (if x9_18≤(x8_4.length:Int) then (bitmap_Runs.l1 kj18 l0 a1 y122 x7_3 (x8_4.drop (x9_18:Int).toNat)) else (none)) else (none))=some (r1,r2):=by first|(rw [hy122];with_reducible exact H)|(have H2_:=(Option.bind_some _ _).symm.trans H;rw [hy122];with_reducible exact H2_)|(have H2_:=(Option.bind_some _ _).symm.trans H;with_reducible exact H2_)|with_reducible exact H|(rw [hy122];exact H)|exact H
                           have Ny122:=Aside0.mk hy122;clear hy122
                           by_cases c34:0≤x9_18
                           · rw [if_pos c34] at H
                             have c34b0:=eq_true c34
                             have c34b1:decide (0≤x9_18)=true:=decide_eq_true c34;clear c34
                             by_cases c35:x9_18≤(x8_4.length:Int)
                             · rw [if_pos c35] at H
                               have c35b0:=eq_true c35
                               have c35b1:decide (x9_18≤(x8_4.length:Int))=true:=decide_eq_true c35;clear c35
                               obtain ⟨y125,hy125⟩:∃ y_:List Int,y_=(x8_4.drop (x9_18:Int).toNat):=⟨_,rfl⟩
                               replace H:(bitmap_Runs.l1 kj18 l0 a1 y122 x7_3 y125)=some (r1,r2):=by first|(rw [hy125];with_reducible exact H)|(have H2_:=(Option.bind_some _ _).symm.trans H;rw [hy125];with_reducible exact H2_)|(have H2_:=(Option.bind_some _ _).symm.trans H;with_reducible exact H2_)|with_reducible exact H|(rw [hy125];exact H)|exact H
                               have Ny125:=Aside0.mk hy125;clear hy125
                               have H':=Aside0.mk H;clear H
                               have p113:0≤(0:Int):=(by omega)
                               have q113:0 < (x8_4.length:Int):=of_decide_eq_true asV
                               obtain ⟨ad113,e113,hx113_0⟩:=Kd.at_int (Kd.V_reads' HO_8.out).2.2 0 p113 q113
                               cases e113
                               have qi113:(0 < x8_4.length)=True:=eq_true (by omega)
                               (try rw [show ((0:Int)).toNat=0 from rfl] at hx113_0)
                               (try rw [Addr.add_zero'] at hx113_0)
                               replace p113:=eq_true p113
                               replace q113:=eq_true q113
                               go_wp2_with (first|((with_reducible refine gate_builtin (b:=.append) (xs:=#[.tmp 95,.tmp 100]) rfl ?_);(try (refine gate_guard (by rfl) ?_;dsimp only));at_builtin;refine Kd.R_append (Kd.int .u8) (w0:=w) w.heap.size rfl (.tmp 95) (.tmp 100) 23 5 (.int .u8 0) 1 rfl Try.underlying23 info5 rfl (by decide) (by omega) u6 x6_4 (Go.bits .or .u8 ((wrap64 ((rd x8_4 0)*16)) % 256) ((x9_18) % 256)) [.int .u8 (Go.bits .or .u8 ((wrap64 ((rd x8_4 0)*16)) % 256) ((x9_18) % 256))] (fun k_=>(w.heap.size≤k_)) (fun _=>False) rfl rfl ?aP (fun _ hk=>hk.elim) ?aF ?aO ?aB ?aS ?aL ?_;(case aP=>exact rfl);(case aB=>exact (belV HB.out));(case aF=>exact (fun k_ hk=>(Nat.le_trans (below_size (belV HB.out)) hk)));(case aO=>exact (rowV HO_6.out));(case aS=>exact (below_size (belV HB.out)));(case aL=>have:=LMc33.out;omega);intro v123 w36 ho hb hg hat;rw [← Ny122.out] at ho;have n0_:=Aside0.mk (Kd.V_afterv (ok:=(fun k_=>(P0_ k_∨w.heap.size≤k_))) (by (with_reducible repeat (first|apply Kd.V_alloc|apply Kd.V_drewN|apply Kd.V_drew));exact HO_0.out) hg hat);have n1_:=Aside0.mk (Kd.V_afterv (ok:=(fun k_=>(P0_ k_∨w.heap.size≤k_))) (by (with_reducible repeat (first|apply Kd.V_alloc|apply Kd.V_drewN|apply Kd.V_drew));exact HO_8.out) hg hat);have n2_:=Aside0.mk (hb);have n3_:=Aside0.mk (ho);clear HO_0;clear HO_8;clear HB;clear HO_6;have HO_0:=n0_;have HO_8:=n1_;have HB:=n2_;have HO124:=n3_;clear n0_ n1_ n2_ n3_;clear ho hb hg hat;have q37:(x9_18:Int)≤((x8_4.length:Int):Int):=of_decide_eq_true asV;obtain ⟨i037,hi037,_,hsz37,_⟩:=info_parts info3;have hroom37:x8_4.length≤co20:=(Kd.V_reads' HO_8.out).2.1;have hC37:Kd.F (Kd.int .i64) _ _ (some ad113) x8_4.length x8_4:=(Kd.V_at (base:=w.heap.size) HO_8.out).2.2;have q037:(0:Int)≤(x9_18:Int):=of_decide_eq_true asV;have hcut37:=cut_from (P:=Try.prog) 22 3 .i64 Try.underlying22 hi037 1 hsz37 (some ad113) x8_4.length co20 x9_18 q037 q37;have hr37:=Kd.F_cut (m:=(x9_18:Int).toNat) (c:=co20) hC37 (by omega) hroom37;obtain ⟨A37,hA37⟩:∃ A1,A1=(if co20=(x9_18:Int).toNat then (some ad113) else ((some ad113):Option Addr).map (·.add ((x9_18:Int).toNat*1))):=⟨_,rfl⟩;obtain ⟨c37,hc37⟩:∃ c1,c1=co20 - (x9_18:Int).toNat:=⟨_,rfl⟩;have hy37:y125.length=x8_4.length - (x9_18:Int).toNat:=(by rw [Ny125.out,List.length_drop] <;> omega);rw [show (x8_4).drop (x9_18:Int).toNat=y125 from Ny125.out.symm] at hr37;replace hr37:Kd.F (Kd.int .i64) _ _ A37 y125.length y125:=(by rw [hA37];exact hr37);rw [← hy37,← hA37,← hc37] at hcut37;have HO129:=Aside0.mk (show Kd.V (Kd.int .i64) 3 _ w.heap.size _ (.slice A37 y125.length c37) y125 from Kd.V_mk (by rw [hy37,hc37];exact Nat.sub_le_sub_right hroom37 _) hr37);have HC129:=Aside0.mk (show y125.length≤c37 from by rw [hy37,hc37];exact Nat.sub_le_sub_right hroom37 _);clear hr37 hC37 hroom37 hi037 hsz37 hc37;have KY37:=Aside0.mk hy37;have KA37:=Aside0.mk hA37;clear hy37 hA37;replace q37:=eq_true q37))
                               repeat (go_quiet (fail);try go_wp2_with (first|((with_reducible refine gate_builtin (b:=.append) (xs:=#[.tmp 95,.tmp 100]) rfl ?_);(try (refine gate_guard (by rfl) ?_;dsimp only));at_builtin;refine Kd.R_append (Kd.int .u8) (w0:=w) w.heap.size rfl (.tmp 95) (.tmp 100) 23 5 (.int .u8 0) 1 rfl Try.underlying23 info5 rfl (by decide) (by omega) u6 x6_4 (Go.bits .or .u8 ((wrap64 ((rd x8_4 0)*16)) % 256) ((x9_18) % 256)) [.int .u8 (Go.bits .or .u8 ((wrap64 ((rd x8_4 0)*16)) % 256) ((x9_18) % 256))] (fun k_=>(w.heap.size≤k_)) (fun _=>False) rfl rfl ?aP (fun _ hk=>hk.elim) ?aF ?aO ?aB ?aS ?aL ?_;(case aP=>exact rfl);(case aB=>exact (belV HB.out));(case aF=>exact (fun k_ hk=>(Nat.le_trans (below_size (belV HB.out)) hk)));(case aO=>exact (rowV HO_6.out));(case aS=>exact (below_size (belV HB.out)));(case aL=>have:=LMc33.out;omega);intro v123 w36 ho hb hg hat;rw [← Ny122.out] at ho;have n0_:=Aside0.mk (Kd.V_afterv (ok:=(fun k_=>(P0_ k_∨w.heap.size≤k_))) (by (with_reducible repeat (first|apply Kd.V_alloc|apply Kd.V_drewN|apply Kd.V_drew));exact HO_0.out) hg hat);have n1_:=Aside0.mk (Kd.V_afterv (ok:=(fun k_=>(P0_ k_∨w.heap.size≤k_))) (by (with_reducible repeat (first|apply Kd.V_alloc|apply Kd.V_drewN|apply Kd.V_drew));exact HO_8.out) hg hat);have n2_:=Aside0.mk (hb);have n3_:=Aside0.mk (ho);clear HO_0;clear HO_8;clear HB;clear HO_6;have HO_0:=n0_;have HO_8:=n1_;have HB:=n2_;have HO124:=n3_;clear n0_ n1_ n2_ n3_;clear ho hb hg hat;have q37:(x9_18:Int)≤((x8_4.length:Int):Int):=of_decide_eq_true asV;obtain ⟨i037,hi037,_,hsz37,_⟩:=info_parts info3;have hroom37:x8_4.length≤co20:=(Kd.V_reads' HO_8.out).2.1;have hC37:Kd.F (Kd.int .i64) _ _ (some ad113) x8_4.length x8_4:=(Kd.V_at (base:=w.heap.size) HO_8.out).2.2;have q037:(0:Int)≤(x9_18:Int):=of_decide_eq_true asV;have hcut37:=cut_from (P:=Try.prog) 22 3 .i64 Try.underlying22 hi037 1 hsz37 (some ad113) x8_4.length co20 x9_18 q037 q37;have hr37:=Kd.F_cut (m:=(x9_18:Int).toNat) (c:=co20) hC37 (by omega) hroom37;obtain ⟨A37,hA37⟩:∃ A1,A1=(if co20=(x9_18:Int).toNat then (some ad113) else ((some ad113):Option Addr).map (·.add ((x9_18:Int).toNat*1))):=⟨_,rfl⟩;obtain ⟨c37,hc37⟩:∃ c1,c1=co20 - (x9_18:Int).toNat:=⟨_,rfl⟩;have hy37:y125.length=x8_4.length - (x9_18:Int).toNat:=(by rw [Ny125.out,List.length_drop] <;> omega);rw [show (x8_4).drop (x9_18:Int).toNat=y125 from Ny125.out.symm] at hr37;replace hr37:Kd.F (Kd.int .i64) _ _ A37 y125.length y125:=(by rw [hA37];exact hr37);rw [← hy37,← hA37,← hc37] at hcut37;have HO129:=Aside0.mk (show Kd.V (Kd.int .i64) 3 _ w.heap.size _ (.slice A37 y125.length c37) y125 from Kd.V_mk (by rw [hy37,hc37];exact Nat.sub_le_sub_right hroom37 _) hr37);have HC129:=Aside0.mk (show y125.length≤c37 from by rw [hy37,hc37];exact Nat.sub_le_sub_right hroom37 _);clear hr37 hC37 hroom37 hi037 hsz37 hc37;have KY37:=Aside0.mk hy37;have KA37:=Aside0.mk hA37;clear hy37 hA37;replace q37:=eq_true q37)))
                               go_roundg kj18
                               case measure=>have:=HJ2.out;have:=HJ7.out;have:=HK3.out;have:=HK4.out;have:=HJ18.out;omega
                               case rel=>exact ⟨(y122),(y125),H',⟨by have:=HJ2.out;have:=HJ7.out;have:=HK3.out;have:=HK4.out;have:=HJ18.out;omega⟩,⟨by (with_reducible repeat (first|apply Kd.V_alloc|apply Kd.V_drewN|apply Kd.V_drew));exact HO_0.out⟩,⟨rowV HO124.out⟩,⟨by (with_reducible repeat (first|apply Kd.V_alloc|apply Kd.V_drewN|apply Kd.V_drew));exact HO129.out⟩,⟨belV HB.out⟩⟩
                             rw [if_neg c35] at H
                             exact absurd H (by simp)
                           rw [if_neg c34] at H
                           exact absurd H (by simp)
                         rw [if_neg c33] at H
                         exact absurd H (by simp)
                       rw [if_neg c32] at H
                       have c32b0:decide (x9_18≤14)=false:=decide_eq_false c32;clear c32
                       obtain ⟨y130,hy130⟩:∃ y_:List Int,y_=(([Go.bits .or .u8 ((wrap64 ((rd x8_4 0)*16)) % 256) 15,(wrap64 (x9_18 - 15)) % 256]:List Int)):=⟨_,rfl⟩
                       replace H:(if x6_4.length+y130.length < 140737488355328 then (if 0≤x9_18 then (if x9_18≤(x8_4.length:Int) then (bitmap_Runs.l1 kj18 l0 a1 (x6_4 ++ y130) x7_3 (x8_4.drop (x9_18:Int).toNat)) else (none)) else (none)) else (none))=some (r1,r2):=by first|(rw [hy130];with_reducible exact H)|(have H2_:=(Option.bind_some _ _).symm.trans H;rw [hy130];with_reducible exact H2_)|(have H2_:=(Option.bind_some _ _).symm.trans H;with_reducible exact H2_)|with_reducible exact H|(rw [hy130];exact H)|exact H
                       have Ny130:=Aside0.mk hy130;clear hy130
                       by_cases c38:x6_4.length+y130.length < 140737488355328
                       · rw [if_pos c38] at H
                         have LMc38:=Aside0.mk c38;clear c38
                         obtain ⟨y133,hy133⟩:∃ y_:List Int,y_=(x6_4 ++ y130):=⟨_,rfl⟩
                         replace H:(if 0≤x9_18 then (if x9_18≤(x8_4.length:Int) then (bitmap_Runs.l1 kj18 l0 a1 y133 x7_3 (x8_4.drop (x9_18:Int).toNat)) else (none)) else (none))=some (r1,r2):=by first|(rw [hy133];with_reducible exact H)|(have H2_:=(Option.bind_some _ _).symm.trans H;rw [hy133];with_reducible exact H2_)|(have H2_:=(Option.bind_some _ _).symm.trans H;with_reducible exact H2_)|with_reducible exact H|(rw [hy133];exact H)|exact H
                         have Ny133:=Aside0.mk hy133;clear hy133
                         by_cases c39:0≤x9_18
                         · rw [if_pos c39] at H
                           have c39b0:=eq_true c39
                           have c39b1:decide (0≤x9_18)=true:=decide_eq_true c39;clear c39
                           by_cases c40:x9_18≤(x8_4.length:Int)
                           · rw [if_pos c40] at H
                             have c40b0:=eq_true c40
                             have c40b1:decide (x9_18≤(x8_4.length:Int))=true:=decide_eq_true c40;clear c40
                             obtain ⟨y136,hy136⟩:∃ y_:List Int,y_=(x8_4.drop (x9_18:Int).toNat):=⟨_,rfl⟩
                             replace H:(bitmap_Runs.l1 kj18 l0 a1 y133 x7_3 y136)=some (r1,r2):=by first|(rw [hy136];with_reducible exact H)|(have H2_:=(Option.bind_some _ _).symm.trans H;rw [hy136];with_reducible exact H2_)|(have H2_:=(Option.bind_some _ _).symm.trans H;with_reducible exact H2_)|with_reducible exact H|(rw [hy136];exact H)|exact H
                             have Ny136:=Aside0.mk hy136;clear hy136
                             have H':=Aside0.mk H;clear H
                             have p113:0≤(0:Int):=(by omega)
                             have q113:0 < (x8_4.length:Int):=of_decide_eq_true asV
                             obtain ⟨ad113,e113,hx113_0⟩:=Kd.at_int (Kd.V_reads' HO_8.out).2.2 0 p113 q113
                             cases e113
                             have qi113:(0 < x8_4.length)=True:=eq_true (by omega)
                             (try rw [show ((0:Int)).toNat=0 from rfl] at hx113_0)
                             (try rw [Addr.add_zero'] at hx113_0)
                             replace p113:=eq_true p113
                             replace q113:=eq_true q113
                             go_wp2_with (first|((with_reducible refine gate_dst (N:=81) rfl ?_);(try (refine gate_guard (by rfl) ?_;dsimp only));refine Kd.R_lit (Kd.int .u8) _ 5 ?hg (N:=81) ?hd (xs:=([Go.bits .or .u8 ((wrap64 ((rd x8_4 0)*16)) % 256) 15,(wrap64 (x9_18 - 15)) % 256]:List Int)) (inner:=[.int .u8 (Go.bits .or .u8 ((wrap64 ((rd x8_4 0)*16)) % 256) 15),.int .u8 ((wrap64 (x9_18 - 15)) % 256)]) (ok:=fun _=>True) (okp:=fun _=>True) ?hr ?hp (fun _ hk=>hk) trivial (Below.refl _ _) (Nat.le_refl _) (by simp) ?_;(case hd=>rfl);(case hg=>rfl);(case hr=>first|(go_simp;done)|(go_simp;rfl));(case hp=>exact (Reps.one (show Kd.M (Kd.int .u8) _ _ _ (Go.bits .or .u8 ((wrap64 ((rd x8_4 0)*16)) % 256) 15) [.int .u8 (Go.bits .or .u8 ((wrap64 ((rd x8_4 0)*16)) % 256) 15)] from rfl) (Reps.one (show Kd.M (Kd.int .u8) _ _ _ ((wrap64 (x9_18 - 15)) % 256) [.int .u8 ((wrap64 (x9_18 - 15)) % 256)] from rfl) (Reps.none _ _))));intro v131 w41 ho42 hb hg_ hnew_;clear hg_ hnew_;(first|rw [← Ny130.out] at ho42|(simp only [Int.reduceToNat] at ho42;rw [← Ny130.out] at ho42));have n0_:=Aside0.mk (Kd.V_elder' (by (with_reducible repeat (first|apply Kd.V_alloc|apply Kd.V_drewN|apply Kd.V_drew));exact HO_0.out) (Kd.R_base ho42) hb);have n1_:=Aside0.mk (Kd.R_elder' (rowV HO_6.out) (Kd.R_base ho42) hb);have n2_:=Aside0.mk (Kd.V_elder' (by (with_reducible repeat (first|apply Kd.V_alloc|apply Kd.V_drewN|apply Kd.V_drew));exact HO_8.out) (Kd.R_base ho42) hb);have n3_:=Aside0.mk (Kd.R_lower (Kd.R_new' (Kd.R_newM (M:=fun k_=>(w.heap.size≤k_)) ho42 (below_size (belV HB.out)) (fun k_ h_=>h_)) (Kd.R_lt (rowV HO_6.out))) (below_size (belV HB.out)));have n4_:=Aside0.mk (below_step (belV HB.out) hb);clear HO_0;clear HO_6;clear HO_8;clear HB;have HO_0:=n0_;have HO_6:=n1_;have HO_8:=n2_;have HO132:=n3_;have HB:=n4_;clear n0_ n1_ n2_ n3_ n4_;clear hb ho42;obtain ⟨Ao44,co44,eo44⟩:=Kd.R_slice HO132.out;subst eo44)|((with_reducible refine gate_builtin (b:=.append) (xs:=#[.tmp 75,.tmp 81]) rfl ?_);(try (refine gate_guard (by rfl) ?_;dsimp only));at_builtin;refine Kd.R_append_rows (Kd.int .u8) (w0:=w) w.heap.size rfl (.tmp 75) (.tmp 81) 23 5 (.int .u8 0) 1 rfl Try.underlying23 info5 rfl (by decide) (by omega) u6 x6_4 y130 _ _ _ (fun k_=>(w.heap.size≤k_)) (fun _=>False) rfl rfl ?aO ?aR (fun _ _ h=>h) (fun _ h=>h.elim) ?aF ?aB ?aS ?aL ?_;(case aR=>exact cV (Kd.R_reads' HO132.out).2.2);(case aB=>exact (belV HB.out));(case aF=>exact (fun k_ hk=>(Nat.le_trans (below_size (belV HB.out)) hk)));(case aO=>exact (by (with_reducible repeat (first|apply Kd.R_alloc|apply Kd.R_drewN|apply Kd.R_drew));exact Kd.R_mono HO_6.out (fun _ hk=>hk.1)));(case aS=>exact (below_size (belV HB.out)));(case aL=>have:=LMc38.out;omega);intro v134 w43 ho hb hg hat;rw [← Ny133.out] at ho;have n0_:=Aside0.mk (Kd.V_afterv (ok:=(fun k_=>(P0_ k_∨w.heap.size≤k_)∧some k_≠(.slice Ao44 y130.length co44:Value).ownBlock)) (by (with_reducible repeat (first|apply Kd.V_alloc|apply Kd.V_drewN|apply Kd.V_drew));exact Kd.V_mono HO_0.out (fun _ hk=>⟨⟨hk.1.1,hk.2⟩,hk.1.2⟩)) hg hat);have n1_:=Aside0.mk (Kd.V_afterv (ok:=(fun k_=>(P0_ k_∨w.heap.size≤k_)∧some k_≠(.slice Ao44 y130.length co44:Value).ownBlock)) (by (with_reducible repeat (first|apply Kd.V_alloc|apply Kd.V_drewN|apply Kd.V_drew));exact Kd.V_mono HO_8.out (fun _ hk=>⟨⟨hk.1.1,hk.2⟩,hk.1.2⟩)) hg hat);have n2_:=Aside0.mk (hb);have n3_:=Aside0.mk (ho);clear HO_0;clear HO_8;clear HB;clear HO_6;clear HO132;have HO_0:=n0_;have HO_8:=n1_;have HB:=n2_;have HO135:=n3_;clear n0_ n1_ n2_ n3_;clear ho hb hg hat;have q45:(x9_18:Int)≤((x8_4.length:Int):Int):=of_decide_eq_true asV;obtain ⟨i045,hi045,_,hsz45,_⟩:=info_parts info3;have hroom45:x8_4.length≤co20:=(Kd.V_reads' HO_8.out).2.1;have hC45:Kd.F (Kd.int .i64) _ _ (some ad113) x8_4.length x8_4:=(Kd.V_at (base:=w.heap.size) HO_8.out).2.2;have q045:(0:Int)≤(x9_18:Int):=of_decide_eq_true asV;have hcut45:=cut_from (P:=Try.prog) 22 3 .i64 Try.underlying22 hi045 1 hsz45 (some ad113) x8_4.length co20 x9_18 q045 q45;have hr45:=Kd.F_cut (m:=(x9_18:Int).toNat) (c:=co20) hC45 (by omega) hroom45;obtain ⟨A45,hA45⟩:∃ A1,A1=(if co20=(x9_18:Int).toNat then (some ad113) else ((some ad113):Option Addr).map (·.add ((x9_18:Int).toNat*1))):=⟨_,rfl⟩;obtain ⟨c45,hc45⟩:∃ c1,c1=co20 - (x9_18:Int).toNat:=⟨_,rfl⟩;have hy45:y136.length=x8_4.length - (x9_18:Int).toNat:=(by rw [Ny136.out,List.length_drop] <;> omega);rw [show (x8_4).drop (x9_18:Int).toNat=y136 from Ny136.out.symm] at hr45;replace hr45:Kd.F (Kd.int .i64) _ _ A45 y136.length y136:=(by rw [hA45];exact hr45);rw [← hy45,← hA45,← hc45] at hcut45;have HO140:=Aside0.mk (show Kd.V (Kd.int .i64) 3 _ w.heap.size _ (.slice A45 y136.length c45) y136 from Kd.V_mk (by rw [hy45,hc45];exact Nat.sub_le_sub_right hroom45 _) hr45);have HC140:=Aside0.mk (show y136.length≤c45 from by rw [hy45,hc45];exact Nat.sub_le_sub_right hroom45 _);clear hr45 hC45 hroom45 hi045 hsz45 hc45;have KY45:=Aside0.mk hy45;have KA45:=Aside0.mk hA45;clear hy45 hA45;replace q45:=eq_true q45))
                             repeat (go_quiet (fail);try go_wp2_with (first|((with_reducible refine gate_dst (N:=81) rfl ?_);(try (refine gate_guard (by rfl) ?_;dsimp only));refine Kd.R_lit (Kd.int .u8) _ 5 ?hg (N:=81) ?hd (xs:=([Go.bits .or .u8 ((wrap64 ((rd x8_4 0)*16)) % 256) 15,(wrap64 (x9_18 - 15)) % 256]:List Int)) (inner:=[.int .u8 (Go.bits .or .u8 ((wrap64 ((rd x8_4 0)*16)) % 256) 15),.int .u8 ((wrap64 (x9_18 - 15)) % 256)]) (ok:=fun _=>True) (okp:=fun _=>True) ?hr ?hp (fun _ hk=>hk) trivial (Below.refl _ _) (Nat.le_refl _) (by simp) ?_;(case hd=>rfl);(case hg=>rfl);(case hr=>first|(go_simp;done)|(go_simp;rfl));(case hp=>exact (Reps.one (show Kd.M (Kd.int .u8) _ _ _ (Go.bits .or .u8 ((wrap64 ((rd x8_4 0)*16)) % 256) 15) [.int .u8 (Go.bits .or .u8 ((wrap64 ((rd x8_4 0)*16)) % 256) 15)] from rfl) (Reps.one (show Kd.M (Kd.int .u8) _ _ _ ((wrap64 (x9_18 - 15)) % 256) [.int .u8 ((wrap64 (x9_18 - 15)) % 256)] from rfl) (Reps.none _ _))));intro v131 w41 ho42 hb hg_ hnew_;clear hg_ hnew_;(first|rw [← Ny130.out] at ho42|(simp only [Int.reduceToNat] at ho42;rw [← Ny130.out] at ho42));have n0_:=Aside0.mk (Kd.V_elder' (by (with_reducible repeat (first|apply Kd.V_alloc|apply Kd.V_drewN|apply Kd.V_drew));exact HO_0.out) (Kd.R_base ho42) hb);have n1_:=Aside0.mk (Kd.R_elder' (rowV HO_6.out) (Kd.R_base ho42) hb);have n2_:=Aside0.mk (Kd.V_elder' (by (with_reducible repeat (first|apply Kd.V_alloc|apply Kd.V_drewN|apply Kd.V_drew));exact HO_8.out) (Kd.R_base ho42) hb);have n3_:=Aside0.mk (Kd.R_lower (Kd.R_new' (Kd.R_newM (M:=fun k_=>(w.heap.size≤k_)) ho42 (below_size (belV HB.out)) (fun k_ h_=>h_)) (Kd.R_lt (rowV HO_6.out))) (below_size (belV HB.out)));have n4_:=Aside0.mk (below_step (belV HB.out) hb);clear HO_0;clear HO_6;clear HO_8;clear HB;have HO_0:=n0_;have HO_6:=n1_;have HO_8:=n2_;have HO132:=n3_;have HB:=n4_;clear n0_ n1_ n2_ n3_ n4_;clear hb ho42;obtain ⟨Ao44,co44,eo44⟩:=Kd.R_slice HO132.out;subst eo44)|((with_reducible refine gate_builtin (b:=.append) (xs:=#[.tmp 75,.tmp 81]) rfl ?_);(try (refine gate_guard (by rfl) ?_;dsimp only));at_builtin;refine Kd.R_append_rows (Kd.int .u8) (w0:=w) w.heap.size rfl (.tmp 75) (.tmp 81) 23 5 (.int .u8 0) 1 rfl Try.underlying23 info5 rfl (by decide) (by omega) u6 x6_4 y130 _ _ _ (fun k_=>(w.heap.size≤k_)) (fun _=>False) rfl rfl ?aO ?aR (fun _ _ h=>h) (fun _ h=>h.elim) ?aF ?aB ?aS ?aL ?_;(case aR=>exact cV (Kd.R_reads' HO132.out).2.2);(case aB=>exact (belV HB.out));(case aF=>exact (fun k_ hk=>(Nat.le_trans (below_size (belV HB.out)) hk)));(case aO=>exact (by (with_reducible repeat (first|apply Kd.R_alloc|apply Kd.R_drewN|apply Kd.R_drew));exact Kd.R_mono HO_6.out (fun _ hk=>hk.1)));(case aS=>exact (below_size (belV HB.out)));(case aL=>have:=LMc38.out;omega);intro v134 w43 ho hb hg hat;rw [← Ny133.out] at ho;have n0_:=Aside0.mk (Kd.V_afterv (ok:=(fun k_=>(P0_ k_∨w.heap.size≤k_)∧some k_≠(.slice Ao44 y130.length co44:Value).ownBlock)) (by (with_reducible repeat (first|apply Kd.V_alloc|apply Kd.V_drewN|apply Kd.V_drew));exact Kd.V_mono HO_0.out (fun _ hk=>⟨⟨hk.1.1,hk.2⟩,hk.1.2⟩)) hg hat);have n1_:=Aside0.mk (Kd.V_afterv (ok:=(fun k_=>(P0_ k_∨w.heap.size≤k_)∧some k_≠(.slice Ao44 y130.length co44:Value).ownBlock)) (by (with_reducible repeat (first|apply Kd.V_alloc|apply Kd.V_drewN|apply Kd.V_drew));exact Kd.V_mono HO_8.out (fun _ hk=>⟨⟨hk.1.1,hk.2⟩,hk.1.2⟩)) hg hat);have n2_:=Aside0.mk (hb);have n3_:=Aside0.mk (ho);clear HO_0;clear HO_8;clear HB;clear HO_6;clear HO132;have HO_0:=n0_;have HO_8:=n1_;have HB:=n2_;have HO135:=n3_;clear n0_ n1_ n2_ n3_;clear ho hb hg hat;have q45:(x9_18:Int)≤((x8_4.length:Int):Int):=of_decide_eq_true asV;obtain ⟨i045,hi045,_,hsz45,_⟩:=info_parts info3;have hroom45:x8_4.length≤co20:=(Kd.V_reads' HO_8.out).2.1;have hC45:Kd.F (Kd.int .i64) _ _ (some ad113) x8_4.length x8_4:=(Kd.V_at (base:=w.heap.size) HO_8.out).2.2;have q045:(0:Int)≤(x9_18:Int):=of_decide_eq_true asV;have hcut45:=cut_from (P:=Try.prog) 22 3 .i64 Try.underlying22 hi045 1 hsz45 (some ad113) x8_4.length co20 x9_18 q045 q45;have hr45:=Kd.F_cut (m:=(x9_18:Int).toNat) (c:=co20) hC45 (by omega) hroom45;obtain ⟨A45,hA45⟩:∃ A1,A1=(if co20=(x9_18:Int).toNat then (some ad113) else ((some ad113):Option Addr).map (·.add ((x9_18:Int).toNat*1))):=⟨_,rfl⟩;obtain ⟨c45,hc45⟩:∃ c1,c1=co20 - (x9_18:Int).toNat:=⟨_,rfl⟩;have hy45:y136.length=x8_4.length - (x9_18:Int).toNat:=(by rw [Ny136.out,List.length_drop] <;> omega);rw [show (x8_4).drop (x9_18:Int).toNat=y136 from Ny136.out.symm] at hr45;replace hr45:Kd.F (Kd.int .i64) _ _ A45 y136.length y136:=(by rw [hA45];exact hr45);rw [← hy45,← hA45,← hc45] at hcut45;have HO140:=Aside0.mk (show Kd.V (Kd.int .i64) 3 _ w.heap.size _ (.slice A45 y136.length c45) y136 from Kd.V_mk (by rw [hy45,hc45];exact Nat.sub_le_sub_right hroom45 _) hr45);have HC140:=Aside0.mk (show y136.length≤c45 from by rw [hy45,hc45];exact Nat.sub_le_sub_right hroom45 _);clear hr45 hC45 hroom45 hi045 hsz45 hc45;have KY45:=Aside0.mk hy45;have KA45:=Aside0.mk hA45;clear hy45 hA45;replace q45:=eq_true q45)))
                             go_roundg kj18
                             case measure=>have:=HJ2.out;have:=HJ7.out;have:=HK3.out;have:=HK4.out;have:=HJ18.out;omega
                             case rel=>exact ⟨(y133),(y136),H',⟨by have:=HJ2.out;have:=HJ7.out;have:=HK3.out;have:=HK4.out;have:=HJ18.out;omega⟩,⟨by (with_reducible repeat (first|apply Kd.V_alloc|apply Kd.V_drewN|apply Kd.V_drew));exact Kd.V_mono HO_0.out (fun _ hk=>⟨hk.1.1,hk.2⟩)⟩,⟨rowV HO135.out⟩,⟨by (with_reducible repeat (first|apply Kd.V_alloc|apply Kd.V_drewN|apply Kd.V_drew));exact Kd.V_mono HO140.out (fun _ hk=>⟨hk.1.1,hk.2⟩)⟩,⟨belV HB.out⟩⟩
                           rw [if_neg c40] at H
                           exact absurd H (by simp)
                         rw [if_neg c39] at H
                         exact absurd H (by simp)
                       rw [if_neg c38] at H
                       exact absurd H (by simp)
                     rw [if_neg c25] at H
                     exact absurd H (by simp)
                 rw [if_neg c18] at H
                 have c18b0:decide (0 < (x8_4.length:Int))=false:=decide_eq_false c18
                 have c18b1:decide (0 < x8_4.length)=false:=decide_eq_false (by omega);clear c18
                 have H':=Aside0.mk H;clear H
                 obtain ⟨Ao46,co46,eo46⟩:=Kd.V_slice HO_8.out;subst eo46
                 go_wp2
                 repeat (go_quiet (fail);try go_wp2)
                 go_roundg k4
                 case measure=>have:=HJ2.out;have:=HJ7.out;have:=HK3.out;have:=HK4.out;omega
                 case rel=>exact ⟨(x6_4),(wrap64 (x7_3+a1)),okV,H',⟨by have:=HJ2.out;have:=HJ7.out;have:=HK3.out;have:=HK4.out;omega⟩,⟨by (with_reducible repeat (first|apply Kd.V_alloc|apply Kd.V_drewN|apply Kd.V_drew));exact HO_0.out⟩,⟨rowV HO_6.out⟩,⟨belV HB.out⟩⟩
             rw [if_neg c16] at H
             exact absurd H (by simp)
           rw [if_neg c15] at H
           exact absurd H (by simp)
         rw [if_neg c14] at H
         exact absurd H (by simp)
       rw [if_neg c13] at H
       have c13b0:decide (x7_3 < (l0.length:Int))=false:=decide_eq_false c13;clear c13
       simp only [Option.some.injEq,Prod.mk.injEq] at H
       obtain ⟨rfl,rfl⟩:=H
       go_wp2
       repeat (go_quiet (fail);try go_wp2)
       go_ret2
       exact ⟨_,by first|rfl|(simp [errW_none,errW_some] <;> rfl)|(simp [*,errW_none,errW_some] <;> rfl),by (with_reducible repeat (first|apply Kd.R_alloc|apply Kd.R_drewN|apply Kd.R_drew));exact HO_6.out,by repeat (first|(with_reducible first|exact HB.out|apply below_alloc|apply pw_below_drewN|apply below_drew1)|exact HB.out)⟩

/-! ### bits_Mul32: function 95 -/
def bits_Mul32.f (a0 : Int) (a1 : Int) : Option (Int × Int) := some (((IntKind.u64.wrap ((IntKind.u64.wrap (a0)) * (IntKind.u64.wrap (a1)))) / 4294967296) % 4294967296, (IntKind.u64.wrap ((IntKind.u64.wrap (a0)) * (IntKind.u64.wrap (a1)))) % 4294967296)
set_option maxHeartbeats 8000000 in
set_option maxRecDepth 100000 in
theorem bits_Mul32.calls (a0:Int) (a1:Int) (r1:Int) (r2:Int) (w:World) (h:bits_Mul32.f a0 a1=some (r1,r2)) :
 Calls Try.prog 95 #[.int .u32 a0,.int .u32 a1] w fun e w'=>e=.returned (.tuple #[.int .u32 r1,.int .u32 r2])∧Drawn0 w w':=by
 have H:(some (((IntKind.u64.wrap ((IntKind.u64.wrap (a0))*(IntKind.u64.wrap (a1)))) / 4294967296) % 4294967296,(IntKind.u64.wrap ((IntKind.u64.wrap (a0))*(IntKind.u64.wrap (a1)))) % 4294967296))=some (r1,r2):=h;clear h
 simp only [Option.some.injEq,Prod.mk.injEq] at H
 obtain ⟨rfl,rfl⟩:=H
 go_enter Try.func95,Try.ntmps95
 go_wp2
 go_ret2
 exact ⟨by first|rfl|(simp;done)|(simp [*];done),by repeat (first|exact Drawn0.refl _|apply Drawn0.step)⟩

/-! ### bits_Mul64: function 96 -/
def bits_Mul64.f (a0 : Int) (a1 : Int) : Option (Int × Int) := some (IntKind.u64.wrap ((IntKind.u64.wrap ((IntKind.u64.wrap ((a0 / 4294967296) * (a1 / 4294967296))) + ((IntKind.u64.wrap ((IntKind.u64.wrap ((a0 / 4294967296) * (Go.bits .and .u64 a1 4294967295))) + ((IntKind.u64.wrap ((Go.bits .and .u64 a0 4294967295) * (Go.bits .and .u64 a1 4294967295))) / 4294967296))) / 4294967296))) + ((IntKind.u64.wrap ((Go.bits .and .u64 (IntKind.u64.wrap ((IntKind.u64.wrap ((a0 / 4294967296) * (Go.bits .and .u64 a1 4294967295))) + ((IntKind.u64.wrap ((Go.bits .and .u64 a0 4294967295) * (Go.bits .and .u64 a1 4294967295))) / 4294967296))) 4294967295) + (IntKind.u64.wrap ((Go.bits .and .u64 a0 4294967295) * (a1 / 4294967296))))) / 4294967296)), IntKind.u64.wrap (a0 * a1))
set_option maxHeartbeats 8000000 in
set_option maxRecDepth 100000 in
theorem bits_Mul64.calls (a0:Int) (a1:Int) (r1:Int) (r2:Int) (w:World) (h:bits_Mul64.f a0 a1=some (r1,r2)) :
 Calls Try.prog 96 #[.int .u64 a0,.int .u64 a1] w fun e w'=>e=.returned (.tuple #[.int .u64 r1,.int .u64 r2])∧Drawn0 w w':=by
 have H:(some (IntKind.u64.wrap ((IntKind.u64.wrap ((IntKind.u64.wrap ((a0 / 4294967296)*(a1 / 4294967296)))+((IntKind.u64.wrap ((IntKind.u64.wrap ((a0 / 4294967296)*(Go.bits .and .u64 a1 4294967295)))+((IntKind.u64.wrap ((Go.bits .and .u64 a0 4294967295)*(Go.bits .and .u64 a1 4294967295))) / 4294967296))) / 4294967296)))+((IntKind.u64.wrap ((Go.bits .and .u64 (IntKind.u64.wrap ((IntKind.u64.wrap ((a0 / 4294967296)*(Go.bits .and .u64 a1 4294967295)))+((IntKind.u64.wrap ((Go.bits .and .u64 a0 4294967295)*(Go.bits .and .u64 a1 4294967295))) / 4294967296))) 4294967295)+(IntKind.u64.wrap ((Go.bits .and .u64 a0 4294967295)*(a1 / 4294967296))))) / 4294967296)),IntKind.u64.wrap (a0*a1)))=some (r1,r2):=h
 clear h
 simp only [Option.some.injEq,Prod.mk.injEq] at H
 obtain ⟨rfl,rfl⟩:=H
 go_enter Try.func96,Try.ntmps96
 go_wp2
 go_ret2
 exact ⟨by first|rfl|(simp;done)|(simp [*];done),by repeat (first|exact Drawn0.refl _|apply Drawn0.step)⟩

/-! ### bits_Mul: function 84 -/
def bits_Mul.f (a0 : Int) (a1 : Int) : Option (Int × Int) := (bits_Mul64.f a0 a1).bind fun bt141 => (some (bt141.1, bt141.2))
set_option maxHeartbeats 8000000 in
set_option maxRecDepth 100000 in
theorem bits_Mul.calls (a0:Int) (a1:Int) (r1:Int) (r2:Int) (w:World) (h:bits_Mul.f a0 a1=some (r1,r2)) :
 Calls Try.prog 84 #[.int .u64 a0,.int .u64 a1] w fun e w'=>e=.returned (.tuple #[.int .u64 r1,.int .u64 r2])∧Drawn0 w w':=by
 have H:((bits_Mul64.f a0 a1).bind fun bt141=>(some (bt141.1,bt141.2)))=some (r1,r2):=h;clear h
 replace H:=Option.bind_eq_some_iff.mp H
 obtain ⟨⟨t141,t142⟩,A30,H⟩:=H
 replace H:(some (t141,t142))=some (r1,r2):=H
 have A3:=Aside0.mk A30;clear A30
 simp only [Option.some.injEq,Prod.mk.injEq] at H
 obtain ⟨rfl,rfl⟩:=H
 go_enter Try.func84,Try.ntmps84
 go_wp2_with (first|((with_reducible refine gate_callee (f:=96) rfl ?_);refine goesL_ (some 25) rfl rfl Try.func96 (by kernel_rfl) rfl #[.int .u64 a0,.int .u64 a1] rfl (by (try simp only [List.map_toArray,List.map_cons,List.map_nil]);first|done|rfl|(simp only [List.length_drop,List.length_take];rfl)) ?_;(with_reducible refine (bits_Mul64.calls a0 a1 t141 t142 _ A3.out).mono ?_);rintro e w' ⟨rfl,⟨nd,rfl⟩⟩;refine ⟨_,rfl,?_⟩))
 go_ret2
 exact ⟨by first|rfl|(simp;done)|(simp [*];done),by repeat (first|exact Drawn0.refl _|apply Drawn0.step)⟩

/-! ### slices_Repeat_int_int: function 53 -/
theorem mul_one_f (n : Int) (h0 : 0 ≤ n) (h1 : n ≤ 1099511627776) : bits_Mul.f 1 n = some (0, n) := by
  have m1 : Go.bits .and .u64 1 4294967295 = 1 := by decide +kernel
  have m0 : Go.bits .and .u64 0 4294967295 = 0 := by decide +kernel
  have m2 : Go.bits .and .u64 n 4294967295 = n % 4294967296 := by
    have := bits_mask .u64 64 (by decide) (fun n h h' => by rw [IntKind.wrap_u64]; omega) 32 (by decide) n h0 (by omega)
    simpa using this
  unfold bits_Mul.f bits_Mul64.f
  rw [m1, m2, show (1 : Int) / 4294967296 = 0 from rfl]
  simp only [Int.zero_mul, Int.one_mul, IntKind.wrap_u64, Option.bind_some]
  have e1 : (0 % 18446744073709551616 + n % 4294967296 % 18446744073709551616 / 4294967296) % 18446744073709551616 = 0 := by omega
  rw [e1, m0]
  congr 2
  · omega
  · omega
theorem rep_splice {c : Int} {k : Nat} (cur : List Value) (hc : cur.take k = List.replicate k (.int .i64 c)) (hk : k ≤ cur.length) (m : Nat) (hm : k + m ≤ cur.length) :
    (splice cur k (List.replicate m (.int .i64 c))).take (k + m) = List.replicate (k + m) (.int .i64 c) ∧ (splice cur k (List.replicate m (.int .i64 c))).length = cur.length := by
  refine ⟨?_, length_splice _ _ _ (by simp; omega)⟩
  unfold splice
  rw [hc, ← List.append_assoc, List.replicate_append_replicate]
  have := List.take_left (l₁ := List.replicate (k + m) (Value.int .i64 c)) (l₂ := List.drop (k + (List.replicate m (Value.int .i64 c)).length) cur)
  rwa [List.length_replicate] at this
set_option maxRecDepth 100000 in
set_option maxHeartbeats 2000000 in
theorem rep_calls {w : World} (A0 : Option Addr) (c0 : Nat) (l0 : List Int) (c : Int) (hl0 : l0 = [c]) (hr0 : Kd.C (Kd.int .i64) w A0 l0.length l0) (n : Int) (h0 : 1 ≤ n) (h1 : n ≤ 1099511627776) :
    Calls Try.prog 53 #[.slice A0 l0.length c0, .int .i64 n] w fun e w' => ∃ v, e = .returned v ∧ Kd.R (Kd.int .i64) 3 w' w.heap.size (fun _ => True) v (List.replicate n.toNat c) ∧ Below w.heap.size w w' := by
  subst hl0
  have info3 : (Try.prog.info? 3).map (fun i => (i.zero, i.size, i.bytes)) = some (some (.int .i64 0), 1, 8) := by kernel_rfl
  obtain ⟨i0, hi, hz0, hsz, hby⟩ := info_parts info3
  have hsz1 : (Try.prog.info? 3).map (·.size) = some 1 := by rw [hi]; simp [hsz]
  obtain ⟨N, rfl⟩ := Int.eq_ofNat_of_zero_le (show 0 ≤ n by omega)
  have HN1 : Aside0 (1 ≤ N) := ⟨by omega⟩
  have HS1 := Aside0.mk hsz1
  clear hsz1
  obtain ⟨ad, e0, x0⟩ := Kd.at_int hr0 0 (by omega) (by simp)
  cases e0
  have HX : Aside0 (w.cell? ad = some (.int .i64 c)) := ⟨x0⟩
  have e1 : IntKind.u64.wrap ((1 : Int)) = 1 := by decide +kernel
  have e2 : IntKind.u64.wrap (N : Int) = (N : Int) := by rw [IntKind.wrap_u64]; omega
  have e3 : IntKind.i64.wrap (N : Int) = (N : Int) := by rw [IntKind.wrap_i64]; omega
  have e4 : wrap64 (N : Int) = (N : Int) := by unfold wrap64; omega
  have d0 : decide ((N : Int) < 0) = false := decide_eq_false (by omega)
  have d1 : decide ((9223372036854775807 : Int) < (N : Int)) = false := decide_eq_false (by omega)
  have d2 : decide (9223372036854775807 < N) = false := decide_eq_false (by omega)
  have HN : Aside0 (N ≤ 1099511627776) := ⟨by omega⟩
  have HM := Aside0.mk (mul_one_f (N : Int) (by omega) (by omega))
  rw [Int.toNat_natCast]
  clear hr0 x0 h0 h1
  rw [show ([c] : List Int).length = 1 from rfl]
  go_enter Try.func53, Try.ntmps53
  go_wp2_with fail
  refine (bits_Mul.calls 1 (N : Int) 0 (N : Int) _ HM.out).mono ?_
  rintro e w1 ⟨rfl, ⟨n1, rfl⟩⟩
  go_wp2_with (first
    | ((with_reducible refine gate_dst (N := 30) rfl ?_); refine Kd.R_make (Kd.int .i64) (w0 := w) w.heap.size 3 rfl (N := 30) rfl 22 _ _ rfl (N : Int) rfl rfl Try.underlying22 (.int .i64 0) 8 info3 rfl (by decide) (by omega) 0 (ok := fun _ => True) (okp := fun _ => True) rfl (fun _ hk => hk) trivial (by omega) (by have := HN.out; omega) (pw_below_drewN (Below.refl _ _) n1) (Nat.le_refl _) ?_; intro v1 w4 ho hb hg hnew; have HO := Aside0.mk (Kd.own_of_R ho); have HB := Aside0.mk hb; clear ho hb hg hnew; have HX4 := Aside0.mk ((HB.out.cell (World.block_lt_of_cell? w _ HX.out)).trans HX.out); obtain ⟨ol, oc⟩ := HO.out; rcases oc with ⟨rfl, oz⟩ | ⟨g, cap, cur, rfl, og, oh, ole, olm, osz, otk⟩; (exfalso; have := HN1.out; simp at oz; omega); have OG := Aside0.mk og; have OH := Aside0.mk oh; have OLE : Aside0 (N ≤ cap ∧ cap = cur.toList.length) := ⟨⟨by simpa using ole, by rw [← Array.length_toList] at osz; omega⟩⟩; have OLM := Aside0.mk olm; clear HO ol og oh ole olm osz otk; rw [List.length_replicate, Int.toNat_natCast])
    | (refine wpList_copy_splice rfl (.tmp 31) (.tmp 32) 22 22 rfl 3 Try.underlying22 HS1.out (some ⟨g, 0, none⟩) (some ad) N cap 1 c0 rfl rfl g 0 cur.toList 3 (by simpa using OH.out) [.int .i64 c] (by have h_ := HN1.out; exact (Nat.min_eq_left h_).symm) (fun _ => ⟨rfl, ad, rfl, fun j v hj => by
        cases j with
        | zero => simp at hj; subst hj; exact HX4.out
        | succ j => simp at hj⟩) (by have h1_ := HN1.out; have h2_ := OLE.out; show 0 + 1 ≤ cur.toList.length; omega) (by simp [Value.oneCell']) w.heap.size w HB.out OG.out ?_; intro w5 hh5 hb5; have H5 := Aside0.mk hh5.out; have B5 := Aside0.mk hb5; clear hh5 hb5))
  have HK1 := rep_splice (c := c) (k := 0) cur.toList (by simp) (Nat.zero_le _) 1 (by have h1_ := HN1.out; have h2_ := OLE.out; show 0 + 1 ≤ cur.toList.length; omega)
  rw [show List.replicate 1 (Value.int .i64 c) = [.int .i64 c] from rfl, Nat.zero_add] at HK1
  have HK2 := Aside0.mk HK1
  clear HK1 e1 e2 e3 e4 d0 d1 d2
  go_loopg [8] N (fun kq v8 w' => ∃ (k : Nat) (cu : List Value), v8 = .int .i64 (k : Int) ∧ Aside0 (kq = N - k + 1) ∧ Aside0 (1 ≤ k ∧ k ≤ N) ∧ Aside0 (w'.heap[g]? = some (.cells cu.toArray 3 (0, 0))) ∧ Aside0 (cu.take k = List.replicate k (.int .i64 c) ∧ cu.length = cap) ∧ Aside0 (Below w.heap.size w w'))
  case atStart => exact ⟨1, _, rfl, ⟨by have := HN1.out; omega⟩, ⟨by have := HN1.out; omega⟩, H5, ⟨⟨HK2.out.1, by rw [HK2.out.2, OLE.out.2]⟩⟩, B5⟩
  case round =>
    obtain ⟨k, cu, rfl, HQ, HK, HH, HC, HBW⟩ := hrel
    by_cases hk : k < N
    · have x1 : decide ((k : Int) < (N : Int)) = true := decide_eq_true (by omega)
      have x2 : decide (k < N) = true := decide_eq_true hk
      obtain ⟨m, hm⟩ : ∃ m, Nat.min k (N - k) = m := ⟨_, rfl⟩
      have HM := Aside0.mk hm
      have HML : Aside0 (1 ≤ m ∧ m ≤ k ∧ k + m ≤ N) := ⟨by have := HK.out; have h2 := hm; simp only [Nat.min_def] at h2; split at h2 <;> omega⟩
      have HKN := Aside0.mk hk
      have hcut1 := cut_from (P := Try.prog) 22 3 .i64 Try.underlying22 hi 1 hsz (some ⟨g, 0, none⟩) N cap (k : Int) (by omega) (by omega)
      have hcut2 := cut_to (P := Try.prog) 22 3 .i64 Try.underlying22 hi (some ⟨g, 0, none⟩) N cap (k : Int) (by omega) (by omega) OLE.out.1
      rw [Int.toNat_natCast] at hcut2
      rw [Int.toNat_natCast, if_neg (by have := OLE.out; omega), show Option.map (fun x : Addr => x.add (k * 1)) (some ⟨g, 0, none⟩) = some ⟨g, k, none⟩ from by
          have h_ := HK.out
          simp only [Option.map_some, Nat.mul_one, Addr.add, if_neg (show ¬ k = 0 by omega), Nat.zero_add]] at hcut1
      have e5 : wrap64 ((k : Int) + (m : Int)) = ((k + m : Nat) : Int) := by have := HN.out; have := HML.out; unfold wrap64; omega
      have E7 : Aside0 (IntKind.i64.wrap ((k : Int) + (m : Int)) = ((k + m : Nat) : Int)) := ⟨by rw [IntKind.wrap_i64]; have := HN.out; have := HML.out; omega⟩
      clear hm hk
      go_wp2_with fail
      have HPOS : Aside0 (∀ (j : Nat) (v : Value), (List.replicate m (Value.int .i64 c))[j]? = some v → wr.cell? ((⟨g, 0, none⟩ : Addr).add j) = some v) := ⟨fun j v hj => by
        have hjm : j < m := by have := (List.getElem?_eq_some_iff.1 hj).1; simpa using this
        have hv : v = .int .i64 c := by simpa [List.getElem?_replicate, hjm] using hj.symm
        have e6 : (⟨g, 0, none⟩ : Addr).add j = ⟨g, j, none⟩ := by unfold Addr.add; split <;> simp_all
        rw [e6, hv]
        have h2 : cu[j]? = some (.int .i64 c) := by
          have h3 : (cu.take k)[j]? = some (.int .i64 c) := by rw [HC.out.1]; simp [List.getElem?_replicate]; have := HML.out; omega
          rwa [List.getElem?_take_of_lt (by have := HML.out; omega)] at h3
        exact (blk_cell (cs := cu.toArray) (t := 3) HH.out j).trans (by simpa using h2)⟩
      have KEEP : Aside0 (Below w.heap.size w wr.drew) := ⟨below_drew HBW.out⟩
      go_region_held3 (fun w' => Below w.heap.size w w') (first | exact KEEP.out | go_keep) (first | (refine step_copy_splice rfl (.tmp 41) (.tmp 44) 22 22 rfl 3 Try.underlying22 HS1.out (some ⟨g, k, none⟩) (some ⟨g, 0, none⟩) (N - k) (cap - k) k cap rfl rfl g k cu 3 HH.out (List.replicate m (.int .i64 c)) (by rw [List.length_replicate]; exact HM.out.symm) (fun _ => ⟨rfl, ⟨g, 0, none⟩, rfl, HPOS.out⟩) (by rw [List.length_replicate]; have h1_ := HML.out; have h2_ := HC.out.2; have h3_ := OLE.out.1; omega) (by intro v hv; rw [List.eq_of_mem_replicate hv]; rfl) w.heap.size w (by first | exact HBW.out | exact below_drew HBW.out) OG.out ?_; intro w6 hh6 hb6; have H6 := Aside0.mk hh6.out; have B6 := Aside0.mk hb6; clear hh6 hb6; rw [show goInt (List.replicate m (Value.int .i64 c)).length = .int .i64 (m : Int) from by simp [goInt]]; have KEEP := B6))
      all_goals (
        go_wp2_with fail
        go_roundg (N - (k + m) + 1)
        case measure => have := HQ.out; have := HML.out; omega
        case rel =>
          have h4 := rep_splice (c := c) (k := k) cu HC.out.1 (by have h2_ := HC.out.2; have h3_ := OLE.out.1; have h1_ := HML.out; omega) m (by have h1_ := HML.out; have h2_ := HC.out.2; have h3_ := OLE.out.1; omega)
          exact ⟨k + m, _, by first | rw [e5] | rw [E7.out], ⟨rfl⟩, ⟨by have := HML.out; omega⟩, H6, ⟨⟨h4.1, by rw [h4.2]; exact HC.out.2⟩⟩, B6⟩)
    · have x1 : decide ((k : Int) < (N : Int)) = false := decide_eq_false (by omega)
      have x2 : decide (k < N) = false := decide_eq_false hk
      have hkN : k = N := by have := HK.out; omega
      subst hkN
      clear hk
      go_wp2_with fail
      go_ret
      refine ⟨_, rfl, Kd.R_of_own (h1 := fun _ => rfl) ?_ (fun _ _ => trivial), HBW.out⟩
      rw [List.length_replicate]
      refine ⟨by simp [encs], .inr ⟨g, cap, cu.toArray, rfl, OG.out, HH.out, OLE.out.1, OLM.out, by have := HC.out.2; simp; omega, ?_⟩⟩
      simpa [encs] using HC.out.1
def slices_Repeat_int_int.f (l0 : List Int) (a1 : Int) : Option (List Int) := if l0.length = 1 then (if 1 ≤ a1 then (if a1 ≤ 1099511627776 then some (List.replicate a1.toNat (rd l0 0)) else none) else none) else none
theorem slices_Repeat_int_int.calls (A0 : Option Addr) (c0 : Nat) (l0 : List Int) (a1 : Int) (r : List Int) (w : World) (hr0 : Kd.C (Kd.int .i64) w A0 l0.length l0) (hc0 : l0.length ≤ c0) (h : slices_Repeat_int_int.f l0 a1 = some r) :
    Calls Try.prog 53 #[.slice A0 l0.length c0, .int .i64 a1] w fun e w' => ∃ v0_ : Value, e = .returned (v0_) ∧ Kd.R (Kd.int .i64) 3 w' w.heap.size (fun _ => True) v0_ r ∧ Below w.heap.size w w' := by
  unfold slices_Repeat_int_int.f at h
  by_cases h1 : l0.length = 1
  · by_cases h2 : 1 ≤ a1
    · by_cases h3 : a1 ≤ 1099511627776
      · rw [if_pos h1, if_pos h2, if_pos h3] at h
        obtain rfl := Option.some.inj h
        match l0, h1 with
        | [c], _ => exact rep_calls A0 c0 [c] c rfl hr0 a1 h2 h3
      · rw [if_pos h1, if_pos h2, if_neg h3] at h; cases h
    · rw [if_pos h1, if_neg h2] at h; cases h
  · rw [if_neg h1] at h; cases h

end Go.Proofs.Ytaebgjdaoloceaa.QBmpP
