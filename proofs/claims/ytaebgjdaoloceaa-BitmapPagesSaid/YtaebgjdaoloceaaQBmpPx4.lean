/- Part of a proof: functions of the program as Lean functions, and that the machine's calls come to them. Made by a program of this session (wip/mp). -/
import Derived.Test.YtaebgjdaoloceaaQBmpPx0
import Derived.Test.YtaebgjdaoloceaaQBmpPx1
import Derived.Test.YtaebgjdaoloceaaQBmpPx3
namespace Go.Proofs.Ytaebgjdaoloceaa.QBmpP
open Go.RowKit Go.Proofs.YtaebgjdaoloceaaV Go.Proofs.YtaebgjdaoloceaaW.PrintWords Go.Proofs.YtaebgjdaoloceaaW.PrintLast Go.Proofs.YtaebgjdaoloceaaW.PrintMore
attribute [local go_sem] max2_int min2_int max_two min_two max_three min_three max_four min_four   -- for this text's walks alone
set_option linter.unusedVariables false
set_option linter.unusedSimpArgs false

/-! ### slices_IndexFunc_int_int__88: function 83 -/
def slices_IndexFunc_int_int__88.l0 : Nat → List Int → Int → Int → Option (Int)
 | 0,_,_,_=>none
 | k+1,x0,x7,x8=>if x8 < x7 then (if 0≤x8 then (if x8 < (x0.length:Int) then ((bitmap_colours_1.f (rd x0 x8)).bind fun t207=>(if t207=true then (some x8) else (slices_IndexFunc_int_int__88.l0 k x0 x7 (wrap64 (x8+1))))) else (none)) else (none)) else (some (-1))
def slices_IndexFunc_int_int__88.f (k : Nat) (l0 : List Int)  : Option (Int) := slices_IndexFunc_int_int__88.l0 k l0 (l0.length : Int) 0
theorem slices_IndexFunc_int_int__88.mono_l:∀ k,(∀ y0 y1 y2,LeO (slices_IndexFunc_int_int__88.l0 k y0 y1 y2) (slices_IndexFunc_int_int__88.l0 (k+1) y0 y1 y2))
 | 0=>fun _ _ _ r h=>by simp [slices_IndexFunc_int_int__88.l0] at h
 | k+1=>by
  have ih0:=slices_IndexFunc_int_int__88.mono_l k
  · intro y0 y1 y2
    unfold slices_IndexFunc_int_int__88.l0
    repeat' first
    | (with_reducible exact ih0 _ _ _)
    | (with_reducible exact LeO.refl _)
    | (with_reducible exact LeO.none _)
    | (with_reducible refine LeO.ite ?_ ?_)
    | (with_reducible refine LeO.bind ?_ (fun _=>?_))
    | exact LeO.none _
    | refine LeO.ite ?_ ?_
    | refine LeO.bind ?_ (fun _=>?_)
theorem slices_IndexFunc_int_int__88.mono:∀ a0 k,LeO (slices_IndexFunc_int_int__88.f k a0) (slices_IndexFunc_int_int__88.f (k+1) a0):=by
 intro a0 k
 have ih0:=slices_IndexFunc_int_int__88.mono_l k
 unfold slices_IndexFunc_int_int__88.f
 repeat' first
  | (with_reducible exact ih0 _ _ _)
  | (with_reducible exact LeO.refl _)
  | (with_reducible exact LeO.none _)
  | (with_reducible refine LeO.ite ?_ ?_)
  | (with_reducible refine LeO.bind ?_ (fun _=>?_))
  | exact LeO.none _
  | refine LeO.ite ?_ ?_
  | refine LeO.bind ?_ (fun _=>?_)
set_option maxHeartbeats 8000000 in
set_option maxRecDepth 100000 in
theorem slices_IndexFunc_int_int__88.calls (k:Nat) (A0:Option Addr) (c0:Nat) (l0:List Int)  (r:Int) (w:World) (hr0:Kd.C (Kd.int .i64) w A0 l0.length l0) (hc0:l0.length≤c0) (h:slices_IndexFunc_int_int__88.f k l0=some r) :
 Calls Try.prog 83 #[.slice A0 l0.length c0,.func (.func 88) #[] #[]] w fun e w'=>e=.returned (.int .i64 r)∧Drawn0 w w':=by
 have HR0:=Aside0.mk hr0
 have HC0:=Aside0.mk hc0;clear hr0 hc0
 have H:(slices_IndexFunc_int_int__88.l0 k l0 (l0.length:Int) 0)=some r:=h;clear h
 have H':=Aside0.mk H;clear H
 go_enter Try.func83,Try.ntmps83
 go_wp2
 go_loopg [8] k (fun kq v8 w'=>∃ (x8_1:Int),v8=.int .i64 x8_1∧Aside0 (slices_IndexFunc_int_int__88.l0 kq l0 (l0.length:Int) x8_1=some r)∧Aside0 (kq≤k)∧Drawn0 w w')
 case atStart=>exact ⟨(0),okV,H',⟨Nat.le_refl _⟩,by repeat (first|exact Drawn0.refl _|apply Drawn0.step)⟩
 case round =>
  clear H'
  try clear p2
  obtain ⟨x8_1,rfl,HA,HK1,⟨m1,rfl⟩⟩:=hrel
  cases gk with
  | zero=>exact absurd HA.out (by simp [slices_IndexFunc_int_int__88.l0])
  | succ k1 =>
   have H:=HA.out;clear HA
   simp only [slices_IndexFunc_int_int__88.l0] at H
   by_cases c3:x8_1 < (l0.length:Int)
   · rw [if_pos c3] at H
     have c3b0:decide (x8_1 < (l0.length:Int))=true:=decide_eq_true c3;clear c3
     by_cases c4:0≤x8_1
     · rw [if_pos c4] at H
       have c4b0:decide (0≤x8_1)=true:=decide_eq_true c4;clear c4
       by_cases c5:x8_1 < (l0.length:Int)
       · rw [if_pos c5] at H
         have c5b0:decide (x8_1 < (l0.length:Int))=true:=decide_eq_true c5;clear c5
         replace H:=Option.bind_eq_some_iff.mp H
         obtain ⟨t207,A60,H⟩:=H
         replace H:(if t207=true then (some x8_1) else (slices_IndexFunc_int_int__88.l0 k1 l0 (l0.length:Int) (wrap64 (x8_1+1))))=some r:=H
         have A6:=Aside0.mk A60;clear A60
         by_cases c7:t207=true
         · subst c7
           have H1:(some x8_1)=some r:=by rw [if_pos rfl] at H;exact H
           clear H
           have H:=H1;clear H1
           obtain rfl:=Option.some.inj H
           have p206:0≤(x8_1:Int):=of_decide_eq_true asV
           have q206:x8_1 < (l0.length:Int):=of_decide_eq_true asV
           obtain ⟨ad206,e206,hx206_0⟩:=Kd.at_int HR0.out x8_1 p206 q206
           cases e206
           replace p206:=eq_true p206
           replace q206:=eq_true q206
           go_wp2_with (first|(go_at_call 88;(with_reducible refine (bitmap_colours_1.calls (rd l0 x8_1) true _ A6.out).mono ?_);rintro e w' ⟨rfl,⟨nd,rfl⟩⟩))
           go_ret
           exact ⟨by first|rfl|(simp;done)|(simp [*];done),by repeat (first|exact Drawn0.refl _|apply Drawn0.step)⟩
         replace c7:=Bool.eq_false_iff.mpr c7;subst c7
         have H1:(slices_IndexFunc_int_int__88.l0 k1 l0 (l0.length:Int) (wrap64 (x8_1+1)))=some r:=by rw [if_neg (show ¬ (false=true) by decide)] at H;exact H
         clear H
         have H:=H1;clear H1
         have H':=Aside0.mk H;clear H
         have p206:0≤(x8_1:Int):=of_decide_eq_true asV
         have q206:x8_1 < (l0.length:Int):=of_decide_eq_true asV
         obtain ⟨ad206,e206,hx206_0⟩:=Kd.at_int HR0.out x8_1 p206 q206
         cases e206
         replace p206:=eq_true p206
         replace q206:=eq_true q206
         go_wp2_with (first|(go_at_call 88;(with_reducible refine (bitmap_colours_1.calls (rd l0 x8_1) false _ A6.out).mono ?_);rintro e w' ⟨rfl,⟨nd,rfl⟩⟩))
         go_roundg k1
         case measure=>have:=HK1.out;omega
         case rel=>exact ⟨(wrap64 (x8_1+1)),okV,H',⟨by have:=HK1.out;omega⟩,by repeat (first|exact Drawn0.refl _|apply Drawn0.step)⟩
       rw [if_neg c5] at H
       exact absurd H (by simp)
     rw [if_neg c4] at H
     exact absurd H (by simp)
   rw [if_neg c3] at H
   have c3b0:decide (x8_1 < (l0.length:Int))=false:=decide_eq_false c3;clear c3
   obtain rfl:=Option.some.inj H
   go_wp2
   go_ret
   exact ⟨by first|rfl|(simp;done)|(simp [*];done),by repeat (first|exact Drawn0.refl _|apply Drawn0.step)⟩

/-! ### slices_ContainsFunc_int_int__88: function 48 -/
def slices_ContainsFunc_int_int__88.f (k : Nat) (l0 : List Int)  : Option (Bool) := (slices_IndexFunc_int_int__88.f k l0).bind fun t208 => (some (decide (t208 ≥ 0)))
theorem slices_ContainsFunc_int_int__88.mono:∀ a0 k,LeO (slices_ContainsFunc_int_int__88.f k a0) (slices_ContainsFunc_int_int__88.f (k+1) a0):=by
 intro a0 k
 unfold slices_ContainsFunc_int_int__88.f
 repeat' first
  | (with_reducible exact slices_IndexFunc_int_int__88.mono _ _)
  | (with_reducible exact LeO.refl _)
  | (with_reducible exact LeO.none _)
  | (with_reducible refine LeO.ite ?_ ?_)
  | (with_reducible refine LeO.bind ?_ (fun _=>?_))
  | exact LeO.none _
  | refine LeO.ite ?_ ?_
  | refine LeO.bind ?_ (fun _=>?_)
set_option maxHeartbeats 8000000 in
set_option maxRecDepth 100000 in
theorem slices_ContainsFunc_int_int__88.calls (k:Nat) (A0:Option Addr) (c0:Nat) (l0:List Int)  (r:Bool) (w:World) (hr0:Kd.C (Kd.int .i64) w A0 l0.length l0) (hc0:l0.length≤c0) (h:slices_ContainsFunc_int_int__88.f k l0=some r) :
 Calls Try.prog 48 #[.slice A0 l0.length c0,.func (.func 88) #[] #[]] w fun e w'=>e=.returned (.bool r)∧Drawn0 w w':=by
 have HR0:=Aside0.mk hr0
 have HC0:=Aside0.mk hc0;clear hr0 hc0
 have H:((slices_IndexFunc_int_int__88.f k l0).bind fun t208=>(some (decide (t208≥0))))=some r:=h;clear h
 replace H:=Option.bind_eq_some_iff.mp H
 obtain ⟨t208,A30,H⟩:=H
 replace H:(some (decide (t208≥0)))=some r:=H
 have A3:=Aside0.mk A30;clear A30
 obtain rfl:=Option.some.inj H
 go_enter Try.func48,Try.ntmps48
 go_wp2_with (first|((with_reducible refine gate_callee (f:=83) rfl ?_);refine goesL_ (some 7) rfl rfl Try.func83 (by kernel_rfl) rfl #[.slice A0 l0.length c0,.func (.func 88) #[] #[]] rfl (by (try simp only [List.map_toArray,List.map_cons,List.map_nil]);first|done|rfl|(simp only [List.length_drop,List.length_take];rfl)) ?_;(with_reducible refine (slices_IndexFunc_int_int__88.calls k _ _ l0  t208 _ ?side1 ?side2 A3.out).mono ?_);(case side1=>repeat (first|exact HR0.out|(with_reducible refine Kd.C_alloc ?_ _)|(with_reducible refine Kd.C_drewN ?_ _)|(with_reducible refine Kd.C_drew ?_)));(case side2=>exact HC0.out);rintro e w' ⟨rfl,⟨nd,rfl⟩⟩;refine ⟨_,rfl,?_⟩))
 go_ret
 exact ⟨by first|rfl|(simp;done)|(simp [*];done),by repeat (first|exact Drawn0.refl _|apply Drawn0.step)⟩

/-! ### bitmap_colours: function 71 -/
def bitmap_colours.f (k : Nat) (l0 : List Int) : Option (Bool) := (slices_ContainsFunc_int_int__88.f k l0).bind fun t209 => (some (!t209))
theorem bitmap_colours.mono:∀ a0 k,LeO (bitmap_colours.f k a0) (bitmap_colours.f (k+1) a0):=by
 intro a0 k
 unfold bitmap_colours.f
 repeat' first
  | (with_reducible exact slices_ContainsFunc_int_int__88.mono _ _)
  | (with_reducible exact LeO.refl _)
  | (with_reducible exact LeO.none _)
  | (with_reducible refine LeO.ite ?_ ?_)
  | (with_reducible refine LeO.bind ?_ (fun _=>?_))
  | exact LeO.none _
  | refine LeO.ite ?_ ?_
  | refine LeO.bind ?_ (fun _=>?_)
set_option maxHeartbeats 8000000 in
set_option maxRecDepth 100000 in
theorem bitmap_colours.calls (k:Nat) (A0:Option Addr) (c0:Nat) (l0:List Int) (r:Bool) (w:World) (hr0:Kd.C (Kd.int .i64) w A0 l0.length l0) (hc0:l0.length≤c0) (h:bitmap_colours.f k l0=some r) :
 Calls Try.prog 71 #[.slice A0 l0.length c0] w fun e w'=>e=.returned (.bool r)∧Drawn0 w w':=by
 have HR0:=Aside0.mk hr0
 have HC0:=Aside0.mk hc0;clear hr0 hc0
 have H:((slices_ContainsFunc_int_int__88.f k l0).bind fun t209=>(some (!t209)))=some r:=h;clear h
 replace H:=Option.bind_eq_some_iff.mp H
 obtain ⟨t209,A20,H⟩:=H
 replace H:(some (!t209))=some r:=H
 have A2:=Aside0.mk A20;clear A20
 obtain rfl:=Option.some.inj H
 go_enter Try.func71,Try.ntmps71
 go_wp2_with (first|((with_reducible refine gate_callee (f:=48) rfl ?_);refine goesL_ (some 4) rfl rfl Try.func48 (by kernel_rfl) rfl #[.slice A0 l0.length c0,.func (.func 88) #[] #[]] rfl (by (try simp only [List.map_toArray,List.map_cons,List.map_nil]);first|done|rfl|(simp only [List.length_drop,List.length_take];rfl)) ?_;(with_reducible refine (slices_ContainsFunc_int_int__88.calls k _ _ l0  t209 _ ?side1 ?side2 A2.out).mono ?_);(case side1=>repeat (first|exact HR0.out|(with_reducible refine Kd.C_alloc ?_ _)|(with_reducible refine Kd.C_drewN ?_ _)|(with_reducible refine Kd.C_drew ?_)));(case side2=>exact HC0.out);rintro e w' ⟨rfl,⟨nd,rfl⟩⟩;refine ⟨_,rfl,?_⟩))
 go_ret
 exact ⟨by first|rfl|(simp;done)|(simp [*];done),by repeat (first|exact Drawn0.refl _|apply Drawn0.step)⟩

/-! ### bitmap_checkPatch_1: function 89 -/
def bitmap_checkPatch_1.f (a0 : Int) : Option (Bool) := (bitmap_within.f a0 0 15).bind fun t210 => (some (!t210))
set_option maxHeartbeats 8000000 in
set_option maxRecDepth 100000 in
theorem bitmap_checkPatch_1.calls (a0:Int) (r:Bool) (w:World) (h:bitmap_checkPatch_1.f a0=some r) :
 Calls Try.prog 89 #[.int .i64 a0] w fun e w'=>e=.returned (.bool r)∧Drawn0 w w':=by
 have H:((bitmap_within.f a0 0 15).bind fun t210=>(some (!t210)))=some r:=h;clear h
 replace H:=Option.bind_eq_some_iff.mp H
 obtain ⟨t210,A20,H⟩:=H
 replace H:(some (!t210))=some r:=H
 have A2:=Aside0.mk A20;clear A20
 obtain rfl:=Option.some.inj H
 go_enter Try.func89,Try.ntmps89
 go_wp2_with (first|((with_reducible refine gate_callee (f:=47) rfl ?_);refine goesL_ (some 4) rfl rfl Try.func47 (by kernel_rfl) rfl #[.int .i64 a0,.int .i64 0,.int .i64 15] rfl (by (try simp only [List.map_toArray,List.map_cons,List.map_nil]);first|done|rfl|(simp only [List.length_drop,List.length_take];rfl)) ?_;(with_reducible refine (bitmap_within.calls a0 0 15 t210 _ A2.out).mono ?_);rintro e w' ⟨rfl,⟨nd,rfl⟩⟩;refine ⟨_,rfl,?_⟩))
 go_ret
 exact ⟨by first|rfl|(simp;done)|(simp [*];done),by repeat (first|exact Drawn0.refl _|apply Drawn0.step)⟩

/-! ### slices_IndexFunc_int_int__89: function 83 -/
def slices_IndexFunc_int_int__89.l0 : Nat → List Int → Int → Int → Option (Int)
 | 0,_,_,_=>none
 | k+1,x0,x7,x8=>if x8 < x7 then (if 0≤x8 then (if x8 < (x0.length:Int) then ((bitmap_checkPatch_1.f (rd x0 x8)).bind fun t212=>(if t212=true then (some x8) else (slices_IndexFunc_int_int__89.l0 k x0 x7 (wrap64 (x8+1))))) else (none)) else (none)) else (some (-1))
def slices_IndexFunc_int_int__89.f (k : Nat) (l0 : List Int)  : Option (Int) := slices_IndexFunc_int_int__89.l0 k l0 (l0.length : Int) 0
theorem slices_IndexFunc_int_int__89.mono_l:∀ k,(∀ y0 y1 y2,LeO (slices_IndexFunc_int_int__89.l0 k y0 y1 y2) (slices_IndexFunc_int_int__89.l0 (k+1) y0 y1 y2))
 | 0=>fun _ _ _ r h=>by simp [slices_IndexFunc_int_int__89.l0] at h
 | k+1=>by
  have ih0:=slices_IndexFunc_int_int__89.mono_l k
  · intro y0 y1 y2
    unfold slices_IndexFunc_int_int__89.l0
    repeat' first
    | (with_reducible exact ih0 _ _ _)
    | (with_reducible exact LeO.refl _)
    | (with_reducible exact LeO.none _)
    | (with_reducible refine LeO.ite ?_ ?_)
    | (with_reducible refine LeO.bind ?_ (fun _=>?_))
    | exact LeO.none _
    | refine LeO.ite ?_ ?_
    | refine LeO.bind ?_ (fun _=>?_)
theorem slices_IndexFunc_int_int__89.mono:∀ a0 k,LeO (slices_IndexFunc_int_int__89.f k a0) (slices_IndexFunc_int_int__89.f (k+1) a0):=by
 intro a0 k
 have ih0:=slices_IndexFunc_int_int__89.mono_l k
 unfold slices_IndexFunc_int_int__89.f
 repeat' first
  | (with_reducible exact ih0 _ _ _)
  | (with_reducible exact LeO.refl _)
  | (with_reducible exact LeO.none _)
  | (with_reducible refine LeO.ite ?_ ?_)
  | (with_reducible refine LeO.bind ?_ (fun _=>?_))
  | exact LeO.none _
  | refine LeO.ite ?_ ?_
  | refine LeO.bind ?_ (fun _=>?_)
set_option maxHeartbeats 8000000 in
set_option maxRecDepth 100000 in
theorem slices_IndexFunc_int_int__89.calls (k:Nat) (A0:Option Addr) (c0:Nat) (l0:List Int)  (r:Int) (w:World) (hr0:Kd.C (Kd.int .i64) w A0 l0.length l0) (hc0:l0.length≤c0) (h:slices_IndexFunc_int_int__89.f k l0=some r) :
 Calls Try.prog 83 #[.slice A0 l0.length c0,.func (.func 89) #[] #[]] w fun e w'=>e=.returned (.int .i64 r)∧Drawn0 w w':=by
 have HR0:=Aside0.mk hr0
 have HC0:=Aside0.mk hc0;clear hr0 hc0
 have H:(slices_IndexFunc_int_int__89.l0 k l0 (l0.length:Int) 0)=some r:=h;clear h
 have H':=Aside0.mk H;clear H
 go_enter Try.func83,Try.ntmps83
 go_wp2
 go_loopg [8] k (fun kq v8 w'=>∃ (x8_1:Int),v8=.int .i64 x8_1∧Aside0 (slices_IndexFunc_int_int__89.l0 kq l0 (l0.length:Int) x8_1=some r)∧Aside0 (kq≤k)∧Drawn0 w w')
 case atStart=>exact ⟨(0),okV,H',⟨Nat.le_refl _⟩,by repeat (first|exact Drawn0.refl _|apply Drawn0.step)⟩
 case round =>
  clear H'
  try clear p2
  obtain ⟨x8_1,rfl,HA,HK1,⟨m1,rfl⟩⟩:=hrel
  cases gk with
  | zero=>exact absurd HA.out (by simp [slices_IndexFunc_int_int__89.l0])
  | succ k1 =>
   have H:=HA.out;clear HA
   simp only [slices_IndexFunc_int_int__89.l0] at H
   by_cases c3:x8_1 < (l0.length:Int)
   · rw [if_pos c3] at H
     have c3b0:decide (x8_1 < (l0.length:Int))=true:=decide_eq_true c3;clear c3
     by_cases c4:0≤x8_1
     · rw [if_pos c4] at H
       have c4b0:decide (0≤x8_1)=true:=decide_eq_true c4;clear c4
       by_cases c5:x8_1 < (l0.length:Int)
       · rw [if_pos c5] at H
         have c5b0:decide (x8_1 < (l0.length:Int))=true:=decide_eq_true c5;clear c5
         replace H:=Option.bind_eq_some_iff.mp H
         obtain ⟨t212,A60,H⟩:=H
         replace H:(if t212=true then (some x8_1) else (slices_IndexFunc_int_int__89.l0 k1 l0 (l0.length:Int) (wrap64 (x8_1+1))))=some r:=H
         have A6:=Aside0.mk A60;clear A60
         by_cases c7:t212=true
         · subst c7
           have H1:(some x8_1)=some r:=by rw [if_pos rfl] at H;exact H
           clear H
           have H:=H1;clear H1
           obtain rfl:=Option.some.inj H
           have p211:0≤(x8_1:Int):=of_decide_eq_true asV
           have q211:x8_1 < (l0.length:Int):=of_decide_eq_true asV
           obtain ⟨ad211,e211,hx211_0⟩:=Kd.at_int HR0.out x8_1 p211 q211
           cases e211
           replace p211:=eq_true p211
           replace q211:=eq_true q211
           go_wp2_with (first|(go_at_call 89;(with_reducible refine (bitmap_checkPatch_1.calls (rd l0 x8_1) true _ A6.out).mono ?_);rintro e w' ⟨rfl,⟨nd,rfl⟩⟩))
           go_ret
           exact ⟨by first|rfl|(simp;done)|(simp [*];done),by repeat (first|exact Drawn0.refl _|apply Drawn0.step)⟩
         replace c7:=Bool.eq_false_iff.mpr c7;subst c7
         have H1:(slices_IndexFunc_int_int__89.l0 k1 l0 (l0.length:Int) (wrap64 (x8_1+1)))=some r:=by rw [if_neg (show ¬ (false=true) by decide)] at H;exact H
         clear H
         have H:=H1;clear H1
         have H':=Aside0.mk H;clear H
         have p211:0≤(x8_1:Int):=of_decide_eq_true asV
         have q211:x8_1 < (l0.length:Int):=of_decide_eq_true asV
         obtain ⟨ad211,e211,hx211_0⟩:=Kd.at_int HR0.out x8_1 p211 q211
         cases e211
         replace p211:=eq_true p211
         replace q211:=eq_true q211
         go_wp2_with (first|(go_at_call 89;(with_reducible refine (bitmap_checkPatch_1.calls (rd l0 x8_1) false _ A6.out).mono ?_);rintro e w' ⟨rfl,⟨nd,rfl⟩⟩))
         go_roundg k1
         case measure=>have:=HK1.out;omega
         case rel=>exact ⟨(wrap64 (x8_1+1)),okV,H',⟨by have:=HK1.out;omega⟩,by repeat (first|exact Drawn0.refl _|apply Drawn0.step)⟩
       rw [if_neg c5] at H
       exact absurd H (by simp)
     rw [if_neg c4] at H
     exact absurd H (by simp)
   rw [if_neg c3] at H
   have c3b0:decide (x8_1 < (l0.length:Int))=false:=decide_eq_false c3;clear c3
   obtain rfl:=Option.some.inj H
   go_wp2
   go_ret
   exact ⟨by first|rfl|(simp;done)|(simp [*];done),by repeat (first|exact Drawn0.refl _|apply Drawn0.step)⟩

/-! ### slices_ContainsFunc_int_int__89: function 48 -/
def slices_ContainsFunc_int_int__89.f (k : Nat) (l0 : List Int)  : Option (Bool) := (slices_IndexFunc_int_int__89.f k l0).bind fun t213 => (some (decide (t213 ≥ 0)))
theorem slices_ContainsFunc_int_int__89.mono:∀ a0 k,LeO (slices_ContainsFunc_int_int__89.f k a0) (slices_ContainsFunc_int_int__89.f (k+1) a0):=by
 intro a0 k
 unfold slices_ContainsFunc_int_int__89.f
 repeat' first
  | (with_reducible exact slices_IndexFunc_int_int__89.mono _ _)
  | (with_reducible exact LeO.refl _)
  | (with_reducible exact LeO.none _)
  | (with_reducible refine LeO.ite ?_ ?_)
  | (with_reducible refine LeO.bind ?_ (fun _=>?_))
  | exact LeO.none _
  | refine LeO.ite ?_ ?_
  | refine LeO.bind ?_ (fun _=>?_)
set_option maxHeartbeats 8000000 in
set_option maxRecDepth 100000 in
theorem slices_ContainsFunc_int_int__89.calls (k:Nat) (A0:Option Addr) (c0:Nat) (l0:List Int)  (r:Bool) (w:World) (hr0:Kd.C (Kd.int .i64) w A0 l0.length l0) (hc0:l0.length≤c0) (h:slices_ContainsFunc_int_int__89.f k l0=some r) :
 Calls Try.prog 48 #[.slice A0 l0.length c0,.func (.func 89) #[] #[]] w fun e w'=>e=.returned (.bool r)∧Drawn0 w w':=by
 have HR0:=Aside0.mk hr0
 have HC0:=Aside0.mk hc0;clear hr0 hc0
 have H:((slices_IndexFunc_int_int__89.f k l0).bind fun t213=>(some (decide (t213≥0))))=some r:=h;clear h
 replace H:=Option.bind_eq_some_iff.mp H
 obtain ⟨t213,A30,H⟩:=H
 replace H:(some (decide (t213≥0)))=some r:=H
 have A3:=Aside0.mk A30;clear A30
 obtain rfl:=Option.some.inj H
 go_enter Try.func48,Try.ntmps48
 go_wp2_with (first|((with_reducible refine gate_callee (f:=83) rfl ?_);refine goesL_ (some 7) rfl rfl Try.func83 (by kernel_rfl) rfl #[.slice A0 l0.length c0,.func (.func 89) #[] #[]] rfl (by (try simp only [List.map_toArray,List.map_cons,List.map_nil]);first|done|rfl|(simp only [List.length_drop,List.length_take];rfl)) ?_;(with_reducible refine (slices_IndexFunc_int_int__89.calls k _ _ l0  t213 _ ?side1 ?side2 A3.out).mono ?_);(case side1=>repeat (first|exact HR0.out|(with_reducible refine Kd.C_alloc ?_ _)|(with_reducible refine Kd.C_drewN ?_ _)|(with_reducible refine Kd.C_drew ?_)));(case side2=>exact HC0.out);rintro e w' ⟨rfl,⟨nd,rfl⟩⟩;refine ⟨_,rfl,?_⟩))
 go_ret
 exact ⟨by first|rfl|(simp;done)|(simp [*];done),by repeat (first|exact Drawn0.refl _|apply Drawn0.step)⟩

/-! ### bitmap_checkPatch: function 72 -/
def bitmap_checkPatch.j0 : Nat → Bool → Int → Int → Int → Int → List Int → Option (Int)
 | 0,_,_,_,_,_,_=>none
 | k+1,x10,x215000,x215001,x215002,x215003,x215004=>if x10=true then (some 1) else (if (x215004.length:Int)=(wrap64 (x215002*x215003)) then (some 0) else (some 4))
def bitmap_checkPatch.f (k : Nat) (a0_0 : Int) (a0_1 : Int) (a0_2 : Int) (a0_3 : Int) (l0_4 : List Int) : Option (Int) := (bitmap_place.f a0_0 a0_1 a0_2 a0_3 l0_4).bind fun t215 => (if t215 = true then ((slices_ContainsFunc_int_int__89.f k l0_4).bind fun t216 => (bitmap_checkPatch.j0 k t216 a0_0 a0_1 a0_2 a0_3 l0_4)) else (bitmap_checkPatch.j0 k true a0_0 a0_1 a0_2 a0_3 l0_4))
theorem bitmap_checkPatch.mono_l:∀ k,(∀ y0 y1 y2 y3 y4 y5,LeO (bitmap_checkPatch.j0 k y0 y1 y2 y3 y4 y5) (bitmap_checkPatch.j0 (k+1) y0 y1 y2 y3 y4 y5))
 | 0=>fun _ _ _ _ _ _ r h=>by simp [bitmap_checkPatch.j0] at h
 | k+1=>by
  have ih0:=bitmap_checkPatch.mono_l k
  · intro y0 y1 y2 y3 y4 y5
    unfold bitmap_checkPatch.j0
    repeat' first
    | (with_reducible exact ih0 _ _ _ _ _ _)
    | (with_reducible exact slices_ContainsFunc_int_int__89.mono _ _)
    | (with_reducible exact LeO.refl _)
    | (with_reducible exact LeO.none _)
    | (with_reducible refine LeO.ite ?_ ?_)
    | (with_reducible refine LeO.bind ?_ (fun _=>?_))
    | exact LeO.none _
    | refine LeO.ite ?_ ?_
    | refine LeO.bind ?_ (fun _=>?_)
theorem bitmap_checkPatch.mono:∀ a0 a1 a2 a3 a4 k,LeO (bitmap_checkPatch.f k a0 a1 a2 a3 a4) (bitmap_checkPatch.f (k+1) a0 a1 a2 a3 a4):=by
 intro a0 a1 a2 a3 a4 k
 have ih0:=bitmap_checkPatch.mono_l k
 unfold bitmap_checkPatch.f
 repeat' first
  | (with_reducible exact ih0 _ _ _ _ _ _)
  | (with_reducible exact slices_ContainsFunc_int_int__89.mono _ _)
  | (with_reducible exact LeO.refl _)
  | (with_reducible exact LeO.none _)
  | (with_reducible refine LeO.ite ?_ ?_)
  | (with_reducible refine LeO.bind ?_ (fun _=>?_))
  | exact LeO.none _
  | refine LeO.ite ?_ ?_
  | refine LeO.bind ?_ (fun _=>?_)
set_option maxHeartbeats 8000000 in
set_option maxRecDepth 100000 in
theorem bitmap_checkPatch.calls (k:Nat) (a0_0:Int) (a0_1:Int) (a0_2:Int) (a0_3:Int) (A0_4:Option Addr) (c0_4:Nat) (l0_4:List Int) (r:Int) (w:World) (hr0_4:Kd.C (Kd.int .i64) w A0_4 l0_4.length l0_4) (hc0_4:l0_4.length≤c0_4) (h:bitmap_checkPatch.f k a0_0 a0_1 a0_2 a0_3 l0_4=some r) :
 Calls Try.prog 72 #[.agg #[.int .i64 a0_0,.int .i64 a0_1,.int .i64 a0_2,.int .i64 a0_3,.slice A0_4 l0_4.length c0_4]] w fun e w'=>e=.returned (.int .i64 r)∧Below w.heap.size w w':=by
 have hu91:=Try.underlying91
 have HR0_4:=Aside0.mk hr0_4
 have HC0_4:=Aside0.mk hc0_4;clear hr0_4 hc0_4;have HB:=Aside0.mk (Below.refl w.heap.size w)
 have H:((bitmap_place.f a0_0 a0_1 a0_2 a0_3 l0_4).bind fun t215=>(if t215=true then ((slices_ContainsFunc_int_int__89.f k l0_4).bind fun t216=>(bitmap_checkPatch.j0 k t216 a0_0 a0_1 a0_2 a0_3 l0_4)) else (bitmap_checkPatch.j0 k true a0_0 a0_1 a0_2 a0_3 l0_4)))=some r:=h;clear h
 have HC2:=Aside0.mk H;clear H
 go_enter Try.func72,Try.ntmps72
 go_upto_region 1 with (first|((with_reducible refine gate_dst (N:=1) rfl ?_);refine box_event ?hg (N:=1) ?hd (cs:=#[.int .i64 a0_0,.int .i64 a0_1,.int .i64 a0_2,.int .i64 a0_3,.slice A0_4 l0_4.length c0_4]) (t:=91) ?hr ?_;(case hd=>rfl);(case hg=>rfl);(case hr=>first|(go_simp;done)|(go_simp;rfl));intro gb214 hg w3 hbox hb;have n0_:=Aside0.mk (below_step (belV HB.out) hb);have n1_:=Aside0.mk (hbox);have n2_:=Aside0.mk ((by rw [hg];exact (below_size (belV HB.out)):w.heap.size≤gb214));have n3_:=Aside0.mk ((by rw [hg];exact (below_size (belV HB.out)):w.heap.size≤gb214));clear HB;have HB:=n0_;have BK214:=n1_;have GW214:=n2_;have GE214:=n3_;clear n0_ n1_ n2_ n3_;clear hb hbox hg))
 (try simp only [Act.put,List.setIfInBounds_toArray,List.set_cons_zero,List.set_cons_succ])
 go_cut [10] (fun v10 wc=>∃ (kq:Nat) (x10_1:Bool),v10=.bool x10_1∧Aside0 (bitmap_checkPatch.j0 kq x10_1 a0_0 a0_1 a0_2 a0_3 l0_4=some r)∧Aside0 (kq≤k)∧Aside0 (wc.heap[gb214]?=some (.cells #[.int .i64 a0_0,.int .i64 a0_1,.int .i64 a0_2,.int .i64 a0_3,(.slice A0_4 l0_4.length c0_4)] 91 (0,0)))∧Aside0 (Below w.heap.size w wc))
 case first =>
  have H:=HC2.out;clear HC2
  replace H:=Option.bind_eq_some_iff.mp H
  obtain ⟨t215,A40,H⟩:=H
  replace H:(if t215=true then ((slices_ContainsFunc_int_int__89.f k l0_4).bind fun t216=>(bitmap_checkPatch.j0 k t216 a0_0 a0_1 a0_2 a0_3 l0_4)) else (bitmap_checkPatch.j0 k true a0_0 a0_1 a0_2 a0_3 l0_4))=some r:=H
  have A4:=Aside0.mk A40;clear A40
  by_cases c5:t215=true
  · subst c5
    have H1:((slices_ContainsFunc_int_int__89.f k l0_4).bind fun t216=>(bitmap_checkPatch.j0 k t216 a0_0 a0_1 a0_2 a0_3 l0_4))=some r:=by rw [if_pos rfl] at H;exact H
    clear H
    have H:=H1;clear H1
    replace H:=Option.bind_eq_some_iff.mp H
    obtain ⟨t216,A60,H⟩:=H
    replace H:(bitmap_checkPatch.j0 k t216 a0_0 a0_1 a0_2 a0_3 l0_4)=some r:=H
    have A6:=Aside0.mk A60;clear A60
    have H':=Aside0.mk H;clear H
    obtain ⟨hcz7_0,hcz7_1,hcz7_2,hcz7_3,hcz7_4,hfz7_0,hfz7_1,hfz7_2,hfz7_3,hfz7_4⟩:=bcells5 BK214.out
    go_wp2_with (first|((with_reducible refine gate_callee (f:=58) rfl ?_);refine goesL_ (some 4) rfl rfl Try.func58 (by kernel_rfl) rfl #[.agg #[.int .i64 a0_0,.int .i64 a0_1,.int .i64 a0_2,.int .i64 a0_3,.slice A0_4 l0_4.length c0_4]] rfl (by (try simp only [List.map_toArray,List.map_cons,List.map_nil]);first|done|rfl|(simp only [List.length_drop,List.length_take];rfl)) ?_;(with_reducible refine (bitmap_place.calls a0_0 a0_1 a0_2 a0_3 _ _ l0_4 true _ ?side1 ?side2 A4.out).mono ?_);(case side1=>exact cV (Kd.C_below HR0_4.out HB.out));(case side2=>exact HC0_4.out);rintro e w8 ⟨rfl,hb⟩;refine ⟨_,rfl,?_⟩;have n0_:=Aside0.mk (blk_below (g:=gb214) (blkV BK214.out) hb);have n1_:=Aside0.mk (below_step (belV1 HB.out GE214.out) hb);clear BK214;clear HB;have BK214:=n0_;have HB:=n1_;clear n0_ n1_;(try clear hb);(try clear hb2);(try clear hk);(try clear hi);obtain ⟨hcz9_0,hcz9_1,hcz9_2,hcz9_3,hcz9_4,hfz9_0,hfz9_1,hfz9_2,hfz9_3,hfz9_4⟩:=bcells5 BK214.out)|(go_at_call 48;(with_reducible refine (slices_ContainsFunc_int_int__89.calls k _ _ l0_4  t216 _ ?side1 ?side2 A6.out).mono ?_);(case side1=>exact cV (Kd.C_below HR0_4.out HB.out));(case side2=>exact HC0_4.out);rintro e w' ⟨rfl,⟨nd,rfl⟩⟩))
    go_meet
    case rel=>exact ⟨_,(t216),okV,H',⟨by first|omega|exact Nat.le_refl _⟩,⟨blkV BK214.out⟩,⟨belV1 HB.out GE214.out⟩⟩
  replace c5:=Bool.eq_false_iff.mpr c5;subst c5
  have H1:(bitmap_checkPatch.j0 k true a0_0 a0_1 a0_2 a0_3 l0_4)=some r:=by rw [if_neg (show ¬ (false=true) by decide)] at H;exact H
  clear H
  have H:=H1;clear H1
  have H':=Aside0.mk H;clear H
  obtain ⟨hcz10_0,hcz10_1,hcz10_2,hcz10_3,hcz10_4,hfz10_0,hfz10_1,hfz10_2,hfz10_3,hfz10_4⟩:=bcells5 BK214.out
  go_wp2_with (first|((with_reducible refine gate_callee (f:=58) rfl ?_);refine goesL_ (some 4) rfl rfl Try.func58 (by kernel_rfl) rfl #[.agg #[.int .i64 a0_0,.int .i64 a0_1,.int .i64 a0_2,.int .i64 a0_3,.slice A0_4 l0_4.length c0_4]] rfl (by (try simp only [List.map_toArray,List.map_cons,List.map_nil]);first|done|rfl|(simp only [List.length_drop,List.length_take];rfl)) ?_;(with_reducible refine (bitmap_place.calls a0_0 a0_1 a0_2 a0_3 _ _ l0_4 false _ ?side1 ?side2 A4.out).mono ?_);(case side1=>exact cV (Kd.C_below HR0_4.out HB.out));(case side2=>exact HC0_4.out);rintro e w11 ⟨rfl,hb⟩;refine ⟨_,rfl,?_⟩;have n0_:=Aside0.mk (blk_below (g:=gb214) (blkV BK214.out) hb);have n1_:=Aside0.mk (below_step (belV1 HB.out GE214.out) hb);clear BK214;clear HB;have BK214:=n0_;have HB:=n1_;clear n0_ n1_;(try clear hb);(try clear hb2);(try clear hk);(try clear hi)))
  go_meet
  case rel=>exact ⟨_,(true),okV,H',⟨by first|omega|exact Nat.le_refl _⟩,⟨blkV BK214.out⟩,⟨belV1 HB.out GE214.out⟩⟩
 case rest =>
  clear HC2
  try clear p2;try clear c5;try clear c7;try clear hcz10_0 hcz10_1 hcz10_2 hcz10_3 hcz10_4;try clear hcz7_0 hcz7_1 hcz7_2 hcz7_3 hcz7_4;try clear hcz9_0 hcz9_1 hcz9_2 hcz9_3 hcz9_4;try clear hfz10_0 hfz10_1 hfz10_2 hfz10_3 hfz10_4;try clear hfz7_0 hfz7_1 hfz7_2 hfz7_3 hfz7_4;try clear hfz9_0 hfz9_1 hfz9_2 hfz9_3 hfz9_4
  obtain ⟨kq,x10_1,rfl,HA,HJ1,BK214,HB⟩:=hcut
  cases kq with
  | zero=>exact absurd HA.out (by simp [bitmap_checkPatch.j0])
  | succ kj1 =>
   have H:=HA.out;clear HA
   simp only [bitmap_checkPatch.j0] at H
   by_cases c12:x10_1=true
   · subst c12
     have H1:(some 1)=some r:=by rw [if_pos rfl] at H;exact H
     clear H
     have H:=H1;clear H1
     obtain rfl:=Option.some.inj H
     go_wp2
     go_ret
     exact ⟨by first|rfl|(simp [errW_none,errW_some] <;> rfl)|(simp [*,errW_none,errW_some] <;> rfl),by repeat (first|(with_reducible first|exact HB.out|apply below_alloc|apply pw_below_drewN|apply below_drew1|refine below_set ?_ GE214.out)|exact HB.out)⟩
   replace c12:=Bool.eq_false_iff.mpr c12;subst c12
   have H1:(if (l0_4.length:Int)=(wrap64 (a0_2*a0_3)) then (some 0) else (some 4))=some r:=by rw [if_neg (show ¬ (false=true) by decide)] at H;exact H
   clear H
   have H:=H1;clear H1
   by_cases c13:(l0_4.length:Int)=(wrap64 (a0_2*a0_3))
   · rw [if_pos c13] at H
     have c13b0:((l0_4.length:Int) == (wrap64 (a0_2*a0_3)))=true:=beq_iff_eq.mpr c13
     have c13b1:((l0_4.length:Int) != (wrap64 (a0_2*a0_3)))=false:=bne_eq_false_iff_eq.mpr c13;clear c13
     obtain rfl:=Option.some.inj H
     obtain ⟨hcz14_0,hcz14_1,hcz14_2,hcz14_3,hcz14_4,hfz14_0,hfz14_1,hfz14_2,hfz14_3,hfz14_4⟩:=bcells5 BK214.out
     go_wp2
     go_ret
     exact ⟨by first|rfl|(simp [errW_none,errW_some] <;> rfl)|(simp [*,errW_none,errW_some] <;> rfl),by repeat (first|(with_reducible first|exact HB.out|apply below_alloc|apply pw_below_drewN|apply below_drew1|refine below_set ?_ GE214.out)|exact HB.out)⟩
   rw [if_neg c13] at H
   have c13b0:((l0_4.length:Int) == (wrap64 (a0_2*a0_3)))=false:=beq_eq_false_iff_ne.mpr c13
   have c13b1:((l0_4.length:Int) != (wrap64 (a0_2*a0_3)))=true:=bne_iff_ne.mpr c13
   obtain rfl:=Option.some.inj H
   obtain ⟨hcz15_0,hcz15_1,hcz15_2,hcz15_3,hcz15_4,hfz15_0,hfz15_1,hfz15_2,hfz15_3,hfz15_4⟩:=bcells5 BK214.out
   go_wp2
   go_ret
   exact ⟨by first|rfl|(simp [errW_none,errW_some] <;> rfl)|(simp [*,errW_none,errW_some] <;> rfl),by repeat (first|(with_reducible first|exact HB.out|apply below_alloc|apply pw_below_drewN|apply below_drew1|refine below_set ?_ GE214.out)|exact HB.out)⟩

/-! ### bitmap_Check: function 39 -/
mutual
def bitmap_Check.j0 : Nat → Bool → Bool → List Int → List (S91) → Option (Int)
 | 0,_,_,_,_=>none
 | k+1,x15,x218000,x218001,x218002=>if x15=true then (some 2) else ((bitmap_colours.f k x218001).bind fun t218=>(if t218=true then (bitmap_Check.l0 k x218002 (x218002.length:Int) 0) else (some 1)))
def bitmap_Check.l0 : Nat → List (S91) → Int → Int → Option (Int)
 | 0,_,_,_=>none
 | k+1,x21,x22,x23=>if x23 < x22 then (if 0≤x23 then (if x23 < (x21.length:Int) then ((bitmap_checkPatch.f k ((rd_T91 x21 x23).f0) ((rd_T91 x21 x23).f1) ((rd_T91 x21 x23).f2) ((rd_T91 x21 x23).f3) ((rd_T91 x21 x23).f4)).bind fun t221=>(if t221=0 then (bitmap_Check.l0 k x21 x22 (wrap64 (x23+1))) else (some t221))) else (none)) else (none)) else (some 0)
end
def bitmap_Check.f (k : Nat) (a0_0 : Bool) (l0_1 : List Int) (l0_2 : List (S91)) : Option (Int) := if (l0_1.length : Int) > 16 then (bitmap_Check.j0 k true a0_0 l0_1 l0_2) else (bitmap_Check.j0 k (decide ((l0_2.length : Int) > 8)) a0_0 l0_1 l0_2)
theorem bitmap_Check.mono_l:∀ k,(∀ y0 y1 y2 y3,LeO (bitmap_Check.j0 k y0 y1 y2 y3) (bitmap_Check.j0 (k+1) y0 y1 y2 y3))∧(∀ y0 y1 y2,LeO (bitmap_Check.l0 k y0 y1 y2) (bitmap_Check.l0 (k+1) y0 y1 y2))
 | 0=>⟨fun _ _ _ _ r h=>by simp [bitmap_Check.j0] at h,fun _ _ _ r h=>by simp [bitmap_Check.l0] at h⟩
 | k+1=>by
  obtain ⟨ih0,ih1⟩:=bitmap_Check.mono_l k
  refine ⟨?_,?_⟩
  · intro y0 y1 y2 y3
    unfold bitmap_Check.j0
    repeat' first
    | (with_reducible exact ih0 _ _ _ _)
    | (with_reducible exact ih1 _ _ _)
    | (with_reducible exact bitmap_checkPatch.mono _ _ _ _ _ _)
    | (with_reducible exact bitmap_colours.mono _ _)
    | (with_reducible exact LeO.refl _)
    | (with_reducible exact LeO.none _)
    | (with_reducible refine LeO.ite ?_ ?_)
    | (with_reducible refine LeO.bind ?_ (fun _=>?_))
    | exact LeO.none _
    | refine LeO.ite ?_ ?_
    | refine LeO.bind ?_ (fun _=>?_)
  intro y0 y1 y2
  unfold bitmap_Check.l0
  repeat' first
  | (with_reducible exact ih0 _ _ _ _)
  | (with_reducible exact ih1 _ _ _)
  | (with_reducible exact bitmap_checkPatch.mono _ _ _ _ _ _)
  | (with_reducible exact bitmap_colours.mono _ _)
  | (with_reducible exact LeO.refl _)
  | (with_reducible exact LeO.none _)
  | (with_reducible refine LeO.ite ?_ ?_)
  | (with_reducible refine LeO.bind ?_ (fun _=>?_))
  | exact LeO.none _
  | refine LeO.ite ?_ ?_
  | refine LeO.bind ?_ (fun _=>?_)
theorem bitmap_Check.mono:∀ a0 a1 a2 k,LeO (bitmap_Check.f k a0 a1 a2) (bitmap_Check.f (k+1) a0 a1 a2):=by
 intro a0 a1 a2 k
 obtain ⟨ih0,ih1⟩:=bitmap_Check.mono_l k
 unfold bitmap_Check.f
 repeat' first
  | (with_reducible exact ih0 _ _ _ _)
  | (with_reducible exact ih1 _ _ _)
  | (with_reducible exact bitmap_checkPatch.mono _ _ _ _ _ _)
  | (with_reducible exact bitmap_colours.mono _ _)
  | (with_reducible exact LeO.refl _)
  | (with_reducible exact LeO.none _)
  | (with_reducible refine LeO.ite ?_ ?_)
  | (with_reducible refine LeO.bind ?_ (fun _=>?_))
  | exact LeO.none _
  | refine LeO.ite ?_ ?_
  | refine LeO.bind ?_ (fun _=>?_)
set_option maxHeartbeats 8000000 in
set_option maxRecDepth 100000 in
theorem bitmap_Check.calls (k:Nat) (a0_0:Bool) (A0_1:Option Addr) (c0_1:Nat) (l0_1:List Int) (A0_2:Option Addr) (c0_2:Nat) (l0_2:List (S91)) (r:Int) (w:World) (hr0_1:Kd.C (Kd.int .i64) w A0_1 l0_1.length l0_1) (hc0_1:l0_1.length≤c0_1) (hr0_2:Kd.C k91 w A0_2 l0_2.length l0_2) (hc0_2:l0_2.length≤c0_2) (h:bitmap_Check.f k a0_0 l0_1 l0_2=some r) :
 Calls Try.prog 39 #[.agg #[.bool a0_0,.slice A0_1 l0_1.length c0_1,.slice A0_2 l0_2.length c0_2]] w fun e w'=>e=.returned (.int .i64 r)∧Below w.heap.size w w':=by
 have hu51:=Try.underlying51
 have hu91:=Try.underlying91
 have HR0_1:=Aside0.mk hr0_1
 have HC0_1:=Aside0.mk hc0_1;clear hr0_1 hc0_1
 have HR0_2:=Aside0.mk hr0_2
 have HC0_2:=Aside0.mk hc0_2;clear hr0_2 hc0_2;have HB:=Aside0.mk (Below.refl w.heap.size w)
 have H:(if (l0_1.length:Int) > 16 then (bitmap_Check.j0 k true a0_0 l0_1 l0_2) else (bitmap_Check.j0 k (decide ((l0_2.length:Int) > 8)) a0_0 l0_1 l0_2))=some r:=h;clear h
 have HC2:=Aside0.mk H;clear H
 go_enter Try.func39,Try.ntmps39
 go_upto_region 1 with (first|((with_reducible refine gate_dst (N:=1) rfl ?_);(try (refine gate_guard (by rfl) ?_;dsimp only));refine box_event ?hg (N:=1) ?hd (cs:=#[.bool a0_0,.slice A0_1 l0_1.length c0_1,.slice A0_2 l0_2.length c0_2]) (t:=51) ?hr ?_;(case hd=>rfl);(case hg=>rfl);(case hr=>first|(go_simp;done)|(go_simp;rfl));intro gb217 hg w3 hbox hb;have n0_:=Aside0.mk (below_step (belV HB.out) hb);have n1_:=Aside0.mk (hbox);have n2_:=Aside0.mk ((by rw [hg];exact (below_size (belV HB.out)):w.heap.size≤gb217));have n3_:=Aside0.mk ((by rw [hg];exact (below_size (belV HB.out)):w.heap.size≤gb217));clear HB;have HB:=n0_;have BK217:=n1_;have GW217:=n2_;have GE217:=n3_;clear n0_ n1_ n2_ n3_;clear hb hbox hg))
 (try simp only [Act.put,List.setIfInBounds_toArray,List.set_cons_zero,List.set_cons_succ])
 go_cut [15] (fun v15 wc=>∃ (kq:Nat) (x15_1:Bool),v15=.bool x15_1∧Aside0 (bitmap_Check.j0 kq x15_1 a0_0 l0_1 l0_2=some r)∧Aside0 (kq≤k)∧Aside0 (wc.heap[gb217]?=some (.cells #[.bool a0_0,(.slice A0_1 l0_1.length c0_1),(.slice A0_2 l0_2.length c0_2)] 51 (0,0)))∧Aside0 (Below w.heap.size w wc))
 case first =>
  have H:=HC2.out;clear HC2
  by_cases c4:(l0_1.length:Int) > 16
  · rw [if_pos c4] at H
    have c4b0:decide (16 < (l0_1.length:Int))=true:=decide_eq_true c4
    have c4b1:decide (16 < l0_1.length)=true:=decide_eq_true (by omega);clear c4
    (first|rw [c4b0]|(simp only [i64_w,i32_w];rw [c4b0])|rw [c4b1]|skip)
    have H':=Aside0.mk H;clear H
    obtain ⟨hcz5_0,hcz5_1,hcz5_2,hfz5_0,hfz5_1,hfz5_2⟩:=bcells3 BK217.out
    go_wp2
    go_meet
    case rel=>exact ⟨_,(true),okV,H',⟨by first|omega|exact Nat.le_refl _⟩,⟨blkV BK217.out⟩,⟨belV1 HB.out GE217.out⟩⟩
  rw [if_neg c4] at H
  have c4b0:decide (16 < (l0_1.length:Int))=false:=decide_eq_false c4
  have c4b1:decide (16 < l0_1.length)=false:=decide_eq_false (by omega);clear c4
  (first|rw [c4b0]|(simp only [i64_w,i32_w];rw [c4b0])|rw [c4b1]|skip)
  have H':=Aside0.mk H;clear H
  obtain ⟨hcz6_0,hcz6_1,hcz6_2,hfz6_0,hfz6_1,hfz6_2⟩:=bcells3 BK217.out
  go_wp2
  go_meet
  case rel=>exact ⟨_,(decide ((l0_2.length:Int) > 8)),okV,H',⟨by first|omega|exact Nat.le_refl _⟩,⟨blkV BK217.out⟩,⟨belV1 HB.out GE217.out⟩⟩
 case rest =>
  clear HC2
  try clear p2;try clear c3;try clear c4;try clear c4b0;try clear c4b1;try clear hcz5_0 hcz5_1 hcz5_2;try clear hcz6_0 hcz6_1 hcz6_2;try clear hfz5_0 hfz5_1 hfz5_2;try clear hfz6_0 hfz6_1 hfz6_2
  obtain ⟨kq,x15_1,rfl,HA,HJ1,BK217,HB⟩:=hcut
  cases kq with
  | zero=>exact absurd HA.out (by simp [bitmap_Check.j0])
  | succ kj1 =>
   have H:=HA.out;clear HA
   simp only [bitmap_Check.j0] at H
   by_cases c7:x15_1=true
   · subst c7
     have H1:(some 2)=some r:=by rw [if_pos rfl] at H;exact H
     clear H
     have H:=H1;clear H1
     obtain rfl:=Option.some.inj H
     go_wp2
     go_ret
     exact ⟨by first|rfl|(simp [errW_none,errW_some] <;> rfl)|(simp [*,errW_none,errW_some] <;> rfl),by repeat (first|(with_reducible first|exact HB.out|apply below_alloc|apply pw_below_drewN|apply below_drew1|refine below_set ?_ GE217.out)|exact HB.out)⟩
   replace c7:=Bool.eq_false_iff.mpr c7;subst c7
   have H1:((bitmap_colours.f kj1 l0_1).bind fun t218=>(if t218=true then (bitmap_Check.l0 kj1 l0_2 (l0_2.length:Int) 0) else (some 1)))=some r:=by rw [if_neg (show ¬ (false=true) by decide)] at H;exact H
   clear H
   have H:=H1;clear H1
   replace H:=Option.bind_eq_some_iff.mp H
   obtain ⟨t218,A80,H⟩:=H
   replace H:(if t218=true then (bitmap_Check.l0 kj1 l0_2 (l0_2.length:Int) 0) else (some 1))=some r:=H
   have A8:=Aside0.mk A80;clear A80
   by_cases c9:t218=true
   · subst c9
     have H1:(bitmap_Check.l0 kj1 l0_2 (l0_2.length:Int) 0)=some r:=by rw [if_pos rfl] at H;exact H
     clear H
     have H:=H1;clear H1
     have H':=Aside0.mk H;clear H
     obtain ⟨hcz10_0,hcz10_1,hcz10_2,hfz10_0,hfz10_1,hfz10_2⟩:=bcells3 BK217.out
     go_wp2_with (first|((with_reducible refine gate_callee (f:=71) rfl ?_);refine goesL_ (some 18) rfl rfl Try.func71 (by kernel_rfl) rfl #[.slice A0_1 l0_1.length c0_1] rfl (by (try simp only [List.map_toArray,List.map_cons,List.map_nil]);first|done|rfl|(simp only [List.length_drop,List.length_take];rfl)) ?_;(with_reducible refine (bitmap_colours.calls kj1 _ _ l0_1 true _ ?side1 ?side2 A8.out).mono ?_);(case side1=>exact cV (Kd.C_below HR0_1.out HB.out));(case side2=>exact HC0_1.out);rintro e w' ⟨rfl,⟨nd,rfl⟩⟩;refine ⟨_,rfl,?_⟩))
     go_loopg [23] kj1 (fun kq v23 w'=>∃ (x23_2:Int),v23=.int .i64 x23_2∧Aside0 (bitmap_Check.l0 kq l0_2 (l0_2.length:Int) x23_2=some r)∧Aside0 (kq≤kj1)∧Aside0 (w'.heap[gb217]?=some (.cells #[.bool a0_0,(.slice A0_1 l0_1.length c0_1),(.slice A0_2 l0_2.length c0_2)] 51 (0,0)))∧Aside0 (Below w.heap.size w w'))
     case atStart=>exact ⟨(0),okV,H',⟨Nat.le_refl _⟩,⟨blkV BK217.out⟩,⟨belV1 HB.out GE217.out⟩⟩
     case round =>
      clear H'
      try clear p2 p2;try clear c3;try clear c4;try clear c4b0;try clear c4b1;try clear c7;try clear c9;try clear hcz10_0 hcz10_1 hcz10_2;try clear hcz5_0 hcz5_1 hcz5_2;try clear hcz6_0 hcz6_1 hcz6_2;try clear hfz10_0 hfz10_1 hfz10_2;try clear hfz5_0 hfz5_1 hfz5_2;try clear hfz6_0 hfz6_1 hfz6_2
      obtain ⟨x23_2,rfl,HA,HK2,BK217,HB⟩:=hrel
      cases gk with
      | zero=>exact absurd HA.out (by simp [bitmap_Check.l0])
      | succ k2 =>
       have H:=HA.out;clear HA
       simp only [bitmap_Check.l0] at H
       by_cases c11:x23_2 < (l0_2.length:Int)
       · rw [if_pos c11] at H
         have c11b0:decide (x23_2 < (l0_2.length:Int))=true:=decide_eq_true c11;clear c11
         by_cases c12:0≤x23_2
         · rw [if_pos c12] at H
           have c12b0:decide (0≤x23_2)=true:=decide_eq_true c12;clear c12
           by_cases c13:x23_2 < (l0_2.length:Int)
           · rw [if_pos c13] at H
             have c13b0:decide (x23_2 < (l0_2.length:Int))=true:=decide_eq_true c13;clear c13
             replace H:=Option.bind_eq_some_iff.mp H
             obtain ⟨t221,A140,H⟩:=H
             replace H:(if t221=0 then (bitmap_Check.l0 k2 l0_2 (l0_2.length:Int) (wrap64 (x23_2+1))) else (some t221))=some r:=H
             have A14:=Aside0.mk A140;clear A140
             by_cases c15:t221=0
             · rw [if_pos c15] at H
               have c15b0:(t221 == 0)=true:=beq_iff_eq.mpr c15
               have c15b1:(t221 != 0)=false:=bne_eq_false_iff_eq.mpr c15;clear c15
               have H':=Aside0.mk H;clear H
               have p219:0≤(x23_2:Int):=of_decide_eq_true asV
               have q219:x23_2 < (l0_2.length:Int):=of_decide_eq_true asV
               obtain ⟨ad219,A219_4,c219_4,e219,hx219_0,hx219_1,hx219_2,hx219_3,hx219_4,hl219_4,hi219_4⟩:=at_T91 HR0_2.out x23_2 p219 q219
               cases e219
               replace hx219_0:=(HB.out.cell (World.block_lt_of_cell? w _ hx219_0)).trans hx219_0
               replace hx219_1:=(HB.out.cell (World.block_lt_of_cell? w _ hx219_1)).trans hx219_1
               replace hx219_2:=(HB.out.cell (World.block_lt_of_cell? w _ hx219_2)).trans hx219_2
               replace hx219_3:=(HB.out.cell (World.block_lt_of_cell? w _ hx219_3)).trans hx219_3
               replace hx219_4:=(HB.out.cell (World.block_lt_of_cell? w _ hx219_4)).trans hx219_4
               have HR219_4:=Aside0.mk hi219_4
               have HC219_4:=Aside0.mk hl219_4;clear hi219_4 hl219_4
               replace p219:=eq_true p219
               replace q219:=eq_true q219
               go_wp2_with (first|((with_reducible refine gate_dst (N:=4) rfl ?_);(try (refine gate_guard (by rfl) ?_;dsimp only));refine box_event ?hg (N:=4) ?hd (cs:=#[.int .i64 0,.int .i64 0,.int .i64 0,.int .i64 0,.slice none 0 0]) (t:=91) ?hr ?_;(case hd=>rfl);(case hg=>rfl);(case hr=>first|(go_simp;done)|(go_simp;rfl));intro gb220 hg w16 hbox hb;have n0_:=Aside0.mk (blk_below (g:=gb217) (blkV BK217.out) hb);have n1_:=Aside0.mk (below_step (belV1 HB.out GE217.out) hb);have n2_:=Aside0.mk (hbox);have n3_:=Aside0.mk ((by rw [hg];exact (below_size (belV1 HB.out GE217.out)):w.heap.size≤gb220));have n4_:=Aside0.mk ((by rw [hg];exact (below_size (belV1 HB.out GE217.out)):w.heap.size≤gb220));have n5_:=Aside0.mk ((by rw [hg];exact Nat.ne_of_lt (blk_lt (g:=gb217) (blkV BK217.out)):gb217≠gb220));have n6_:=Aside0.mk ((by rw [hg];exact Nat.ne_of_gt (blk_lt (g:=gb217) (blkV BK217.out)):gb220≠gb217));clear BK217;clear HB;have BK217:=n0_;have HB:=n1_;have BK220:=n2_;have GW220:=n3_;have GE220:=n4_;have NB217_220:=n5_;have NB220_217:=n6_;clear n0_ n1_ n2_ n3_ n4_ n5_ n6_;clear hb hbox hg;have hnb17:=NB220_217.out;have hnc17:=NB217_220.out;obtain ⟨hcz18_0,hcz18_1,hcz18_2,hcz18_3,hcz18_4,hfz18_0,hfz18_1,hfz18_2,hfz18_3,hfz18_4⟩:=bcells5 BK220.out)|((with_reducible refine gate_callee (f:=72) rfl ?_);refine goesL_ (some 28) rfl rfl Try.func72 (by kernel_rfl) rfl #[.agg #[.int .i64 ((rd_T91 l0_2 x23_2).f0),.int .i64 ((rd_T91 l0_2 x23_2).f1),.int .i64 ((rd_T91 l0_2 x23_2).f2),.int .i64 ((rd_T91 l0_2 x23_2).f3),.slice A219_4 ((rd_T91 l0_2 x23_2).f4).length c219_4]] rfl (by (try simp only [List.map_toArray,List.map_cons,List.map_nil]);first|done|rfl|(simp only [List.length_drop,List.length_take];rfl)) ?_;(with_reducible refine (bitmap_checkPatch.calls k2 ((rd_T91 l0_2 x23_2).f0) ((rd_T91 l0_2 x23_2).f1) ((rd_T91 l0_2 x23_2).f2) ((rd_T91 l0_2 x23_2).f3) _ _ ((rd_T91 l0_2 x23_2).f4) t221 _ ?side1 ?side2 A14.out).mono ?_);(case side1=>exact Kd.C_below HR219_4.out (belV2 HB.out GE217.out GE220.out));(case side2=>exact HC219_4.out);rintro e w19 ⟨rfl,hb⟩;refine ⟨_,rfl,?_⟩;have n0_:=Aside0.mk (blk_below (g:=gb217) (o:=.cells #[.bool a0_0,.slice A0_1 l0_1.length c0_1,.slice (some ad219) l0_2.length c0_2] 51 (0,0)) (blkW BK217.out NB217_220.out) hb);have n1_:=Aside0.mk (blk_below (g:=gb220) (o:=.cells #[.int .i64 ((rd_T91 l0_2 x23_2).f0),.int .i64 ((rd_T91 l0_2 x23_2).f1),.int .i64 ((rd_T91 l0_2 x23_2).f2),.int .i64 ((rd_T91 l0_2 x23_2).f3),.slice A219_4 ((rd_T91 l0_2 x23_2).f4).length c219_4] 91 (0,0)) (by (with_reducible repeat (first|refine blk_drewN ?_ _|refine blk_drew ?_|refine blk_alloc ?_ _));refine blk_put (cs:=#[.int .i64 ((rd_T91 l0_2 x23_2).f0),.int .i64 ((rd_T91 l0_2 x23_2).f1),.int .i64 ((rd_T91 l0_2 x23_2).f2),.int .i64 ((rd_T91 l0_2 x23_2).f3),.slice none 0 0]) ?_ 4 _ rfl;(with_reducible repeat (first|refine blk_drewN ?_ _|refine blk_drew ?_|refine blk_alloc ?_ _));refine blk_put (cs:=#[.int .i64 ((rd_T91 l0_2 x23_2).f0),.int .i64 ((rd_T91 l0_2 x23_2).f1),.int .i64 ((rd_T91 l0_2 x23_2).f2),.int .i64 0,.slice none 0 0]) ?_ 3 _ rfl;(with_reducible repeat (first|refine blk_drewN ?_ _|refine blk_drew ?_|refine blk_alloc ?_ _));refine blk_put (cs:=#[.int .i64 ((rd_T91 l0_2 x23_2).f0),.int .i64 ((rd_T91 l0_2 x23_2).f1),.int .i64 0,.int .i64 0,.slice none 0 0]) ?_ 2 _ rfl;(with_reducible repeat (first|refine blk_drewN ?_ _|refine blk_drew ?_|refine blk_alloc ?_ _));refine blk_put (cs:=#[.int .i64 ((rd_T91 l0_2 x23_2).f0),.int .i64 0,.int .i64 0,.int .i64 0,.slice none 0 0]) ?_ 1 _ rfl;(with_reducible repeat (first|refine blk_drewN ?_ _|refine blk_drew ?_|refine blk_alloc ?_ _));refine blk_put (cs:=#[.int .i64 0,.int .i64 0,.int .i64 0,.int .i64 0,.slice none 0 0]) ?_ 0 _ rfl;(with_reducible repeat (first|refine blk_drewN ?_ _|refine blk_drew ?_|refine blk_alloc ?_ _));exact BK220.out) hb);have n2_:=Aside0.mk (below_step (belV2 HB.out GE217.out GE220.out) hb);clear BK217;clear BK220;clear HB;have BK217:=n0_;have BK220:=n1_;have HB:=n2_;clear n0_ n1_ n2_;(try clear hb);(try clear hb2);(try clear hk);(try clear hi)))
               go_roundg k2
               case measure=>have:=HJ1.out;have:=HK2.out;omega
               case rel=>exact ⟨(wrap64 (x23_2+1)),okV,H',⟨by have:=HJ1.out;have:=HK2.out;omega⟩,⟨blkV BK217.out⟩,⟨belV2 HB.out GE217.out GE220.out⟩⟩
             rw [if_neg c15] at H
             have c15b0:(t221 == 0)=false:=beq_eq_false_iff_ne.mpr c15
             have c15b1:(t221 != 0)=true:=bne_iff_ne.mpr c15
             obtain rfl:=Option.some.inj H
             have p219:0≤(x23_2:Int):=of_decide_eq_true asV
             have q219:x23_2 < (l0_2.length:Int):=of_decide_eq_true asV
             obtain ⟨ad219,A219_4,c219_4,e219,hx219_0,hx219_1,hx219_2,hx219_3,hx219_4,hl219_4,hi219_4⟩:=at_T91 HR0_2.out x23_2 p219 q219
             cases e219
             replace hx219_0:=(HB.out.cell (World.block_lt_of_cell? w _ hx219_0)).trans hx219_0
             replace hx219_1:=(HB.out.cell (World.block_lt_of_cell? w _ hx219_1)).trans hx219_1
             replace hx219_2:=(HB.out.cell (World.block_lt_of_cell? w _ hx219_2)).trans hx219_2
             replace hx219_3:=(HB.out.cell (World.block_lt_of_cell? w _ hx219_3)).trans hx219_3
             replace hx219_4:=(HB.out.cell (World.block_lt_of_cell? w _ hx219_4)).trans hx219_4
             have HR219_4:=Aside0.mk hi219_4
             have HC219_4:=Aside0.mk hl219_4;clear hi219_4 hl219_4
             replace p219:=eq_true p219
             replace q219:=eq_true q219
             go_wp2_with (first|((with_reducible refine gate_dst (N:=4) rfl ?_);(try (refine gate_guard (by rfl) ?_;dsimp only));refine box_event ?hg (N:=4) ?hd (cs:=#[.int .i64 0,.int .i64 0,.int .i64 0,.int .i64 0,.slice none 0 0]) (t:=91) ?hr ?_;(case hd=>rfl);(case hg=>rfl);(case hr=>first|(go_simp;done)|(go_simp;rfl));intro gb220 hg w20 hbox hb;have n0_:=Aside0.mk (blk_below (g:=gb217) (blkV BK217.out) hb);have n1_:=Aside0.mk (below_step (belV1 HB.out GE217.out) hb);have n2_:=Aside0.mk (hbox);have n3_:=Aside0.mk ((by rw [hg];exact (below_size (belV1 HB.out GE217.out)):w.heap.size≤gb220));have n4_:=Aside0.mk ((by rw [hg];exact (below_size (belV1 HB.out GE217.out)):w.heap.size≤gb220));have n5_:=Aside0.mk ((by rw [hg];exact Nat.ne_of_lt (blk_lt (g:=gb217) (blkV BK217.out)):gb217≠gb220));have n6_:=Aside0.mk ((by rw [hg];exact Nat.ne_of_gt (blk_lt (g:=gb217) (blkV BK217.out)):gb220≠gb217));clear BK217;clear HB;have BK217:=n0_;have HB:=n1_;have BK220:=n2_;have GW220:=n3_;have GE220:=n4_;have NB217_220:=n5_;have NB220_217:=n6_;clear n0_ n1_ n2_ n3_ n4_ n5_ n6_;clear hb hbox hg;have hnb21:=NB220_217.out;have hnc21:=NB217_220.out;obtain ⟨hcz22_0,hcz22_1,hcz22_2,hcz22_3,hcz22_4,hfz22_0,hfz22_1,hfz22_2,hfz22_3,hfz22_4⟩:=bcells5 BK220.out)|((with_reducible refine gate_callee (f:=72) rfl ?_);refine goesL_ (some 28) rfl rfl Try.func72 (by kernel_rfl) rfl #[.agg #[.int .i64 ((rd_T91 l0_2 x23_2).f0),.int .i64 ((rd_T91 l0_2 x23_2).f1),.int .i64 ((rd_T91 l0_2 x23_2).f2),.int .i64 ((rd_T91 l0_2 x23_2).f3),.slice A219_4 ((rd_T91 l0_2 x23_2).f4).length c219_4]] rfl (by (try simp only [List.map_toArray,List.map_cons,List.map_nil]);first|done|rfl|(simp only [List.length_drop,List.length_take];rfl)) ?_;(with_reducible refine (bitmap_checkPatch.calls k2 ((rd_T91 l0_2 x23_2).f0) ((rd_T91 l0_2 x23_2).f1) ((rd_T91 l0_2 x23_2).f2) ((rd_T91 l0_2 x23_2).f3) _ _ ((rd_T91 l0_2 x23_2).f4) t221 _ ?side1 ?side2 A14.out).mono ?_);(case side1=>exact Kd.C_below HR219_4.out (belV2 HB.out GE217.out GE220.out));(case side2=>exact HC219_4.out);rintro e w23 ⟨rfl,hb⟩;refine ⟨_,rfl,?_⟩;have n0_:=Aside0.mk (blk_below (g:=gb217) (o:=.cells #[.bool a0_0,.slice A0_1 l0_1.length c0_1,.slice (some ad219) l0_2.length c0_2] 51 (0,0)) (blkW BK217.out NB217_220.out) hb);have n1_:=Aside0.mk (blk_below (g:=gb220) (o:=.cells #[.int .i64 ((rd_T91 l0_2 x23_2).f0),.int .i64 ((rd_T91 l0_2 x23_2).f1),.int .i64 ((rd_T91 l0_2 x23_2).f2),.int .i64 ((rd_T91 l0_2 x23_2).f3),.slice A219_4 ((rd_T91 l0_2 x23_2).f4).length c219_4] 91 (0,0)) (by (with_reducible repeat (first|refine blk_drewN ?_ _|refine blk_drew ?_|refine blk_alloc ?_ _));refine blk_put (cs:=#[.int .i64 ((rd_T91 l0_2 x23_2).f0),.int .i64 ((rd_T91 l0_2 x23_2).f1),.int .i64 ((rd_T91 l0_2 x23_2).f2),.int .i64 ((rd_T91 l0_2 x23_2).f3),.slice none 0 0]) ?_ 4 _ rfl;(with_reducible repeat (first|refine blk_drewN ?_ _|refine blk_drew ?_|refine blk_alloc ?_ _));refine blk_put (cs:=#[.int .i64 ((rd_T91 l0_2 x23_2).f0),.int .i64 ((rd_T91 l0_2 x23_2).f1),.int .i64 ((rd_T91 l0_2 x23_2).f2),.int .i64 0,.slice none 0 0]) ?_ 3 _ rfl;(with_reducible repeat (first|refine blk_drewN ?_ _|refine blk_drew ?_|refine blk_alloc ?_ _));refine blk_put (cs:=#[.int .i64 ((rd_T91 l0_2 x23_2).f0),.int .i64 ((rd_T91 l0_2 x23_2).f1),.int .i64 0,.int .i64 0,.slice none 0 0]) ?_ 2 _ rfl;(with_reducible repeat (first|refine blk_drewN ?_ _|refine blk_drew ?_|refine blk_alloc ?_ _));refine blk_put (cs:=#[.int .i64 ((rd_T91 l0_2 x23_2).f0),.int .i64 0,.int .i64 0,.int .i64 0,.slice none 0 0]) ?_ 1 _ rfl;(with_reducible repeat (first|refine blk_drewN ?_ _|refine blk_drew ?_|refine blk_alloc ?_ _));refine blk_put (cs:=#[.int .i64 0,.int .i64 0,.int .i64 0,.int .i64 0,.slice none 0 0]) ?_ 0 _ rfl;(with_reducible repeat (first|refine blk_drewN ?_ _|refine blk_drew ?_|refine blk_alloc ?_ _));exact BK220.out) hb);have n2_:=Aside0.mk (below_step (belV2 HB.out GE217.out GE220.out) hb);clear BK217;clear BK220;clear HB;have BK217:=n0_;have BK220:=n1_;have HB:=n2_;clear n0_ n1_ n2_;(try clear hb);(try clear hb2);(try clear hk);(try clear hi)))
             go_ret
             exact ⟨by first|rfl|(simp [errW_none,errW_some] <;> rfl)|(simp [*,errW_none,errW_some] <;> rfl),by repeat (first|(with_reducible first|exact HB.out|apply below_alloc|apply pw_below_drewN|apply below_drew1|refine below_set ?_ GE217.out|refine below_set ?_ GE220.out)|exact HB.out)⟩
           rw [if_neg c13] at H
           exact absurd H (by simp)
         rw [if_neg c12] at H
         exact absurd H (by simp)
       rw [if_neg c11] at H
       have c11b0:decide (x23_2 < (l0_2.length:Int))=false:=decide_eq_false c11;clear c11
       obtain rfl:=Option.some.inj H
       go_wp2
       go_ret
       exact ⟨by first|rfl|(simp [errW_none,errW_some] <;> rfl)|(simp [*,errW_none,errW_some] <;> rfl),by repeat (first|(with_reducible first|exact HB.out|apply below_alloc|apply pw_below_drewN|apply below_drew1|refine below_set ?_ GE217.out)|exact HB.out)⟩
   replace c9:=Bool.eq_false_iff.mpr c9;subst c9
   have H1:(some 1)=some r:=by rw [if_neg (show ¬ (false=true) by decide)] at H;exact H
   clear H
   have H:=H1;clear H1
   obtain rfl:=Option.some.inj H
   obtain ⟨hcz24_0,hcz24_1,hcz24_2,hfz24_0,hfz24_1,hfz24_2⟩:=bcells3 BK217.out
   go_wp2_with (first|((with_reducible refine gate_callee (f:=71) rfl ?_);refine goesL_ (some 18) rfl rfl Try.func71 (by kernel_rfl) rfl #[.slice A0_1 l0_1.length c0_1] rfl (by (try simp only [List.map_toArray,List.map_cons,List.map_nil]);first|done|rfl|(simp only [List.length_drop,List.length_take];rfl)) ?_;(with_reducible refine (bitmap_colours.calls kj1 _ _ l0_1 false _ ?side1 ?side2 A8.out).mono ?_);(case side1=>exact cV (Kd.C_below HR0_1.out HB.out));(case side2=>exact HC0_1.out);rintro e w' ⟨rfl,⟨nd,rfl⟩⟩;refine ⟨_,rfl,?_⟩))
   go_ret
   exact ⟨by first|rfl|(simp [errW_none,errW_some] <;> rfl)|(simp [*,errW_none,errW_some] <;> rfl),by repeat (first|(with_reducible first|exact HB.out|apply below_alloc|apply pw_below_drewN|apply below_drew1|refine below_set ?_ GE217.out)|exact HB.out)⟩

/-! ### bits_big: function 97 -/
def bits_big.l0 : Nat → Int → List Int → Int → Option (List Int)
 | 0,_,_,_=>none
 | k+1,x0,x5,x6=>if x6≥0 then (if 0≤x6 then (if x6 < (x5.length:Int) then (bits_big.l0 k (x0 / 256) (x5.set (x6:Int).toNat ((x0) % 256)) (wrap64 (x6 - 1))) else (none)) else (none)) else (some x5)
def bits_big.f (k : Nat) (a0 : Int) (a1 : Int) : Option (List Int) := if 0 ≤ a1 then (if (a1 : Int).toNat ≤ 281474976710656 then (bits_big.l0 k a0 (List.replicate (a1 : Int).toNat 0) (wrap64 (a1 - 1))) else (none)) else (none)
theorem bits_big.mono_l:∀ k,(∀ y0 y1 y2,LeO (bits_big.l0 k y0 y1 y2) (bits_big.l0 (k+1) y0 y1 y2))
 | 0=>fun _ _ _ r h=>by simp [bits_big.l0] at h
 | k+1=>by
  have ih0:=bits_big.mono_l k
  · intro y0 y1 y2
    unfold bits_big.l0
    repeat' first
    | (with_reducible exact ih0 _ _ _)
    | (with_reducible exact LeO.refl _)
    | (with_reducible exact LeO.none _)
    | (with_reducible refine LeO.ite ?_ ?_)
    | (with_reducible refine LeO.bind ?_ (fun _=>?_))
    | exact LeO.none _
    | refine LeO.ite ?_ ?_
    | refine LeO.bind ?_ (fun _=>?_)
theorem bits_big.mono:∀ a0 a1 k,LeO (bits_big.f k a0 a1) (bits_big.f (k+1) a0 a1):=by
 intro a0 a1 k
 have ih0:=bits_big.mono_l k
 unfold bits_big.f
 repeat' first
  | (with_reducible exact ih0 _ _ _)
  | (with_reducible exact LeO.refl _)
  | (with_reducible exact LeO.none _)
  | (with_reducible refine LeO.ite ?_ ?_)
  | (with_reducible refine LeO.bind ?_ (fun _=>?_))
  | exact LeO.none _
  | refine LeO.ite ?_ ?_
  | refine LeO.bind ?_ (fun _=>?_)
set_option maxHeartbeats 8000000 in
set_option maxRecDepth 100000 in
theorem bits_big.calls (k:Nat) (a0:Int) (a1:Int) (r:List Int) (w:World) (h:bits_big.f k a0 a1=some r) :
 Calls Try.prog 97 #[.int .u64 a0,.int .i64 a1] w fun e w'=>∃ v0_:Value,e=.returned (v0_)∧Kd.R (Kd.int .u8) 5 w' w.heap.size (fun _=>True) v0_ r∧Below w.heap.size w w':=by
 have HB:=Aside0.mk (Below.refl w.heap.size w)
 have H:(if 0≤a1 then (if (a1:Int).toNat≤281474976710656 then (bits_big.l0 k a0 (List.replicate (a1:Int).toNat 0) (wrap64 (a1 - 1))) else (none)) else (none))=some r:=h;clear h
 by_cases c3:0≤a1
 · rw [if_pos c3] at H
   have c3b0:=eq_true c3
   have c3b1:decide (0≤a1)=true:=decide_eq_true c3;clear c3
   by_cases c4:(a1:Int).toNat≤281474976710656
   · rw [if_pos c4] at H
     have c4b0:=eq_true c4
     have c4b1:decide ((a1:Int).toNat≤281474976710656)=true:=decide_eq_true c4;clear c4
     obtain ⟨y222,hy222⟩:∃ y_:List Int,y_=(List.replicate (a1:Int).toNat 0):=⟨_,rfl⟩
     replace H:(bits_big.l0 k a0 y222 (wrap64 (a1 - 1)))=some r:=by first|(rw [hy222];with_reducible exact H)|(have H2_:=(Option.bind_some _ _).symm.trans H;rw [hy222];with_reducible exact H2_)|(have H2_:=(Option.bind_some _ _).symm.trans H;with_reducible exact H2_)|with_reducible exact H|(rw [hy222];exact H)|exact H
     have Ny222:=Aside0.mk hy222;clear hy222
     have H':=Aside0.mk H;clear H
     go_enter Try.func97,Try.ntmps97
     go_wp2_with (first|((with_reducible refine gate_dst (N:=8) rfl ?_);refine Kd.R_make (Kd.int .u8) _ 5 rfl (N:=8) rfl 23 _ _ rfl a1 rfl rfl Try.underlying23 (.int .u8 0) 1 info5 rfl (by decide) (by omega) 0 (ok:=fun _=>True) (okp:=fun _=>True) rfl (fun _ hk=>hk) trivial (of_decide_eq_true asV) (Nat.le_trans (Nat.mul_le_mul_right _ (of_decide_eq_true asV:a1.toNat≤281474976710656)) (by omega)) (Below.refl _ _) (Nat.le_refl _) ?_;intro v223 w5 ho6 hb hg_ hnew_;clear hg_ hnew_;(first|rw [← Ny222.out] at ho6|(simp only [Int.reduceToNat] at ho6;rw [← Ny222.out] at ho6));have n0_:=Aside0.mk (Kd.R_lower ho6 (below_size (belV HB.out)));have n1_:=Aside0.mk (below_step (belV HB.out) hb);clear HB;have HO224:=n0_;have HB:=n1_;clear n0_ n1_;clear hb ho6))
     go_loopg [0,6] k (fun kq v0 v6 w'=>∃ (x0_1:Int) (x5_1:List Int) (x6_1:Int),v0=.int .u64 x0_1∧v6=.int .i64 x6_1∧Aside0 (bits_big.l0 kq x0_1 x5_1 x6_1=some r)∧Aside0 (kq≤k)∧Aside0 (Kd.R (Kd.int .u8) 5 w' w.heap.size (fun _=>True) v223 x5_1)∧Aside0 (Below w.heap.size w w'))
     case atStart=>exact ⟨(a0),(y222),(wrap64 (a1 - 1)),okV,okV,H',⟨Nat.le_refl _⟩,⟨rowV HO224.out⟩,⟨belV HB.out⟩⟩
     case round =>
      clear H'
      try clear p2;try clear c3;try clear c3b0;try clear c3b1;try clear c4;try clear c4b0;try clear c4b1;try clear p6
      obtain ⟨x0_1,x5_1,x6_1,rfl,rfl,HA,HK1,HO_5,HB⟩:=hrel
      cases gk with
      | zero=>exact absurd HA.out (by simp [bits_big.l0])
      | succ k1 =>
       have H:=HA.out;clear HA
       simp only [bits_big.l0] at H
       by_cases c7:x6_1≥0
       · rw [if_pos c7] at H
         have c7b0:decide (0≤x6_1)=true:=decide_eq_true c7;clear c7
         by_cases c8:0≤x6_1
         · rw [if_pos c8] at H
           have c8b0:decide (0≤x6_1)=true:=decide_eq_true c8;clear c8
           by_cases c9:x6_1 < (x5_1.length:Int)
           · rw [if_pos c9] at H
             have c9b0:decide (x6_1 < (x5_1.length:Int))=true:=decide_eq_true c9;clear c9
             obtain ⟨y225,hy225⟩:∃ y_:List Int,y_=(x5_1.set (x6_1:Int).toNat ((x0_1) % 256)):=⟨_,rfl⟩
             replace H:(bits_big.l0 k1 (x0_1 / 256) y225 (wrap64 (x6_1 - 1)))=some r:=by first|(rw [hy225];with_reducible exact H)|(have H2_:=(Option.bind_some _ _).symm.trans H;rw [hy225];with_reducible exact H2_)|(have H2_:=(Option.bind_some _ _).symm.trans H;with_reducible exact H2_)|with_reducible exact H|(rw [hy225];exact H)|exact H
             have Ny225:=Aside0.mk hy225;clear hy225
             have H':=Aside0.mk H;clear H
             have p10:0≤(x6_1:Int):=of_decide_eq_true asV
             have q10:(x6_1:Int) < ((x5_1.length:Int):Int):=of_decide_eq_true asV
             obtain ⟨go10,co10,eo10,gb10,gl10,cl10,HG10⟩:=Kd.R_form HO_5.out (by omega)
             (first|cases eo10|(injection eo10 with ea_ en_ ec_;(first|subst ea_|(injection ea_ with ea_;subst ea_));subst ec_;clear en_))
             have GB10:=Aside0.mk gb10
             have GG10:=Aside0.mk HG10;clear gb10 gl10 HG10
             obtain ⟨hx10_0,hf10_0⟩:=Kd.R_celln 0 HO_5.out (x6_1:Int) p10 q10
             replace p10:=eq_true p10
             replace q10:=eq_true q10
             have HP11:=Kd.R_putg HO_5.out (x6_1:Int) ((x0_1) % 256)
             go_wp2_with (first|((with_reducible refine gate_store (t:=5) (p:=19) rfl ?_);refine store_event (t:=5) (p:=19) (v:=?vo_w12) (w1:=(wr.setCell ⟨go10,(x6_1:Int).toNat,none⟩ (.int .u8 ((x0_1) % 256)))) ?hg ?ho ?hn ?hr ?_;(case ho=>rfl);(case hg=>rfl);(case hn=>rfl);(case hr=>first|(go_simp;done)|(go_simp;rfl));intro w12 hw;have hg:wr.grownBy w12 (some go10):=(by rw [hw];exact HP11.2);have hp_:Kd.R (Kd.int .u8) 5 w12 w.heap.size (fun _=>True) (.slice (some ⟨go10,0,none⟩) x5_1.length co10) y225:=(by rw [hw,Ny225.out];exact HP11.1);clear HP11;have n0_:=Aside0.mk (hp_);have n1_:=Aside0.mk ((by rw [hw];exact below_set (HB.out) GB10.out:Below w.heap.size w w12));clear HO_5;clear HB;have HO_5:=n0_;have HB:=n1_;clear n0_ n1_;clear hg hw hp_))
             go_roundg k1
             case measure=>have:=HK1.out;omega
             case rel=>exact ⟨(x0_1 / 256),(y225),(wrap64 (x6_1 - 1)),okV,okV,H',⟨by have:=HK1.out;omega⟩,⟨rowV HO_5.out⟩,⟨belV HB.out⟩⟩
           rw [if_neg c9] at H
           exact absurd H (by simp)
         rw [if_neg c8] at H
         exact absurd H (by simp)
       rw [if_neg c7] at H
       have c7b0:decide (0≤x6_1)=false:=decide_eq_false c7;clear c7
       obtain rfl:=Option.some.inj H
       go_wp2
       go_ret
       exact ⟨_,by first|rfl|(simp [errW_none,errW_some] <;> rfl)|(simp [*,errW_none,errW_some] <;> rfl),by (with_reducible repeat (first|apply Kd.R_alloc|apply Kd.R_drewN|apply Kd.R_drew));exact HO_5.out,by repeat (first|(with_reducible first|exact HB.out|apply below_alloc|apply pw_below_drewN|apply below_drew1)|exact HB.out)⟩
   rw [if_neg c4] at H
   exact absurd H (by simp)
 rw [if_neg c3] at H
 exact absurd H (by simp)

/-! ### bits_PutInt: function 86 -/
def bits_PutInt.f (k : Nat) (a0 : Int) (a1 : Int) : Option (List Int × Int) := if a1 < 1 then (some (([] : List Int), 1)) else (if a1 > 8 then (some (([] : List Int), 1)) else (if a0 < 0 then (some (([] : List Int), 1)) else (if a1 < 8 then (if 0 ≤ (wrap64 (8 * a1)) then (if (shr .i64 a0 (wrap64 (8 * a1))) > 0 then (some (([] : List Int), 1)) else ((bits_big.f k (IntKind.u64.wrap (a0)) a1).bind fun t226 => (some (t226, 0)))) else (none)) else ((bits_big.f k (IntKind.u64.wrap (a0)) a1).bind fun t229 => (some (t229, 0))))))
theorem bits_PutInt.mono:∀ a0 a1 k,LeO (bits_PutInt.f k a0 a1) (bits_PutInt.f (k+1) a0 a1):=by
 intro a0 a1 k
 unfold bits_PutInt.f
 repeat' first
  | (with_reducible exact bits_big.mono _ _ _)
  | (with_reducible exact LeO.refl _)
  | (with_reducible exact LeO.none _)
  | (with_reducible refine LeO.ite ?_ ?_)
  | (with_reducible refine LeO.bind ?_ (fun _=>?_))
  | exact LeO.none _
  | refine LeO.ite ?_ ?_
  | refine LeO.bind ?_ (fun _=>?_)
set_option maxHeartbeats 8000000 in
set_option maxRecDepth 100000 in
theorem bits_PutInt.calls (k:Nat) (a0:Int) (a1:Int) (r1:List Int) (r2:Int) (w:World) (h:bits_PutInt.f k a0 a1=some (r1,r2)) :
 Calls Try.prog 86 #[.int .i64 a0,.int .i64 a1] w fun e w'=>∃ v0_:Value,e=.returned (.tuple #[v0_,.int .i64 r2])∧Kd.R (Kd.int .u8) 5 w' w.heap.size (fun _=>True) v0_ r1∧Below w.heap.size w w':=by
 have HB:=Aside0.mk (Below.refl w.heap.size w)
 have H:(if a1 < 1 then (some (([]:List Int),1)) else (if a1 > 8 then (some (([]:List Int),1)) else (if a0 < 0 then (some (([]:List Int),1)) else (if a1 < 8 then (if 0≤(wrap64 (8*a1)) then (if (shr .i64 a0 (wrap64 (8*a1))) > 0 then (some (([]:List Int),1)) else ((bits_big.f k (IntKind.u64.wrap (a0)) a1).bind fun t226=>(some (t226,0)))) else (none)) else ((bits_big.f k (IntKind.u64.wrap (a0)) a1).bind fun t229=>(some (t229,0)))))))=some (r1,r2):=h;clear h
 by_cases c3:a1 < 1
 · rw [if_pos c3] at H
   have c3b0:decide (a1 < 1)=true:=decide_eq_true c3;clear c3
   simp only [Option.some.injEq,Prod.mk.injEq] at H
   obtain ⟨rfl,rfl⟩:=H
   go_enter Try.func86,Try.ntmps86
   go_wp2
   go_ret2
   exact ⟨_,by first|rfl|(simp [errW_none,errW_some] <;> rfl)|(simp [*,errW_none,errW_some] <;> rfl),by first|exact Kd.R_nil _ _ _ _ _|exact Kd.N_nil _ _ _ _ _|exact Kd.V_nil _ _ _ _ _|exact Kd.Q_nil _ _ _ _ _|exact Kd.S_nil _ _ _ _ _,by repeat (first|(with_reducible first|exact HB.out|apply below_alloc|apply pw_below_drewN|apply below_drew1)|exact HB.out)⟩
 rw [if_neg c3] at H
 have c3b0:decide (a1 < 1)=false:=decide_eq_false c3;clear c3
 by_cases c4:a1 > 8
 · rw [if_pos c4] at H
   have c4b0:decide (8 < a1)=true:=decide_eq_true c4;clear c4
   simp only [Option.some.injEq,Prod.mk.injEq] at H
   obtain ⟨rfl,rfl⟩:=H
   go_enter Try.func86,Try.ntmps86
   go_wp2
   go_ret2
   exact ⟨_,by first|rfl|(simp [errW_none,errW_some] <;> rfl)|(simp [*,errW_none,errW_some] <;> rfl),by first|exact Kd.R_nil _ _ _ _ _|exact Kd.N_nil _ _ _ _ _|exact Kd.V_nil _ _ _ _ _|exact Kd.Q_nil _ _ _ _ _|exact Kd.S_nil _ _ _ _ _,by repeat (first|(with_reducible first|exact HB.out|apply below_alloc|apply pw_below_drewN|apply below_drew1)|exact HB.out)⟩
 rw [if_neg c4] at H
 have c4b0:decide (8 < a1)=false:=decide_eq_false c4;clear c4
 by_cases c5:a0 < 0
 · rw [if_pos c5] at H
   have c5b0:decide (a0 < 0)=true:=decide_eq_true c5;clear c5
   simp only [Option.some.injEq,Prod.mk.injEq] at H
   obtain ⟨rfl,rfl⟩:=H
   go_enter Try.func86,Try.ntmps86
   go_wp2
   go_ret2
   exact ⟨_,by first|rfl|(simp [errW_none,errW_some] <;> rfl)|(simp [*,errW_none,errW_some] <;> rfl),by first|exact Kd.R_nil _ _ _ _ _|exact Kd.N_nil _ _ _ _ _|exact Kd.V_nil _ _ _ _ _|exact Kd.Q_nil _ _ _ _ _|exact Kd.S_nil _ _ _ _ _,by repeat (first|(with_reducible first|exact HB.out|apply below_alloc|apply pw_below_drewN|apply below_drew1)|exact HB.out)⟩
 rw [if_neg c5] at H
 have c5b0:decide (a0 < 0)=false:=decide_eq_false c5;clear c5
 by_cases c6:a1 < 8
 · rw [if_pos c6] at H
   have c6b0:decide (a1 < 8)=true:=decide_eq_true c6;clear c6
   obtain ⟨ji7,hji7⟩:∃ j_:Int,(wrap64 (8*a1))=j_:=⟨_,rfl⟩
   replace H:(if 0≤(ji7) then (if (shr .i64 a0 (ji7)) > 0 then (some (([]:List Int),1)) else ((bits_big.f k (IntKind.u64.wrap (a0)) a1).bind fun t226=>(some (t226,0)))) else (none))=some (r1,r2):=by first|(rw [hji7] at H;exact H)|(simp only [hji7] at H ⊢;exact H)
   have hji7w:(IntKind.i64.wrap (8*a1))=ji7:=(i64_w _).trans hji7
   by_cases c8:0≤(ji7)
   · rw [if_pos c8] at H
     have c8b0:=eq_true c8
     have c8b1:decide (0≤(ji7))=true:=decide_eq_true c8;clear c8
     obtain ⟨ji9,hji9⟩:∃ j_:Int,(shr .i64 a0 (ji7))=j_:=⟨_,rfl⟩
     replace H:(if (ji9) > 0 then (some (([]:List Int),1)) else ((bits_big.f k (IntKind.u64.wrap (a0)) a1).bind fun t226=>(some (t226,0))))=some (r1,r2):=by first|(rw [hji9] at H;exact H)|(simp only [hji9] at H ⊢;exact H)
     have hji9_:(a0 / 2 ^ min (ji7).toNat 64)=ji9:=hji9
     have hji9z:(ji7)≤64→(a0 / 2 ^ (ji7).toNat)=ji9:=shr_small hji9
     by_cases c10:(ji9) > 0
     · rw [if_pos c10] at H
       have c10b0:decide (0 < (ji9))=true:=decide_eq_true c10;clear c10
       simp only [Option.some.injEq,Prod.mk.injEq] at H
       obtain ⟨rfl,rfl⟩:=H
       go_enter Try.func86,Try.ntmps86
       go_wp2
       go_ret2
       exact ⟨_,by first|rfl|(simp [errW_none,errW_some] <;> rfl)|(simp only [← hji7,← hji9];first|rfl|(simp [errW_none,errW_some] <;> rfl))|(simp [*,errW_none,errW_some] <;> rfl),by first|exact Kd.R_nil _ _ _ _ _|exact Kd.N_nil _ _ _ _ _|exact Kd.V_nil _ _ _ _ _|exact Kd.Q_nil _ _ _ _ _|exact Kd.S_nil _ _ _ _ _,by repeat (first|(with_reducible first|exact HB.out|apply below_alloc|apply pw_below_drewN|apply below_drew1)|exact HB.out)⟩
     rw [if_neg c10] at H
     have c10b0:decide (0 < (ji9))=false:=decide_eq_false c10;clear c10
     replace H:=Option.bind_eq_some_iff.mp H
     obtain ⟨t226,A110,H⟩:=H
     replace H:(some (t226,0))=some (r1,r2):=H
     have A11:=Aside0.mk A110;clear A110
     simp only [Option.some.injEq,Prod.mk.injEq] at H
     obtain ⟨rfl,rfl⟩:=H
     go_enter Try.func86,Try.ntmps86
     go_wp2_with (first|((with_reducible refine gate_callee (f:=97) rfl ?_);refine goesL_ (some 30) rfl rfl Try.func97 (by kernel_rfl) rfl #[.int .u64 (IntKind.u64.wrap (a0)),.int .i64 a1] rfl (by (try simp only [List.map_toArray,List.map_cons,List.map_nil]);first|done|rfl|(simp only [List.length_drop,List.length_take];rfl)) ?_;(with_reducible refine (bits_big.calls k (IntKind.u64.wrap (a0)) a1 t226 _ A11.out).mono ?_);rintro e w12 ⟨v227,rfl,ho0,hb⟩;refine ⟨_,rfl,?_⟩;have n0_:=Aside0.mk (Kd.R_lower ho0 (below_size (belV HB.out)));have n1_:=Aside0.mk (below_step (belV HB.out) hb);clear HB;have HO228:=n0_;have HB:=n1_;clear n0_ n1_;(try clear hb);(try clear hb2);(try clear hk);(try clear hi);(try clear ho0)))
     go_ret2
     exact ⟨_,by first|rfl|(simp [errW_none,errW_some] <;> rfl)|(simp only [← hji7,← hji9];first|rfl|(simp [errW_none,errW_some] <;> rfl))|(simp [*,errW_none,errW_some] <;> rfl),by (with_reducible repeat (first|apply Kd.R_alloc|apply Kd.R_drewN|apply Kd.R_drew));exact HO228.out,by repeat (first|(with_reducible first|exact HB.out|apply below_alloc|apply pw_below_drewN|apply below_drew1)|exact HB.out)⟩
   rw [if_neg c8] at H
   exact absurd H (by simp)
 rw [if_neg c6] at H
 have c6b0:decide (a1 < 8)=false:=decide_eq_false c6;clear c6
 replace H:=Option.bind_eq_some_iff.mp H
 obtain ⟨t229,A130,H⟩:=H
 replace H:(some (t229,0))=some (r1,r2):=H
 have A13:=Aside0.mk A130;clear A130
 simp only [Option.some.injEq,Prod.mk.injEq] at H
 obtain ⟨rfl,rfl⟩:=H
 go_enter Try.func86,Try.ntmps86
 go_wp2_with (first|((with_reducible refine gate_callee (f:=97) rfl ?_);refine goesL_ (some 30) rfl rfl Try.func97 (by kernel_rfl) rfl #[.int .u64 (IntKind.u64.wrap (a0)),.int .i64 a1] rfl (by (try simp only [List.map_toArray,List.map_cons,List.map_nil]);first|done|rfl|(simp only [List.length_drop,List.length_take];rfl)) ?_;(with_reducible refine (bits_big.calls k (IntKind.u64.wrap (a0)) a1 t229 _ A13.out).mono ?_);rintro e w14 ⟨v230,rfl,ho0,hb⟩;refine ⟨_,rfl,?_⟩;have n0_:=Aside0.mk (Kd.R_lower ho0 (below_size (belV HB.out)));have n1_:=Aside0.mk (below_step (belV HB.out) hb);clear HB;have HO231:=n0_;have HB:=n1_;clear n0_ n1_;(try clear hb);(try clear hb2);(try clear hk);(try clear hi);(try clear ho0)))
 go_ret2
 exact ⟨_,by first|rfl|(simp [errW_none,errW_some] <;> rfl)|(simp [*,errW_none,errW_some] <;> rfl),by (with_reducible repeat (first|apply Kd.R_alloc|apply Kd.R_drewN|apply Kd.R_drew));exact HO231.out,by repeat (first|(with_reducible first|exact HB.out|apply below_alloc|apply pw_below_drewN|apply below_drew1)|exact HB.out)⟩

/-! ### bitmap_number: function 69 -/
def bitmap_number.f (k : Nat) (l0 : List Int) (a1 : Int) (a2 : Int) : Option (List Int) := (bits_PutInt.f k a1 a2).bind fun bt232 => (if l0.length + bt232.1.length < 140737488355328 then (some (l0 ++ bt232.1)) else (none))
theorem bitmap_number.mono:∀ a0 a1 a2 k,LeO (bitmap_number.f k a0 a1 a2) (bitmap_number.f (k+1) a0 a1 a2):=by
 intro a0 a1 a2 k
 unfold bitmap_number.f
 repeat' first
  | (with_reducible exact bits_PutInt.mono _ _ _)
  | (with_reducible exact LeO.refl _)
  | (with_reducible exact LeO.none _)
  | (with_reducible refine LeO.ite ?_ ?_)
  | (with_reducible refine LeO.bind ?_ (fun _=>?_))
  | exact LeO.none _
  | refine LeO.ite ?_ ?_
  | refine LeO.bind ?_ (fun _=>?_)
set_option maxHeartbeats 8000000 in
set_option maxRecDepth 100000 in
theorem bitmap_number.calls (k:Nat) (P0_:Nat→Prop) (u9000_:Value) (l0:List Int) (a1:Int) (a2:Int) (r:List Int) (w0 w:World) (hB:Below w0.heap.size w0 w) (ho0:Kd.R (Kd.int .u8) 5 w w0.heap.size P0_ u9000_ l0) (h:bitmap_number.f k l0 a1 a2=some r) :
 Calls Try.prog 69 #[u9000_,.int .i64 a1,.int .i64 a2] w fun e w'=>∃ v0_:Value,e=.returned (v0_)∧Kd.R (Kd.int .u8) 5 w' w0.heap.size (fun k_=>(P0_ k_∨w.heap.size≤k_)) v0_ r∧Below w0.heap.size w0 w'∧Kept w w' (fun k_=>P0_ k_):=by
 have HO0:=Aside0.mk (show Kd.R (Kd.int .u8) 5 w w0.heap.size (fun k_=>(P0_ k_∨w.heap.size≤k_)) u9000_ l0 from Kd.R_mono ho0 (fun k_ hk=>(.inl hk)))
 have HK:=Aside0.mk (Kept.refl w (fun k_=>P0_ k_))
 have HW0:=Aside0.mk hB.size;have HB:=Aside0.mk hB;clear hB
 have H:((bits_PutInt.f k a1 a2).bind fun bt232=>(if l0.length+bt232.1.length < 140737488355328 then (some (l0 ++ bt232.1)) else (none)))=some r:=h;clear h
 replace H:=Option.bind_eq_some_iff.mp H
 obtain ⟨⟨t232,t233⟩,A40,H⟩:=H
 replace H:(if l0.length+t232.length < 140737488355328 then (some (l0 ++ t232)) else (none))=some r:=H
 have A4:=Aside0.mk A40;clear A40
 by_cases c5:l0.length+t232.length < 140737488355328
 · rw [if_pos c5] at H
   have LMc5:=Aside0.mk c5;clear c5
   obtain ⟨y236,hy236⟩:∃ y_:List Int,y_=(l0 ++ t232):=⟨_,rfl⟩
   replace H:(some y236)=some r:=by first|(rw [hy236];with_reducible exact H)|(have H2_:=(Option.bind_some _ _).symm.trans H;rw [hy236];with_reducible exact H2_)|(have H2_:=(Option.bind_some _ _).symm.trans H;with_reducible exact H2_)|with_reducible exact H|(rw [hy236];exact H)|exact H
   have Ny236:=Aside0.mk hy236;clear hy236
   obtain rfl:=Option.some.inj H
   go_enter Try.func69,Try.ntmps69
   go_wp2_with (first|((with_reducible refine gate_callee (f:=86) rfl ?_);refine goesL_ (some 12) rfl rfl Try.func86 (by kernel_rfl) rfl #[.int .i64 a1,.int .i64 a2] rfl (by (try simp only [List.map_toArray,List.map_cons,List.map_nil]);first|done|rfl|(simp only [List.length_drop,List.length_take];rfl)) ?_;(with_reducible refine (bits_PutInt.calls k a1 a2 t232 t233 _ A4.out).mono ?_);rintro e w6 ⟨v234,rfl,ho0,hb⟩;refine ⟨_,rfl,?_⟩;have n0_:=Aside0.mk (Kd.R_elder' (rowV HO0.out) (Kd.R_base ho0) hb);have n1_:=Aside0.mk (Kd.R_lower (Kd.R_new' (Kd.R_newM (M:=fun k_=>(P0_ k_∨w.heap.size≤k_)) ho0 (by first|exact HK.out.1|exact (show Kept w _ (fun k_=>P0_ k_) from by repeat (first|(with_reducible first|exact HK.out|apply Kept.alloc|apply Kept.drewN|apply Kept.drew)|exact HK.out)).1) (fun k_ h_=>.inr h_)) (Kd.R_lt (rowV HO0.out))) (below_size (belV HB.out)));have n2_:=Aside0.mk (Kept.below (S:=(fun k_=>P0_ k_)) (by repeat (first|(with_reducible first|exact HK.out|apply Kept.alloc|apply Kept.drewN|apply Kept.drew)|exact HK.out)) hb);have n3_:=Aside0.mk (below_step (belV HB.out) hb);clear HO0;clear HK;clear HB;have HO0:=n0_;have HO235:=n1_;have HK:=n2_;have HB:=n3_;clear n0_ n1_ n2_ n3_;(try clear hb);(try clear hb2);(try clear hk);(try clear hi);(try clear ho0);obtain ⟨Ao8,co8,eo8⟩:=Kd.R_slice HO235.out;subst eo8)|((with_reducible refine gate_builtin (b:=.append) (xs:=#[.tmp 15,.tmp 16]) rfl ?_);at_builtin;refine Kd.R_append_rows (Kd.int .u8) (w0:=w0) w0.heap.size rfl (.tmp 15) (.tmp 16) 23 5 (.int .u8 0) 1 rfl Try.underlying23 info5 rfl (by decide) (by omega) u9000_ l0 t232 _ _ _ (fun k_=>(P0_ k_∨w.heap.size≤k_)∧some k_≠(.slice Ao8 t232.length co8:Value).ownBlock) (fun _=>False) rfl rfl ?aO ?aR (fun _ _ h=>h) (fun _ h=>h.elim) ?aF ?aB ?aS ?aL ?_;(case aR=>exact cV (Kd.R_reads' HO235.out).2.2);(case aB=>exact (belV HB.out));(case aF=>exact (fun k_ hk=>⟨(.inr (Nat.le_trans (by first|exact HK.out.1|exact (show Kept w _ (fun k_=>P0_ k_) from by repeat (first|(with_reducible first|exact HK.out|apply Kept.alloc|apply Kept.drewN|apply Kept.drew)|exact HK.out)).1) hk)),Kd.fresh' (Kd.R_lt (rowV HO235.out)) k_ hk⟩));(case aO=>exact (rowV HO0.out));(case aS=>exact (below_size (belV HB.out)));(case aL=>have:=LMc5.out;omega);intro v237 w7 ho hb hg hat;rw [← Ny236.out] at ho;have n0_:=Aside0.mk (Kd.R_after (ok:=(fun k_=>(P0_ k_∨w.heap.size≤k_))) (by (with_reducible repeat (first|apply Kd.R_alloc|apply Kd.R_drewN|apply Kd.R_drew));exact Kd.R_mono HO235.out (fun _ hk=>⟨hk.1.1,hk.2⟩)) hg hat);have n1_:=Aside0.mk (hb);have n2_:=Aside0.mk (Kept.of_grown (S:=(fun k_=>P0_ k_)) hg (by repeat (first|(with_reducible first|exact HK.out|apply Kept.alloc|apply Kept.drewN|apply Kept.drew)|exact HK.out)) (fun k_ e_=>(HO0.out.1 k_ e_).1));have n3_:=Aside0.mk (ho);clear HO235;clear HB;clear HK;clear HO0;have HO235:=n0_;have HB:=n1_;have HK:=n2_;have HO238:=n3_;clear n0_ n1_ n2_ n3_;clear ho hb hg hat))
   go_ret
   exact ⟨_,by first|rfl|(simp [errW_none,errW_some] <;> rfl)|(simp [*,errW_none,errW_some] <;> rfl),by (with_reducible repeat (first|apply Kd.R_alloc|apply Kd.R_drewN|apply Kd.R_drew));exact Kd.R_mono HO238.out (fun _ hk=>hk.1),by repeat (first|(with_reducible first|exact HB.out|apply below_alloc|apply pw_below_drewN|apply below_drew1)|exact HB.out),by repeat (first|(with_reducible first|exact HK.out|apply Kept.alloc|apply Kept.drewN|apply Kept.drew)|exact HK.out)⟩
 rw [if_neg c5] at H
 exact absurd H (by simp)

end Go.Proofs.Ytaebgjdaoloceaa.QBmpP
