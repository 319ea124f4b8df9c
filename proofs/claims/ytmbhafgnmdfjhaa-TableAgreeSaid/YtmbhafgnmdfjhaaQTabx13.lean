/- Part of a proof: functions of the program as Lean functions, and that the machine's calls come to them. Made by a program of this session (wip/mp). -/
import Derived.Test.YtmbhafgnmdfjhaaQTabx0
import Derived.Test.YtmbhafgnmdfjhaaQTabx1
namespace Go.Proofs.Ytmbhafgnmdfjhaa.QTab
open Go.RowKit Go.Proofs.YtmbhafgnmdfjhaaV Go.Proofs.YtmbhafgnmdfjhaaW.PrintWords Go.Proofs.YtmbhafgnmdfjhaaW.PrintLast Go.Proofs.YtmbhafgnmdfjhaaW.PrintMore
attribute [local go_sem] max2_int min2_int max_two min_two max_three min_three max_four min_four   -- for this text's walks alone
set_option linter.unusedVariables false
set_option linter.unusedSimpArgs false

attribute [local go_sem high] eqA83
/-! ### dioramaref00_HasInt: function 52 -/
def dioramaref00_HasInt.l0 : Nat → List Int → Int → Int → Option (Int)
 | 0,_,_,_=>none
 | k+1,x0,x1,x5=>if x5 < (x0.length:Int) then (if 0≤x5 then (if (rd x0 x5)=x1 then (some x5) else (dioramaref00_HasInt.l0 k x0 x1 (wrap64 (x5+1)))) else (none)) else (some (-1))
def dioramaref00_HasInt.f (k : Nat) (l0 : List Int) (a1 : Int) : Option (Int) := dioramaref00_HasInt.l0 k l0 a1 0
theorem dioramaref00_HasInt.mono_l:∀ k,(∀ y0 y1 y2,LeO (dioramaref00_HasInt.l0 k y0 y1 y2) (dioramaref00_HasInt.l0 (k+1) y0 y1 y2))
 | 0=>fun _ _ _ r h=>by simp [dioramaref00_HasInt.l0] at h
 | k+1=>by
  have ih0:=dioramaref00_HasInt.mono_l k
  · intro y0 y1 y2
    unfold dioramaref00_HasInt.l0
    repeat' first
    | (with_reducible exact ih0 _ _ _)
    | (with_reducible exact LeO.refl _)
    | (with_reducible exact LeO.none _)
    | (with_reducible refine LeO.ite ?_ ?_)
    | (with_reducible refine LeO.bind ?_ (fun _=>?_))
    | exact LeO.none _
    | refine LeO.ite ?_ ?_
    | refine LeO.bind ?_ (fun _=>?_)
theorem dioramaref00_HasInt.mono:∀ a0 a1 k,LeO (dioramaref00_HasInt.f k a0 a1) (dioramaref00_HasInt.f (k+1) a0 a1):=by
 intro a0 a1 k
 have ih0:=dioramaref00_HasInt.mono_l k
 unfold dioramaref00_HasInt.f
 repeat' first
  | (with_reducible exact ih0 _ _ _)
  | (with_reducible exact LeO.refl _)
  | (with_reducible exact LeO.none _)
  | (with_reducible refine LeO.ite ?_ ?_)
  | (with_reducible refine LeO.bind ?_ (fun _=>?_))
  | exact LeO.none _
  | refine LeO.ite ?_ ?_
  | refine LeO.bind ?_ (fun _=>?_)
set_option maxHeartbeats 8000000 in
set_option maxRecDepth 100000 in
theorem dioramaref00_HasInt.calls (k:Nat) (A0:Option Addr) (c0:Nat) (l0:List Int) (a1:Int) (r:Int) (w:World) (hr0:Kd.C (Kd.int .i64) w A0 l0.length l0) (hc0:l0.length≤c0) (h:dioramaref00_HasInt.f k l0 a1=some r) :
 Calls Try.prog 52 #[.slice A0 l0.length c0,.int .i64 a1] w fun e w'=>e=.returned (.int .i64 r)∧Drawn0 w w':=by
 have HR0:=Aside0.mk hr0
 have HC0:=Aside0.mk hc0;clear hr0 hc0
 have H:(dioramaref00_HasInt.l0 k l0 a1 0)=some r:=h;clear h
 have H':=Aside0.mk H;clear H
 go_enter Try.func52,Try.ntmps52
 go_wp2
 go_loopg [5] k (fun kq v5 w'=>∃ (x5_1:Int),v5=.int .i64 x5_1∧Aside0 (dioramaref00_HasInt.l0 kq l0 a1 x5_1=some r)∧Aside0 (kq≤k)∧Drawn0 w w')
 case atStart=>exact ⟨(0),okV,H',⟨Nat.le_refl _⟩,by repeat (first|exact Drawn0.refl _|apply Drawn0.step)⟩
 case round =>
  clear H'
  try clear p2
  obtain ⟨x5_1,rfl,HA,HK1,⟨m1,rfl⟩⟩:=hrel
  cases gk with
  | zero=>exact absurd HA.out (by simp [dioramaref00_HasInt.l0])
  | succ k1 =>
   have H:=HA.out;clear HA
   simp only [dioramaref00_HasInt.l0] at H
   by_cases c3:x5_1 < (l0.length:Int)
   · rw [if_pos c3] at H
     have c3b0:decide (x5_1 < (l0.length:Int))=true:=decide_eq_true c3;clear c3
     by_cases c4:0≤x5_1
     · rw [if_pos c4] at H
       have c4b0:decide (0≤x5_1)=true:=decide_eq_true c4;clear c4
       by_cases c5:(rd l0 x5_1)=a1
       · rw [if_pos c5] at H
         have c5b0:((rd l0 x5_1) == a1)=true:=beq_iff_eq.mpr c5
         have c5b1:((rd l0 x5_1) != a1)=false:=bne_eq_false_iff_eq.mpr c5;clear c5
         obtain rfl:=Option.some.inj H
         have p163:0≤(x5_1:Int):=of_decide_eq_true asV
         have q163:x5_1 < (l0.length:Int):=of_decide_eq_true asV
         obtain ⟨ad163,e163,hx163_0⟩:=Kd.at_int HR0.out x5_1 p163 q163
         cases e163
         replace p163:=eq_true p163
         replace q163:=eq_true q163
         go_wp2
         go_ret
         exact ⟨by first|rfl|(simp;done)|(simp [*];done),by repeat (first|exact Drawn0.refl _|apply Drawn0.step)⟩
       rw [if_neg c5] at H
       have c5b0:((rd l0 x5_1) == a1)=false:=beq_eq_false_iff_ne.mpr c5
       have c5b1:((rd l0 x5_1) != a1)=true:=bne_iff_ne.mpr c5
       have H':=Aside0.mk H;clear H
       have p163:0≤(x5_1:Int):=of_decide_eq_true asV
       have q163:x5_1 < (l0.length:Int):=of_decide_eq_true asV
       obtain ⟨ad163,e163,hx163_0⟩:=Kd.at_int HR0.out x5_1 p163 q163
       cases e163
       replace p163:=eq_true p163
       replace q163:=eq_true q163
       go_wp2
       go_roundg k1
       case measure=>have:=HK1.out;omega
       case rel=>exact ⟨(wrap64 (x5_1+1)),okV,H',⟨by have:=HK1.out;omega⟩,by repeat (first|exact Drawn0.refl _|apply Drawn0.step)⟩
     rw [if_neg c4] at H
     exact absurd H (by simp)
   rw [if_neg c3] at H
   have c3b0:decide (x5_1 < (l0.length:Int))=false:=decide_eq_false c3;clear c3
   obtain rfl:=Option.some.inj H
   go_wp2
   go_ret
   exact ⟨by first|rfl|(simp;done)|(simp [*];done),by repeat (first|exact Drawn0.refl _|apply Drawn0.step)⟩

-- NOT PRINTED: function 13 (dioramaref09_Check)

/-! ### api_Run_56: function 56 -/
def api_Run_56.l0 : Nat → List (S83) → List (S83) → Int → Int → Option (Bool)
 | 0,_,_,_,_=>none
 | k+1,x0,x1,x12,x13=>if x13 < x12 then (if 0≤x13 then (if x13 < (x0.length:Int) then (if x13 < (x1.length:Int) then (if (!(((rd_T83 x0 x13).f0) == ((rd_T83 x1 x13).f0)) || (!(((rd_T83 x0 x13).f1) == ((rd_T83 x1 x13).f1))))=true then (some false) else (api_Run_56.l0 k x0 x1 x12 (wrap64 (x13+1)))) else (none)) else (none)) else (none)) else (some true)
def api_Run_56.f (k : Nat) (l0 : List (S83)) (l1 : List (S83)) : Option (Bool) := if (l0.length : Int) = (l1.length : Int) then (api_Run_56.l0 k l0 l1 (l0.length : Int) 0) else (some false)
theorem api_Run_56.mono_l:∀ k,(∀ y0 y1 y2 y3,LeO (api_Run_56.l0 k y0 y1 y2 y3) (api_Run_56.l0 (k+1) y0 y1 y2 y3))
 | 0=>fun _ _ _ _ r h=>by simp [api_Run_56.l0] at h
 | k+1=>by
  have ih0:=api_Run_56.mono_l k
  · intro y0 y1 y2 y3
    unfold api_Run_56.l0
    repeat' first
    | (with_reducible exact ih0 _ _ _ _)
    | (with_reducible exact LeO.refl _)
    | (with_reducible exact LeO.none _)
    | (with_reducible refine LeO.ite ?_ ?_)
    | (with_reducible refine LeO.bind ?_ (fun _=>?_))
    | exact LeO.none _
    | refine LeO.ite ?_ ?_
    | refine LeO.bind ?_ (fun _=>?_)
theorem api_Run_56.mono:∀ a0 a1 k,LeO (api_Run_56.f k a0 a1) (api_Run_56.f (k+1) a0 a1):=by
 intro a0 a1 k
 have ih0:=api_Run_56.mono_l k
 unfold api_Run_56.f
 repeat' first
  | (with_reducible exact ih0 _ _ _ _)
  | (with_reducible exact LeO.refl _)
  | (with_reducible exact LeO.none _)
  | (with_reducible refine LeO.ite ?_ ?_)
  | (with_reducible refine LeO.bind ?_ (fun _=>?_))
  | exact LeO.none _
  | refine LeO.ite ?_ ?_
  | refine LeO.bind ?_ (fun _=>?_)
set_option maxHeartbeats 8000000 in
set_option maxRecDepth 100000 in
theorem api_Run_56.calls (k:Nat) (A0:Option Addr) (c0:Nat) (l0:List (S83)) (A1:Option Addr) (c1:Nat) (l1:List (S83)) (r:Bool) (w:World) (hr0:Kd.C k83 w A0 l0.length l0) (hc0:l0.length≤c0) (hr1:Kd.C k83 w A1 l1.length l1) (hc1:l1.length≤c1) (h:api_Run_56.f k l0 l1=some r) :
 Calls Try.prog 56 #[.slice A0 l0.length c0,.slice A1 l1.length c1] w fun e w'=>e=.returned (.bool r)∧Drawn0 w w':=by
 have hu83:=Try.underlying83
 have HR0:=Aside0.mk hr0
 have HC0:=Aside0.mk hc0;clear hr0 hc0
 have HR1:=Aside0.mk hr1
 have HC1:=Aside0.mk hc1;clear hr1 hc1
 have H:(if (l0.length:Int)=(l1.length:Int) then (api_Run_56.l0 k l0 l1 (l0.length:Int) 0) else (some false))=some r:=h;clear h
 by_cases c3:(l0.length:Int)=(l1.length:Int)
 · rw [if_pos c3] at H
   have c3b0:((l0.length:Int) == (l1.length:Int))=true:=beq_iff_eq.mpr c3
   have c3b1:((l0.length:Int) != (l1.length:Int))=false:=bne_eq_false_iff_eq.mpr c3
   have c3b2:(l0.length == l1.length)=true:=by first|simpa using c3|(simp at c3 ⊢;omega)
   clear c3
   have H':=Aside0.mk H;clear H
   go_enter Try.func56,Try.ntmps56
   go_wp2
   repeat (go_quiet (fail);try go_wp2)
   go_loopg [13] k (fun kq v13 w'=>∃ (x13_1:Int),v13=.int .i64 x13_1∧Aside0 (api_Run_56.l0 kq l0 l1 (l0.length:Int) x13_1=some r)∧Aside0 (kq≤k)∧Drawn0 w w')
   case atStart=>exact ⟨(0),okV,H',⟨Nat.le_refl _⟩,by repeat (first|exact Drawn0.refl _|apply Drawn0.step)⟩
   case round =>
    clear H'
    try clear c1;try clear p2;try clear c3;try clear c3b0;try clear c3b1;try clear c3b2
    obtain ⟨x13_1,rfl,HA,HK1,⟨m1,rfl⟩⟩:=hrel
    cases gk with
    | zero=>exact absurd HA.out (by simp [api_Run_56.l0])
    | succ k1 =>
     have H:=HA.out;clear HA
     simp only [api_Run_56.l0] at H
     by_cases c4:x13_1 < (l0.length:Int)
     · rw [if_pos c4] at H
       have c4b0:decide (x13_1 < (l0.length:Int))=true:=decide_eq_true c4;clear c4
       by_cases c5:0≤x13_1
       · rw [if_pos c5] at H
         have c5b0:decide (0≤x13_1)=true:=decide_eq_true c5;clear c5
         by_cases c6:x13_1 < (l0.length:Int)
         · rw [if_pos c6] at H
           have c6b0:decide (x13_1 < (l0.length:Int))=true:=decide_eq_true c6;clear c6
           by_cases c7:x13_1 < (l1.length:Int)
           · rw [if_pos c7] at H
             have c7b0:decide (x13_1 < (l1.length:Int))=true:=decide_eq_true c7;clear c7
             by_cases c8:(!(((rd_T83 l0 x13_1).f0) == ((rd_T83 l1 x13_1).f0)) || (!(((rd_T83 l0 x13_1).f1) == ((rd_T83 l1 x13_1).f1))))=true
             · rw [if_pos c8] at H
               have c8b0:(!(((rd_T83 l0 x13_1).f0) == ((rd_T83 l1 x13_1).f0)) || (!(((rd_T83 l0 x13_1).f1) == ((rd_T83 l1 x13_1).f1))))=true:=c8;clear c8
               obtain rfl:=Option.some.inj H
               have p164:0≤(x13_1:Int):=of_decide_eq_true asV
               have q164:x13_1 < (l0.length:Int):=of_decide_eq_true asV
               obtain ⟨ad164,e164,hx164_0,hx164_1⟩:=at_T83 HR0.out x13_1 p164 q164
               cases e164
               replace p164:=eq_true p164
               replace q164:=eq_true q164
               have p165:0≤(x13_1:Int):=of_decide_eq_true asV
               have q165:x13_1 < (l1.length:Int):=of_decide_eq_true asV
               obtain ⟨ad165,e165,hx165_0,hx165_1⟩:=at_T83 HR1.out x13_1 p165 q165
               cases e165
               replace p165:=eq_true p165
               replace q165:=eq_true q165
               go_wp2
               repeat (go_quiet (fail);try go_wp2)
               go_ret
               exact ⟨by first|rfl|(simp;done)|(simp [*];done),by repeat (first|exact Drawn0.refl _|apply Drawn0.step)⟩
             rw [if_neg c8] at H
             have c8b0:(!(((rd_T83 l0 x13_1).f0) == ((rd_T83 l1 x13_1).f0)) || (!(((rd_T83 l0 x13_1).f1) == ((rd_T83 l1 x13_1).f1))))=false:=by simpa using c8
             clear c8
             have H':=Aside0.mk H;clear H
             have p164:0≤(x13_1:Int):=of_decide_eq_true asV
             have q164:x13_1 < (l0.length:Int):=of_decide_eq_true asV
             obtain ⟨ad164,e164,hx164_0,hx164_1⟩:=at_T83 HR0.out x13_1 p164 q164
             cases e164
             replace p164:=eq_true p164
             replace q164:=eq_true q164
             have p165:0≤(x13_1:Int):=of_decide_eq_true asV
             have q165:x13_1 < (l1.length:Int):=of_decide_eq_true asV
             obtain ⟨ad165,e165,hx165_0,hx165_1⟩:=at_T83 HR1.out x13_1 p165 q165
             cases e165
             replace p165:=eq_true p165
             replace q165:=eq_true q165
             go_wp2
             repeat (go_quiet (fail);try go_wp2)
             go_roundg k1
             case measure=>have:=HK1.out;omega
             case rel=>exact ⟨(wrap64 (x13_1+1)),okV,H',⟨by have:=HK1.out;omega⟩,by repeat (first|exact Drawn0.refl _|apply Drawn0.step)⟩
           rw [if_neg c7] at H
           exact absurd H (by simp)
         rw [if_neg c6] at H
         exact absurd H (by simp)
       rw [if_neg c5] at H
       exact absurd H (by simp)
     rw [if_neg c4] at H
     have c4b0:decide (x13_1 < (l0.length:Int))=false:=decide_eq_false c4;clear c4
     obtain rfl:=Option.some.inj H
     go_wp2
     repeat (go_quiet (fail);try go_wp2)
     go_ret
     exact ⟨by first|rfl|(simp;done)|(simp [*];done),by repeat (first|exact Drawn0.refl _|apply Drawn0.step)⟩
 rw [if_neg c3] at H
 have c3b0:((l0.length:Int) == (l1.length:Int))=false:=beq_eq_false_iff_ne.mpr c3
 have c3b1:((l0.length:Int) != (l1.length:Int))=true:=bne_iff_ne.mpr c3
 have c3b2:(l0.length == l1.length)=false:=by first|simpa using c3|(simp at c3 ⊢;omega)
 obtain rfl:=Option.some.inj H
 go_enter Try.func56,Try.ntmps56
 go_wp2
 repeat (go_quiet (fail);try go_wp2)
 go_ret
 exact ⟨by first|rfl|(simp;done)|(simp [*];done),by repeat (first|exact Drawn0.refl _|apply Drawn0.step)⟩

end Go.Proofs.Ytmbhafgnmdfjhaa.QTab
