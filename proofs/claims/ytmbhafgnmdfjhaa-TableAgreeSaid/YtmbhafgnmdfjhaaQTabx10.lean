/- Part of a proof: functions of the program as Lean functions, and that the machine's calls come to them. Made by a program of this session (wip/mp). -/
import Derived.Test.YtmbhafgnmdfjhaaQTabx0
import Derived.Test.YtmbhafgnmdfjhaaQTabx9
namespace Go.Proofs.Ytmbhafgnmdfjhaa.QTab
open Go.RowKit Go.Proofs.YtmbhafgnmdfjhaaV Go.Proofs.YtmbhafgnmdfjhaaW.PrintWords Go.Proofs.YtmbhafgnmdfjhaaW.PrintLast Go.Proofs.YtmbhafgnmdfjhaaW.PrintMore
attribute [local go_sem] max2_int min2_int max_two min_two max_three min_three max_four min_four   -- for this text's walks alone
set_option linter.unusedVariables false
set_option linter.unusedSimpArgs false

/-! ### dioramaref09_runs: function 96 -/
def dioramaref09_runs.l0 : Nat → List (S83) → Int → Int → Int → Option (Bool)
 | 0,_,_,_,_=>none
 | k+1,x0,x1,x2,x7=>if x7 < (x0.length:Int) then (if 0≤x7 then (if ((rd_T83 x0 x7).f0) < 1 then (some false) else ((dioramaref09_in.f ((rd_T83 x0 x7).f1) x1 x2).bind fun t139=>(if t139=true then (dioramaref09_runs.l0 k x0 x1 x2 (wrap64 (x7+1))) else (some false)))) else (none)) else (some true)
def dioramaref09_runs.f (k : Nat) (l0 : List (S83)) (a1 : Int) (a2 : Int) : Option (Bool) := dioramaref09_runs.l0 k l0 a1 a2 0
theorem dioramaref09_runs.mono_l:∀ k,(∀ y0 y1 y2 y3,LeO (dioramaref09_runs.l0 k y0 y1 y2 y3) (dioramaref09_runs.l0 (k+1) y0 y1 y2 y3))
 | 0=>fun _ _ _ _ r h=>by simp [dioramaref09_runs.l0] at h
 | k+1=>by
  have ih0:=dioramaref09_runs.mono_l k
  · intro y0 y1 y2 y3
    unfold dioramaref09_runs.l0
    repeat' first
    | (with_reducible exact ih0 _ _ _ _)
    | (with_reducible exact LeO.refl _)
    | (with_reducible exact LeO.none _)
    | (with_reducible refine LeO.ite ?_ ?_)
    | (with_reducible refine LeO.bind ?_ (fun _=>?_))
    | exact LeO.none _
    | refine LeO.ite ?_ ?_
    | refine LeO.bind ?_ (fun _=>?_)
theorem dioramaref09_runs.mono:∀ a0 a1 a2 k,LeO (dioramaref09_runs.f k a0 a1 a2) (dioramaref09_runs.f (k+1) a0 a1 a2):=by
 intro a0 a1 a2 k
 have ih0:=dioramaref09_runs.mono_l k
 unfold dioramaref09_runs.f
 repeat' first
  | (with_reducible exact ih0 _ _ _ _)
  | (with_reducible exact LeO.refl _)
  | (with_reducible exact LeO.none _)
  | (with_reducible refine LeO.ite ?_ ?_)
  | (with_reducible refine LeO.bind ?_ (fun _=>?_))
  | exact LeO.none _
  | refine LeO.ite ?_ ?_
  | refine LeO.bind ?_ (fun _=>?_)
set_option maxHeartbeats 8000000 in
set_option maxRecDepth 100000 in
theorem dioramaref09_runs.calls (k:Nat) (A0:Option Addr) (c0:Nat) (l0:List (S83)) (a1:Int) (a2:Int) (r:Bool) (w:World) (hr0:Kd.C k83 w A0 l0.length l0) (hc0:l0.length≤c0) (h:dioramaref09_runs.f k l0 a1 a2=some r) :
 Calls Try.prog 96 #[.slice A0 l0.length c0,.int .i64 a1,.int .i64 a2] w fun e w'=>e=.returned (.bool r)∧Drawn0 w w':=by
 have HR0:=Aside0.mk hr0
 have HC0:=Aside0.mk hc0;clear hr0 hc0
 have H:(dioramaref09_runs.l0 k l0 a1 a2 0)=some r:=h;clear h
 have H':=Aside0.mk H;clear H
 go_enter Try.func96,Try.ntmps96
 go_wp2
 go_loopg [7] k (fun kq v7 w'=>∃ (x7_1:Int),v7=.int .i64 x7_1∧Aside0 (dioramaref09_runs.l0 kq l0 a1 a2 x7_1=some r)∧Aside0 (kq≤k)∧Drawn0 w w')
 case atStart=>exact ⟨(0),okV,H',⟨Nat.le_refl _⟩,by repeat (first|exact Drawn0.refl _|apply Drawn0.step)⟩
 case round =>
  clear H'
  try clear p2
  obtain ⟨x7_1,rfl,HA,HK1,⟨m1,rfl⟩⟩:=hrel
  cases gk with
  | zero=>exact absurd HA.out (by simp [dioramaref09_runs.l0])
  | succ k1 =>
   have H:=HA.out;clear HA
   simp only [dioramaref09_runs.l0] at H
   by_cases c4:x7_1 < (l0.length:Int)
   · rw [if_pos c4] at H
     have c4b0:decide (x7_1 < (l0.length:Int))=true:=decide_eq_true c4;clear c4
     by_cases c5:0≤x7_1
     · rw [if_pos c5] at H
       have c5b0:decide (0≤x7_1)=true:=decide_eq_true c5;clear c5
       by_cases c6:((rd_T83 l0 x7_1).f0) < 1
       · rw [if_pos c6] at H
         have c6b0:decide (((rd_T83 l0 x7_1).f0) < 1)=true:=decide_eq_true c6;clear c6
         obtain rfl:=Option.some.inj H
         have p137:0≤(x7_1:Int):=of_decide_eq_true asV
         have q137:x7_1 < (l0.length:Int):=of_decide_eq_true asV
         obtain ⟨ad137,e137,hx137_0,hx137_1⟩:=at_T83 HR0.out x7_1 p137 q137
         cases e137
         replace p137:=eq_true p137
         replace q137:=eq_true q137
         go_wp2
         go_ret
         exact ⟨by first|rfl|(simp;done)|(simp [*];done),by repeat (first|exact Drawn0.refl _|apply Drawn0.step)⟩
       rw [if_neg c6] at H
       have c6b0:decide (((rd_T83 l0 x7_1).f0) < 1)=false:=decide_eq_false c6;clear c6
       replace H:=Option.bind_eq_some_iff.mp H
       obtain ⟨t139,A70,H⟩:=H
       replace H:(if t139=true then (dioramaref09_runs.l0 k1 l0 a1 a2 (wrap64 (x7_1+1))) else (some false))=some r:=H
       have A7:=Aside0.mk A70;clear A70
       by_cases c8:t139=true
       · subst c8
         have H1:(dioramaref09_runs.l0 k1 l0 a1 a2 (wrap64 (x7_1+1)))=some r:=by rw [if_pos rfl] at H;exact H
         clear H
         have H:=H1;clear H1
         have H':=Aside0.mk H;clear H
         have p137:0≤(x7_1:Int):=of_decide_eq_true asV
         have q137:x7_1 < (l0.length:Int):=of_decide_eq_true asV
         obtain ⟨ad137,e137,hx137_0,hx137_1⟩:=at_T83 HR0.out x7_1 p137 q137
         cases e137
         replace p137:=eq_true p137
         replace q137:=eq_true q137
         have p138:0≤(x7_1:Int):=of_decide_eq_true asV
         have q138:x7_1 < (l0.length:Int):=of_decide_eq_true asV
         obtain ⟨ad138,e138,hx138_0,hx138_1⟩:=at_T83 HR0.out x7_1 p138 q138
         obtain rfl:ad137=ad138:=(by injection e138)
         replace p138:=eq_true p138
         replace q138:=eq_true q138
         go_wp2_with (first|(go_at_call 53;(with_reducible refine (dioramaref09_in.calls ((rd_T83 l0 x7_1).f1) a1 a2 true _ A7.out).mono ?_);rintro e w' ⟨rfl,⟨nd,rfl⟩⟩))
         go_roundg k1
         case measure=>have:=HK1.out;omega
         case rel=>exact ⟨(wrap64 (x7_1+1)),okV,H',⟨by have:=HK1.out;omega⟩,by repeat (first|exact Drawn0.refl _|apply Drawn0.step)⟩
       replace c8:=Bool.eq_false_iff.mpr c8;subst c8
       have H1:(some false)=some r:=by rw [if_neg (show ¬ (false=true) by decide)] at H;exact H
       clear H
       have H:=H1;clear H1
       obtain rfl:=Option.some.inj H
       have p137:0≤(x7_1:Int):=of_decide_eq_true asV
       have q137:x7_1 < (l0.length:Int):=of_decide_eq_true asV
       obtain ⟨ad137,e137,hx137_0,hx137_1⟩:=at_T83 HR0.out x7_1 p137 q137
       cases e137
       replace p137:=eq_true p137
       replace q137:=eq_true q137
       have p138:0≤(x7_1:Int):=of_decide_eq_true asV
       have q138:x7_1 < (l0.length:Int):=of_decide_eq_true asV
       obtain ⟨ad138,e138,hx138_0,hx138_1⟩:=at_T83 HR0.out x7_1 p138 q138
       obtain rfl:ad137=ad138:=(by injection e138)
       replace p138:=eq_true p138
       replace q138:=eq_true q138
       go_wp2_with (first|(go_at_call 53;(with_reducible refine (dioramaref09_in.calls ((rd_T83 l0 x7_1).f1) a1 a2 false _ A7.out).mono ?_);rintro e w' ⟨rfl,⟨nd,rfl⟩⟩))
       go_ret
       exact ⟨by first|rfl|(simp;done)|(simp [*];done),by repeat (first|exact Drawn0.refl _|apply Drawn0.step)⟩
     rw [if_neg c5] at H
     exact absurd H (by simp)
   rw [if_neg c4] at H
   have c4b0:decide (x7_1 < (l0.length:Int))=false:=decide_eq_false c4;clear c4
   obtain rfl:=Option.some.inj H
   go_wp2
   go_ret
   exact ⟨by first|rfl|(simp;done)|(simp [*];done),by repeat (first|exact Drawn0.refl _|apply Drawn0.step)⟩

-- NOT PRINTED: function 49 (dioramaref09_ranges)

-- NOT PRINTED: function 83 (dioramaref09_chunked)

-- NOT PRINTED: function 50 (dioramaref09_counts)

end Go.Proofs.Ytmbhafgnmdfjhaa.QTab
