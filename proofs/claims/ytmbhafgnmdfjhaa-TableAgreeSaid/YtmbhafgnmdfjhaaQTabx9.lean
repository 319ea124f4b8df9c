/- Part of a proof: functions of the program as Lean functions, and that the machine's calls come to them. Made by a program of this session (wip/mp). -/
import Derived.Test.YtmbhafgnmdfjhaaQTabx0
namespace Go.Proofs.Ytmbhafgnmdfjhaa.QTab
open Go.RowKit Go.Proofs.YtmbhafgnmdfjhaaV Go.Proofs.YtmbhafgnmdfjhaaW.PrintWords Go.Proofs.YtmbhafgnmdfjhaaW.PrintLast Go.Proofs.YtmbhafgnmdfjhaaW.PrintMore
attribute [local go_sem] max2_int min2_int max_two min_two max_three min_three max_four min_four   -- for this text's walks alone
set_option linter.unusedVariables false
set_option linter.unusedSimpArgs false

/-! ### dioramaref09_counted: function 55 -/
def dioramaref09_counted.l0 : Nat → List (S83) → Int → Int → Option (Int)
 | 0,_,_,_=>none
 | k+1,x0,x3,x4=>if x4 < (x0.length:Int) then (if 0≤x4 then (if ((rd_T83 x0 x4).f0) > 0 then (if ((rd_T83 x0 x4).f0) > (wrap64 (400 - x3)) then (some 401) else (dioramaref09_counted.l0 k x0 (wrap64 (x3+((rd_T83 x0 x4).f0))) (wrap64 (x4+1)))) else (dioramaref09_counted.l0 k x0 x3 (wrap64 (x4+1)))) else (none)) else (some x3)
def dioramaref09_counted.f (k : Nat) (l0 : List (S83)) : Option (Int) := dioramaref09_counted.l0 k l0 0 0
theorem dioramaref09_counted.mono_l:∀ k,(∀ y0 y1 y2,LeO (dioramaref09_counted.l0 k y0 y1 y2) (dioramaref09_counted.l0 (k+1) y0 y1 y2))
 | 0=>fun _ _ _ r h=>by simp [dioramaref09_counted.l0] at h
 | k+1=>by
  have ih0:=dioramaref09_counted.mono_l k
  · intro y0 y1 y2
    unfold dioramaref09_counted.l0
    repeat' first
    | (with_reducible exact ih0 _ _ _)
    | (with_reducible exact LeO.refl _)
    | (with_reducible exact LeO.none _)
    | (with_reducible refine LeO.ite ?_ ?_)
    | (with_reducible refine LeO.bind ?_ (fun _=>?_))
    | exact LeO.none _
    | refine LeO.ite ?_ ?_
    | refine LeO.bind ?_ (fun _=>?_)
theorem dioramaref09_counted.mono:∀ a0 k,LeO (dioramaref09_counted.f k a0) (dioramaref09_counted.f (k+1) a0):=by
 intro a0 k
 have ih0:=dioramaref09_counted.mono_l k
 unfold dioramaref09_counted.f
 repeat' first
  | (with_reducible exact ih0 _ _ _)
  | (with_reducible exact LeO.refl _)
  | (with_reducible exact LeO.none _)
  | (with_reducible refine LeO.ite ?_ ?_)
  | (with_reducible refine LeO.bind ?_ (fun _=>?_))
  | exact LeO.none _
  | refine LeO.ite ?_ ?_
  | refine LeO.bind ?_ (fun _=>?_)
set_option maxHeartbeats 8000000 in
set_option maxRecDepth 100000 in
theorem dioramaref09_counted.calls (k:Nat) (A0:Option Addr) (c0:Nat) (l0:List (S83)) (r:Int) (w:World) (hr0:Kd.C k83 w A0 l0.length l0) (hc0:l0.length≤c0) (h:dioramaref09_counted.f k l0=some r) :
 Calls Try.prog 55 #[.slice A0 l0.length c0] w fun e w'=>e=.returned (.int .i64 r)∧Drawn0 w w':=by
 have HR0:=Aside0.mk hr0
 have HC0:=Aside0.mk hc0;clear hr0 hc0
 have H:(dioramaref09_counted.l0 k l0 0 0)=some r:=h;clear h
 have H':=Aside0.mk H;clear H
 go_enter Try.func55,Try.ntmps55
 go_wp2
 go_loopg [3,4] k (fun kq v3 v4 w'=>∃ (x3_1:Int) (x4_1:Int),v3=.int .i64 x3_1∧v4=.int .i64 x4_1∧Aside0 (dioramaref09_counted.l0 kq l0 x3_1 x4_1=some r)∧Aside0 (kq≤k)∧Drawn0 w w')
 case atStart=>exact ⟨(0),(0),okV,okV,H',⟨Nat.le_refl _⟩,by repeat (first|exact Drawn0.refl _|apply Drawn0.step)⟩
 case round =>
  clear H'
  obtain ⟨x3_1,x4_1,rfl,rfl,HA,HK1,⟨m1,rfl⟩⟩:=hrel
  cases gk with
  | zero=>exact absurd HA.out (by simp [dioramaref09_counted.l0])
  | succ k1 =>
   have H:=HA.out;clear HA
   simp only [dioramaref09_counted.l0] at H
   by_cases c2:x4_1 < (l0.length:Int)
   · rw [if_pos c2] at H
     have c2b0:decide (x4_1 < (l0.length:Int))=true:=decide_eq_true c2;clear c2
     by_cases c3:0≤x4_1
     · rw [if_pos c3] at H
       have c3b0:decide (0≤x4_1)=true:=decide_eq_true c3;clear c3
       by_cases c4:((rd_T83 l0 x4_1).f0) > 0
       · rw [if_pos c4] at H
         have c4b0:decide (0 < ((rd_T83 l0 x4_1).f0))=true:=decide_eq_true c4;clear c4
         by_cases c5:((rd_T83 l0 x4_1).f0) > (wrap64 (400 - x3_1))
         · rw [if_pos c5] at H
           have c5b0:decide ((wrap64 (400 - x3_1)) < ((rd_T83 l0 x4_1).f0))=true:=decide_eq_true c5;clear c5
           obtain rfl:=Option.some.inj H
           have p132:0≤(x4_1:Int):=of_decide_eq_true asV
           have q132:x4_1 < (l0.length:Int):=of_decide_eq_true asV
           obtain ⟨ad132,e132,hx132_0,hx132_1⟩:=at_T83 HR0.out x4_1 p132 q132
           cases e132
           replace p132:=eq_true p132
           replace q132:=eq_true q132
           have p133:0≤(x4_1:Int):=of_decide_eq_true asV
           have q133:x4_1 < (l0.length:Int):=of_decide_eq_true asV
           obtain ⟨ad133,e133,hx133_0,hx133_1⟩:=at_T83 HR0.out x4_1 p133 q133
           obtain rfl:ad132=ad133:=(by injection e133)
           replace p133:=eq_true p133
           replace q133:=eq_true q133
           go_wp2
           go_ret
           exact ⟨by first|rfl|(simp;done)|(simp [*];done),by repeat (first|exact Drawn0.refl _|apply Drawn0.step)⟩
         rw [if_neg c5] at H
         have c5b0:decide ((wrap64 (400 - x3_1)) < ((rd_T83 l0 x4_1).f0))=false:=decide_eq_false c5;clear c5
         have H':=Aside0.mk H;clear H
         have p132:0≤(x4_1:Int):=of_decide_eq_true asV
         have q132:x4_1 < (l0.length:Int):=of_decide_eq_true asV
         obtain ⟨ad132,e132,hx132_0,hx132_1⟩:=at_T83 HR0.out x4_1 p132 q132
         cases e132
         replace p132:=eq_true p132
         replace q132:=eq_true q132
         have p133:0≤(x4_1:Int):=of_decide_eq_true asV
         have q133:x4_1 < (l0.length:Int):=of_decide_eq_true asV
         obtain ⟨ad133,e133,hx133_0,hx133_1⟩:=at_T83 HR0.out x4_1 p133 q133
         obtain rfl:ad132=ad133:=(by injection e133)
         replace p133:=eq_true p133
         replace q133:=eq_true q133
         have p134:0≤(x4_1:Int):=of_decide_eq_true asV
         have q134:x4_1 < (l0.length:Int):=of_decide_eq_true asV
         obtain ⟨ad134,e134,hx134_0,hx134_1⟩:=at_T83 HR0.out x4_1 p134 q134
         obtain rfl:ad132=ad134:=(by injection e134)
         replace p134:=eq_true p134
         replace q134:=eq_true q134
         go_wp2
         go_roundg k1
         case measure=>have:=HK1.out;omega
         case rel=>exact ⟨(wrap64 (x3_1+((rd_T83 l0 x4_1).f0))),(wrap64 (x4_1+1)),okV,okV,H',⟨by have:=HK1.out;omega⟩,by repeat (first|exact Drawn0.refl _|apply Drawn0.step)⟩
       rw [if_neg c4] at H
       have c4b0:decide (0 < ((rd_T83 l0 x4_1).f0))=false:=decide_eq_false c4;clear c4
       have H':=Aside0.mk H;clear H
       have p132:0≤(x4_1:Int):=of_decide_eq_true asV
       have q132:x4_1 < (l0.length:Int):=of_decide_eq_true asV
       obtain ⟨ad132,e132,hx132_0,hx132_1⟩:=at_T83 HR0.out x4_1 p132 q132
       cases e132
       replace p132:=eq_true p132
       replace q132:=eq_true q132
       go_wp2
       go_roundg k1
       case measure=>have:=HK1.out;omega
       case rel=>exact ⟨(x3_1),(wrap64 (x4_1+1)),okV,okV,H',⟨by have:=HK1.out;omega⟩,by repeat (first|exact Drawn0.refl _|apply Drawn0.step)⟩
     rw [if_neg c3] at H
     exact absurd H (by simp)
   rw [if_neg c2] at H
   have c2b0:decide (x4_1 < (l0.length:Int))=false:=decide_eq_false c2;clear c2
   obtain rfl:=Option.some.inj H
   go_wp2
   go_ret
   exact ⟨by first|rfl|(simp;done)|(simp [*];done),by repeat (first|exact Drawn0.refl _|apply Drawn0.step)⟩

/-! ### dioramaref09_Count: function 15 -/
def dioramaref09_Count.f (k : Nat) (a0_0 : Int) (l0_1 : List (S83)) (l0_2 : List (S83)) (l0_3 : List Int) (a0_4 : Bool) (a0_5 : Int) (l0_6 : List Int) (l0_7 : List (S86)) (l0_8 : List Int) (l0_9 : List (S83)) (l0_10 : List (List Int)) : Option (Int) := (dioramaref09_counted.f k l0_1).bind fun t136 => (some t136)
theorem dioramaref09_Count.mono:∀ a0 a1 a2 a3 a4 a5 a6 a7 a8 a9 a10 k,LeO (dioramaref09_Count.f k a0 a1 a2 a3 a4 a5 a6 a7 a8 a9 a10) (dioramaref09_Count.f (k+1) a0 a1 a2 a3 a4 a5 a6 a7 a8 a9 a10):=by
 intro a0 a1 a2 a3 a4 a5 a6 a7 a8 a9 a10 k
 unfold dioramaref09_Count.f
 repeat' first
  | (with_reducible exact dioramaref09_counted.mono _ _)
  | (with_reducible exact LeO.refl _)
  | (with_reducible exact LeO.none _)
  | (with_reducible refine LeO.ite ?_ ?_)
  | (with_reducible refine LeO.bind ?_ (fun _=>?_))
  | exact LeO.none _
  | refine LeO.ite ?_ ?_
  | refine LeO.bind ?_ (fun _=>?_)
set_option maxHeartbeats 8000000 in
set_option maxRecDepth 100000 in
theorem dioramaref09_Count.calls (k:Nat) (a0_0:Int) (A0_1:Option Addr) (c0_1:Nat) (l0_1:List (S83)) (A0_2:Option Addr) (c0_2:Nat) (l0_2:List (S83)) (A0_3:Option Addr) (c0_3:Nat) (l0_3:List Int) (a0_4:Bool) (a0_5:Int) (A0_6:Option Addr) (c0_6:Nat) (l0_6:List Int) (A0_7:Option Addr) (c0_7:Nat) (l0_7:List (S86)) (A0_8:Option Addr) (c0_8:Nat) (l0_8:List Int) (A0_9:Option Addr) (c0_9:Nat) (l0_9:List (S83)) (A0_10:Option Addr) (c0_10:Nat) (l0_10:List (List Int)) (r:Int) (w:World) (hr0_1:Kd.C k83 w A0_1 l0_1.length l0_1) (hc0_1:l0_1.length≤c0_1) (hr0_2:Kd.C k83 w A0_2 l0_2.length l0_2) (hc0_2:l0_2.length≤c0_2) (hr0_3:Kd.C (Kd.int .i64) w A0_3 l0_3.length l0_3) (hc0_3:l0_3.length≤c0_3) (hr0_6:Kd.C (Kd.int .i64) w A0_6 l0_6.length l0_6) (hc0_6:l0_6.length≤c0_6) (hr0_7:Kd.C k86 w A0_7 l0_7.length l0_7) (hc0_7:l0_7.length≤c0_7) (hr0_8:Kd.C (Kd.int .i64) w A0_8 l0_8.length l0_8) (hc0_8:l0_8.length≤c0_8) (hr0_9:Kd.C k83 w A0_9 l0_9.length l0_9) (hc0_9:l0_9.length≤c0_9) (hr0_10:Kd.C (Kd.slice 3 (Kd.int .i64)) w A0_10 l0_10.length l0_10) (hc0_10:l0_10.length≤c0_10) (h:dioramaref09_Count.f k a0_0 l0_1 l0_2 l0_3 a0_4 a0_5 l0_6 l0_7 l0_8 l0_9 l0_10=some r) :
 Calls Try.prog 15 #[.agg #[.int .i64 a0_0,.slice A0_1 l0_1.length c0_1,.slice A0_2 l0_2.length c0_2,.slice A0_3 l0_3.length c0_3,.bool a0_4,.int .i64 a0_5,.slice A0_6 l0_6.length c0_6,.slice A0_7 l0_7.length c0_7,.slice A0_8 l0_8.length c0_8,.slice A0_9 l0_9.length c0_9,.slice A0_10 l0_10.length c0_10]] w fun e w'=>e=.returned (.int .i64 r)∧Below w.heap.size w w':=by
 have hu27:=Try.underlying27
 have HR0_1:=Aside0.mk hr0_1
 have HC0_1:=Aside0.mk hc0_1;clear hr0_1 hc0_1
 have HR0_2:=Aside0.mk hr0_2
 have HC0_2:=Aside0.mk hc0_2;clear hr0_2 hc0_2
 have HR0_3:=Aside0.mk hr0_3
 have HC0_3:=Aside0.mk hc0_3;clear hr0_3 hc0_3
 have HR0_6:=Aside0.mk hr0_6
 have HC0_6:=Aside0.mk hc0_6;clear hr0_6 hc0_6
 have HR0_7:=Aside0.mk hr0_7
 have HC0_7:=Aside0.mk hc0_7;clear hr0_7 hc0_7
 have HR0_8:=Aside0.mk hr0_8
 have HC0_8:=Aside0.mk hc0_8;clear hr0_8 hc0_8
 have HR0_9:=Aside0.mk hr0_9
 have HC0_9:=Aside0.mk hc0_9;clear hr0_9 hc0_9
 have HR0_10:=Aside0.mk hr0_10
 have HC0_10:=Aside0.mk hc0_10;clear hr0_10 hc0_10;have HB:=Aside0.mk (Below.refl w.heap.size w)
 have H:((dioramaref09_counted.f k l0_1).bind fun t136=>(some t136))=some r:=h;clear h
 replace H:=Option.bind_eq_some_iff.mp H
 obtain ⟨t136,A20,H⟩:=H
 replace H:(some t136)=some r:=H
 have A2:=Aside0.mk A20;clear A20
 obtain rfl:=Option.some.inj H
 go_enter Try.func15,Try.ntmps15
 go_wp2_with (first|((with_reducible refine gate_dst (N:=1) rfl ?_);refine box_event ?hg (N:=1) ?hd (cs:=#[.int .i64 a0_0,.slice A0_1 l0_1.length c0_1,.slice A0_2 l0_2.length c0_2,.slice A0_3 l0_3.length c0_3,.bool a0_4,.int .i64 a0_5,.slice A0_6 l0_6.length c0_6,.slice A0_7 l0_7.length c0_7,.slice A0_8 l0_8.length c0_8,.slice A0_9 l0_9.length c0_9,.slice A0_10 l0_10.length c0_10]) (t:=27) ?hr ?_;(case hd=>rfl);(case hg=>rfl);(case hr=>first|(go_simp;done)|(go_simp;rfl));intro gb135 hg w3 hbox hb;have n0_:=Aside0.mk (below_step (belV HB.out) hb);have n1_:=Aside0.mk (hbox);have n2_:=Aside0.mk ((by rw [hg];exact (below_size (belV HB.out)):w.heap.size≤gb135));have n3_:=Aside0.mk ((by rw [hg];exact (below_size (belV HB.out)):w.heap.size≤gb135));clear HB;have HB:=n0_;have BK135:=n1_;have GW135:=n2_;have GE135:=n3_;clear n0_ n1_ n2_ n3_;clear hb hbox hg;obtain ⟨hcz4_0,hcz4_1,hcz4_2,hcz4_3,hcz4_4,hcz4_5,hcz4_6,hcz4_7,hcz4_8,hcz4_9,hcz4_10,hfz4_0,hfz4_1,hfz4_2,hfz4_3,hfz4_4,hfz4_5,hfz4_6,hfz4_7,hfz4_8,hfz4_9,hfz4_10⟩:=bcells11 BK135.out)|((with_reducible refine gate_callee (f:=55) rfl ?_);refine goesL_ (some 5) rfl rfl Try.func55 (by kernel_rfl) rfl #[.slice A0_1 l0_1.length c0_1] rfl (by (try simp only [List.map_toArray,List.map_cons,List.map_nil]);first|done|rfl|(simp only [List.length_drop,List.length_take];rfl)) ?_;(with_reducible refine (dioramaref09_counted.calls k _ _ l0_1 t136 _ ?side1 ?side2 A2.out).mono ?_);(case side1=>exact cV (Kd.C_below HR0_1.out HB.out));(case side2=>exact HC0_1.out);rintro e w' ⟨rfl,⟨nd,rfl⟩⟩;refine ⟨_,rfl,?_⟩))
 go_ret
 exact ⟨by first|rfl|(simp [errW_none,errW_some] <;> rfl)|(simp [*,errW_none,errW_some] <;> rfl),by repeat (first|(with_reducible first|exact HB.out|apply below_alloc|apply pw_below_drewN|apply below_drew1|refine below_set ?_ GE135.out)|exact HB.out)⟩

/-! ### dioramaref09_in: function 53 -/
def dioramaref09_in.f (a0 : Int) (a1 : Int) (a2 : Int) : Option (Bool) := if a0 ≥ a1 then (some (decide (a0 ≤ a2))) else (some false)
set_option maxHeartbeats 8000000 in
set_option maxRecDepth 100000 in
theorem dioramaref09_in.calls (a0 : Int) (a1 : Int) (a2 : Int) (r : Bool) (w : World) (h : dioramaref09_in.f a0 a1 a2 = some r) :
    Calls Try.prog 53 #[.int .i64 a0, .int .i64 a1, .int .i64 a2] w fun e w' => e = .returned (.bool r) ∧ Drawn0 w w' := by
  have H : (if a0 ≥ a1 then (some (decide (a0 ≤ a2))) else (some false)) = some r := h
  clear h
  by_cases c4 : a0 ≥ a1
  · rw [if_pos c4] at H
    have c4b0 : decide (a1 ≤ a0) = true := decide_eq_true c4
    clear c4
    obtain rfl := Option.some.inj H
    go_enter Try.func53, Try.ntmps53
    go_wp2
    go_ret
    exact ⟨by first | rfl | (simp; done) | (simp [*]; done), by repeat (first | exact Drawn0.refl _ | apply Drawn0.step)⟩
  · rw [if_neg c4] at H
    have c4b0 : decide (a1 ≤ a0) = false := decide_eq_false c4
    clear c4
    obtain rfl := Option.some.inj H
    go_enter Try.func53, Try.ntmps53
    go_wp2
    go_ret
    exact ⟨by first | rfl | (simp; done) | (simp [*]; done), by repeat (first | exact Drawn0.refl _ | apply Drawn0.step)⟩

end Go.Proofs.Ytmbhafgnmdfjhaa.QTab
