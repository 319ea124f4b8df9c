/- Part of a proof: functions of the program as Lean functions, and that the machine's calls come to them. Made by a program of this session (wip/mp). -/
import Derived.Test.YtmbhafgnmdfjhaaQTabx0
namespace Go.Proofs.Ytmbhafgnmdfjhaa.QTab
open Go.RowKit Go.Proofs.YtmbhafgnmdfjhaaV Go.Proofs.YtmbhafgnmdfjhaaW.PrintWords Go.Proofs.YtmbhafgnmdfjhaaW.PrintLast Go.Proofs.YtmbhafgnmdfjhaaW.PrintMore
attribute [local go_sem] max2_int min2_int max_two min_two max_three min_three max_four min_four   -- for this text's walks alone
set_option linter.unusedVariables false
set_option linter.unusedSimpArgs false

/-! ### table_before: function 72 -/
def table_before.l0 : Nat → Int → Int → List (S83) → Int → Int → Option (Int)
 | 0,_,_,_,_,_=>none
 | k+1,x1,x5,x9,x10,x11=>if x11 < x10 then (if 0≤x11 then (if x11 < (x9.length:Int) then (table_before.l0 k (wrap64 (x1 - (mn x1 ((rd_T83 x9 x11).f0)))) (wrap64 (x5+(wrap64 ((mn x1 ((rd_T83 x9 x11).f0))*((rd_T83 x9 x11).f1))))) x9 x10 (wrap64 (x11+1))) else (none)) else (none)) else (some x5)
def table_before.f (k : Nat) (l0 : List (S83)) (a1 : Int) : Option (Int) := table_before.l0 k a1 0 l0 (l0.length : Int) 0
theorem table_before.mono_l:∀ k,(∀ y0 y1 y2 y3 y4,LeO (table_before.l0 k y0 y1 y2 y3 y4) (table_before.l0 (k+1) y0 y1 y2 y3 y4))
 | 0=>fun _ _ _ _ _ r h=>by simp [table_before.l0] at h
 | k+1=>by
  have ih0:=table_before.mono_l k
  · intro y0 y1 y2 y3 y4
    unfold table_before.l0
    repeat' first
    | (with_reducible exact ih0 _ _ _ _ _)
    | (with_reducible exact LeO.refl _)
    | (with_reducible exact LeO.none _)
    | (with_reducible refine LeO.ite ?_ ?_)
    | (with_reducible refine LeO.bind ?_ (fun _=>?_))
    | exact LeO.none _
    | refine LeO.ite ?_ ?_
    | refine LeO.bind ?_ (fun _=>?_)
theorem table_before.mono:∀ a0 a1 k,LeO (table_before.f k a0 a1) (table_before.f (k+1) a0 a1):=by
 intro a0 a1 k
 have ih0:=table_before.mono_l k
 unfold table_before.f
 repeat' first
  | (with_reducible exact ih0 _ _ _ _ _)
  | (with_reducible exact LeO.refl _)
  | (with_reducible exact LeO.none _)
  | (with_reducible refine LeO.ite ?_ ?_)
  | (with_reducible refine LeO.bind ?_ (fun _=>?_))
  | exact LeO.none _
  | refine LeO.ite ?_ ?_
  | refine LeO.bind ?_ (fun _=>?_)
set_option maxHeartbeats 8000000 in
set_option maxRecDepth 100000 in
theorem table_before.calls (k:Nat) (A0:Option Addr) (c0:Nat) (l0:List (S83)) (a1:Int) (r:Int) (w:World) (hr0:Kd.C k83 w A0 l0.length l0) (hc0:l0.length≤c0) (h:table_before.f k l0 a1=some r) :
 Calls Try.prog 72 #[.slice A0 l0.length c0,.int .i64 a1] w fun e w'=>e=.returned (.int .i64 r)∧Below w.heap.size w w':=by
 have hu83:=Try.underlying83
 have HR0:=Aside0.mk hr0
 have HC0:=Aside0.mk hc0;clear hr0 hc0;have HB:=Aside0.mk (Below.refl w.heap.size w)
 have H:(table_before.l0 k a1 0 l0 (l0.length:Int) 0)=some r:=h;clear h
 have H':=Aside0.mk H;clear H
 go_enter Try.func72,Try.ntmps72
 go_wp2
 go_loopg [1,5,11] k (fun kq v1 v5 v11 w'=>∃ (x1_1:Int) (x5_1:Int) (x11_1:Int),v1=.int .i64 x1_1∧v5=.int .i64 x5_1∧v11=.int .i64 x11_1∧Aside0 (table_before.l0 kq x1_1 x5_1 l0 (l0.length:Int) x11_1=some r)∧Aside0 (kq≤k)∧Aside0 (Below w.heap.size w w'))
 case atStart=>exact ⟨(a1),(0),(0),okV,okV,okV,H',⟨Nat.le_refl _⟩,⟨belV HB.out⟩⟩
 case round =>
  clear H'
  try clear p2
  obtain ⟨x1_1,x5_1,x11_1,rfl,rfl,rfl,HA,HK1,HB⟩:=hrel
  cases gk with
  | zero=>exact absurd HA.out (by simp [table_before.l0])
  | succ k1 =>
   have H:=HA.out;clear HA
   simp only [table_before.l0] at H
   by_cases c3:x11_1 < (l0.length:Int)
   · rw [if_pos c3] at H
     have c3b0:decide (x11_1 < (l0.length:Int))=true:=decide_eq_true c3;clear c3
     by_cases c4:0≤x11_1
     · rw [if_pos c4] at H
       have c4b0:decide (0≤x11_1)=true:=decide_eq_true c4;clear c4
       by_cases c5:x11_1 < (l0.length:Int)
       · rw [if_pos c5] at H
         have c5b0:decide (x11_1 < (l0.length:Int))=true:=decide_eq_true c5;clear c5
         obtain ⟨ji6,hji6⟩:∃ j_:Int,(mn x1_1 ((rd_T83 l0 x11_1).f0))=j_:=⟨_,rfl⟩
         replace H:(table_before.l0 k1 (wrap64 (x1_1 - (ji6))) (wrap64 (x5_1+(wrap64 ((ji6)*((rd_T83 l0 x11_1).f1))))) l0 (l0.length:Int) (wrap64 (x11_1+1)))=some r:=by first|(rw [hji6] at H;exact H)|(simp only [hji6] at H ⊢;exact H)
         have hji6_:(if ((rd_T83 l0 x11_1).f0) < x1_1 then ((rd_T83 l0 x11_1).f0) else x1_1)=ji6:=hji6
         have H':=Aside0.mk H;clear H
         have p223:0≤(x11_1:Int):=of_decide_eq_true asV
         have q223:x11_1 < (l0.length:Int):=of_decide_eq_true asV
         obtain ⟨ad223,e223,hx223_0,hx223_1⟩:=at_T83 HR0.out x11_1 p223 q223
         cases e223
         replace hx223_0:=(HB.out.cell (World.block_lt_of_cell? w _ hx223_0)).trans hx223_0
         replace hx223_1:=(HB.out.cell (World.block_lt_of_cell? w _ hx223_1)).trans hx223_1
         replace p223:=eq_true p223
         replace q223:=eq_true q223
         go_wp2_with (first|((with_reducible refine gate_dst (N:=7) rfl ?_);refine box_event ?hg (N:=7) ?hd (cs:=#[.int .i64 0,.int .i64 0]) (t:=83) ?hr ?_;(case hd=>rfl);(case hg=>rfl);(case hr=>first|(go_simp;done)|(go_simp;rfl));intro gb224 hg w7 hbox hb;have n0_:=Aside0.mk (below_step (belV HB.out) hb);have n1_:=Aside0.mk (hbox);have n2_:=Aside0.mk ((by rw [hg];exact (below_size (belV HB.out)):w.heap.size≤gb224));have n3_:=Aside0.mk ((by rw [hg];exact (below_size (belV HB.out)):w.heap.size≤gb224));clear HB;have HB:=n0_;have BK224:=n1_;have GW224:=n2_;have GE224:=n3_;clear n0_ n1_ n2_ n3_;clear hb hbox hg;obtain ⟨hcz8_0,hcz8_1,hfz8_0,hfz8_1⟩:=bcells2 BK224.out))
         go_roundg k1
         case measure=>have:=HK1.out;omega
         case rel=>exact ⟨(wrap64 (x1_1 - (ji6))),(wrap64 (x5_1+(wrap64 ((ji6)*((rd_T83 l0 x11_1).f1))))),(wrap64 (x11_1+1)),(by first|rfl|(simp;done)|(simp only [← hji6] <;> (first|rfl|simp))|(simp [*];done)),(by first|rfl|(simp;done)|(simp only [← hji6] <;> (first|rfl|simp))|(simp [*];done)),okV,H',⟨by have:=HK1.out;omega⟩,⟨belV1 HB.out GE224.out⟩⟩
       rw [if_neg c5] at H
       exact absurd H (by simp)
     rw [if_neg c4] at H
     exact absurd H (by simp)
   rw [if_neg c3] at H
   have c3b0:decide (x11_1 < (l0.length:Int))=false:=decide_eq_false c3;clear c3
   obtain rfl:=Option.some.inj H
   go_wp2
   go_ret
   exact ⟨by first|rfl|(simp [errW_none,errW_some] <;> rfl)|(simp [*,errW_none,errW_some] <;> rfl),by repeat (first|(with_reducible first|exact HB.out|apply below_alloc|apply pw_below_drewN|apply below_drew1)|exact HB.out)⟩

/-! ### table_value: function 73 -/
def table_value.l0 : Nat → Int → List (S83) → Int → Int → Option (Int)
 | 0,_,_,_,_=>none
 | k+1,x1,x7,x8,x9=>if x9 < x8 then (if 0≤x9 then (if x9 < (x7.length:Int) then (if x1 < ((rd_T83 x7 x9).f0) then (some ((rd_T83 x7 x9).f1)) else (table_value.l0 k (wrap64 (x1 - ((rd_T83 x7 x9).f0))) x7 x8 (wrap64 (x9+1)))) else (none)) else (none)) else (some 0)
def table_value.f (k : Nat) (l0 : List (S83)) (a1 : Int) : Option (Int) := table_value.l0 k a1 l0 (l0.length : Int) 0
theorem table_value.mono_l:∀ k,(∀ y0 y1 y2 y3,LeO (table_value.l0 k y0 y1 y2 y3) (table_value.l0 (k+1) y0 y1 y2 y3))
 | 0=>fun _ _ _ _ r h=>by simp [table_value.l0] at h
 | k+1=>by
  have ih0:=table_value.mono_l k
  · intro y0 y1 y2 y3
    unfold table_value.l0
    repeat' first
    | (with_reducible exact ih0 _ _ _ _)
    | (with_reducible exact LeO.refl _)
    | (with_reducible exact LeO.none _)
    | (with_reducible refine LeO.ite ?_ ?_)
    | (with_reducible refine LeO.bind ?_ (fun _=>?_))
    | exact LeO.none _
    | refine LeO.ite ?_ ?_
    | refine LeO.bind ?_ (fun _=>?_)
theorem table_value.mono:∀ a0 a1 k,LeO (table_value.f k a0 a1) (table_value.f (k+1) a0 a1):=by
 intro a0 a1 k
 have ih0:=table_value.mono_l k
 unfold table_value.f
 repeat' first
  | (with_reducible exact ih0 _ _ _ _)
  | (with_reducible exact LeO.refl _)
  | (with_reducible exact LeO.none _)
  | (with_reducible refine LeO.ite ?_ ?_)
  | (with_reducible refine LeO.bind ?_ (fun _=>?_))
  | exact LeO.none _
  | refine LeO.ite ?_ ?_
  | refine LeO.bind ?_ (fun _=>?_)
set_option maxHeartbeats 8000000 in
set_option maxRecDepth 100000 in
theorem table_value.calls (k:Nat) (A0:Option Addr) (c0:Nat) (l0:List (S83)) (a1:Int) (r:Int) (w:World) (hr0:Kd.C k83 w A0 l0.length l0) (hc0:l0.length≤c0) (h:table_value.f k l0 a1=some r) :
 Calls Try.prog 73 #[.slice A0 l0.length c0,.int .i64 a1] w fun e w'=>e=.returned (.int .i64 r)∧Below w.heap.size w w':=by
 have hu83:=Try.underlying83
 have HR0:=Aside0.mk hr0
 have HC0:=Aside0.mk hc0;clear hr0 hc0;have HB:=Aside0.mk (Below.refl w.heap.size w)
 have H:(table_value.l0 k a1 l0 (l0.length:Int) 0)=some r:=h;clear h
 have H':=Aside0.mk H;clear H
 go_enter Try.func73,Try.ntmps73
 go_wp2
 go_loopg [1,9] k (fun kq v1 v9 w'=>∃ (x1_1:Int) (x9_1:Int),v1=.int .i64 x1_1∧v9=.int .i64 x9_1∧Aside0 (table_value.l0 kq x1_1 l0 (l0.length:Int) x9_1=some r)∧Aside0 (kq≤k)∧Aside0 (Below w.heap.size w w'))
 case atStart=>exact ⟨(a1),(0),okV,okV,H',⟨Nat.le_refl _⟩,⟨belV HB.out⟩⟩
 case round =>
  clear H'
  try clear p2
  obtain ⟨x1_1,x9_1,rfl,rfl,HA,HK1,HB⟩:=hrel
  cases gk with
  | zero=>exact absurd HA.out (by simp [table_value.l0])
  | succ k1 =>
   have H:=HA.out;clear HA
   simp only [table_value.l0] at H
   by_cases c3:x9_1 < (l0.length:Int)
   · rw [if_pos c3] at H
     have c3b0:decide (x9_1 < (l0.length:Int))=true:=decide_eq_true c3;clear c3
     by_cases c4:0≤x9_1
     · rw [if_pos c4] at H
       have c4b0:decide (0≤x9_1)=true:=decide_eq_true c4;clear c4
       by_cases c5:x9_1 < (l0.length:Int)
       · rw [if_pos c5] at H
         have c5b0:decide (x9_1 < (l0.length:Int))=true:=decide_eq_true c5;clear c5
         by_cases c6:x1_1 < ((rd_T83 l0 x9_1).f0)
         · rw [if_pos c6] at H
           have c6b0:decide (x1_1 < ((rd_T83 l0 x9_1).f0))=true:=decide_eq_true c6;clear c6
           obtain rfl:=Option.some.inj H
           have p225:0≤(x9_1:Int):=of_decide_eq_true asV
           have q225:x9_1 < (l0.length:Int):=of_decide_eq_true asV
           obtain ⟨ad225,e225,hx225_0,hx225_1⟩:=at_T83 HR0.out x9_1 p225 q225
           cases e225
           replace hx225_0:=(HB.out.cell (World.block_lt_of_cell? w _ hx225_0)).trans hx225_0
           replace hx225_1:=(HB.out.cell (World.block_lt_of_cell? w _ hx225_1)).trans hx225_1
           replace p225:=eq_true p225
           replace q225:=eq_true q225
           go_wp2_with (first|((with_reducible refine gate_dst (N:=6) rfl ?_);refine box_event ?hg (N:=6) ?hd (cs:=#[.int .i64 0,.int .i64 0]) (t:=83) ?hr ?_;(case hd=>rfl);(case hg=>rfl);(case hr=>first|(go_simp;done)|(go_simp;rfl));intro gb226 hg w7 hbox hb;have n0_:=Aside0.mk (below_step (belV HB.out) hb);have n1_:=Aside0.mk (hbox);have n2_:=Aside0.mk ((by rw [hg];exact (below_size (belV HB.out)):w.heap.size≤gb226));have n3_:=Aside0.mk ((by rw [hg];exact (below_size (belV HB.out)):w.heap.size≤gb226));clear HB;have HB:=n0_;have BK226:=n1_;have GW226:=n2_;have GE226:=n3_;clear n0_ n1_ n2_ n3_;clear hb hbox hg;obtain ⟨hcz8_0,hcz8_1,hfz8_0,hfz8_1⟩:=bcells2 BK226.out))
           go_ret
           exact ⟨by first|rfl|(simp [errW_none,errW_some] <;> rfl)|(simp [*,errW_none,errW_some] <;> rfl),by repeat (first|(with_reducible first|exact HB.out|apply below_alloc|apply pw_below_drewN|apply below_drew1|refine below_set ?_ GE226.out)|exact HB.out)⟩
         rw [if_neg c6] at H
         have c6b0:decide (x1_1 < ((rd_T83 l0 x9_1).f0))=false:=decide_eq_false c6;clear c6
         have H':=Aside0.mk H;clear H
         have p225:0≤(x9_1:Int):=of_decide_eq_true asV
         have q225:x9_1 < (l0.length:Int):=of_decide_eq_true asV
         obtain ⟨ad225,e225,hx225_0,hx225_1⟩:=at_T83 HR0.out x9_1 p225 q225
         cases e225
         replace hx225_0:=(HB.out.cell (World.block_lt_of_cell? w _ hx225_0)).trans hx225_0
         replace hx225_1:=(HB.out.cell (World.block_lt_of_cell? w _ hx225_1)).trans hx225_1
         replace p225:=eq_true p225
         replace q225:=eq_true q225
         go_wp2_with (first|((with_reducible refine gate_dst (N:=6) rfl ?_);refine box_event ?hg (N:=6) ?hd (cs:=#[.int .i64 0,.int .i64 0]) (t:=83) ?hr ?_;(case hd=>rfl);(case hg=>rfl);(case hr=>first|(go_simp;done)|(go_simp;rfl));intro gb226 hg w9 hbox hb;have n0_:=Aside0.mk (below_step (belV HB.out) hb);have n1_:=Aside0.mk (hbox);have n2_:=Aside0.mk ((by rw [hg];exact (below_size (belV HB.out)):w.heap.size≤gb226));have n3_:=Aside0.mk ((by rw [hg];exact (below_size (belV HB.out)):w.heap.size≤gb226));clear HB;have HB:=n0_;have BK226:=n1_;have GW226:=n2_;have GE226:=n3_;clear n0_ n1_ n2_ n3_;clear hb hbox hg;obtain ⟨hcz10_0,hcz10_1,hfz10_0,hfz10_1⟩:=bcells2 BK226.out))
         go_roundg k1
         case measure=>have:=HK1.out;omega
         case rel=>exact ⟨(wrap64 (x1_1 - ((rd_T83 l0 x9_1).f0))),(wrap64 (x9_1+1)),okV,okV,H',⟨by have:=HK1.out;omega⟩,⟨belV1 HB.out GE226.out⟩⟩
       rw [if_neg c5] at H
       exact absurd H (by simp)
     rw [if_neg c4] at H
     exact absurd H (by simp)
   rw [if_neg c3] at H
   have c3b0:decide (x9_1 < (l0.length:Int))=false:=decide_eq_false c3;clear c3
   obtain rfl:=Option.some.inj H
   go_wp2
   go_ret
   exact ⟨by first|rfl|(simp [errW_none,errW_some] <;> rfl)|(simp [*,errW_none,errW_some] <;> rfl),by repeat (first|(with_reducible first|exact HB.out|apply below_alloc|apply pw_below_drewN|apply below_drew1)|exact HB.out)⟩

/-! ### table_size: function 74 -/
def table_size.f (a0_0 : Int) (l0_1 : List (S83)) (l0_2 : List (S83)) (l0_3 : List Int) (a0_4 : Bool) (a0_5 : Int) (l0_6 : List Int) (l0_7 : List (S86)) (l0_8 : List Int) (l0_9 : List (S83)) (l0_10 : List (List Int)) (a1 : Int) : Option (Int) := if a0_5 > 0 then (some a0_5) else (if 0 ≤ a1 then (if a1 < (l0_6.length : Int) then (some (rd l0_6 a1)) else (none)) else (none))
set_option maxHeartbeats 8000000 in
set_option maxRecDepth 100000 in
theorem table_size.calls (a0_0:Int) (A0_1:Option Addr) (c0_1:Nat) (l0_1:List (S83)) (A0_2:Option Addr) (c0_2:Nat) (l0_2:List (S83)) (A0_3:Option Addr) (c0_3:Nat) (l0_3:List Int) (a0_4:Bool) (a0_5:Int) (A0_6:Option Addr) (c0_6:Nat) (l0_6:List Int) (A0_7:Option Addr) (c0_7:Nat) (l0_7:List (S86)) (A0_8:Option Addr) (c0_8:Nat) (l0_8:List Int) (A0_9:Option Addr) (c0_9:Nat) (l0_9:List (S83)) (A0_10:Option Addr) (c0_10:Nat) (l0_10:List (List Int)) (a1:Int) (r:Int) (w:World) (hr0_1:Kd.C k83 w A0_1 l0_1.length l0_1) (hc0_1:l0_1.length≤c0_1) (hr0_2:Kd.C k83 w A0_2 l0_2.length l0_2) (hc0_2:l0_2.length≤c0_2) (hr0_3:Kd.C (Kd.int .i64) w A0_3 l0_3.length l0_3) (hc0_3:l0_3.length≤c0_3) (hr0_6:Kd.C (Kd.int .i64) w A0_6 l0_6.length l0_6) (hc0_6:l0_6.length≤c0_6) (hr0_7:Kd.C k86 w A0_7 l0_7.length l0_7) (hc0_7:l0_7.length≤c0_7) (hr0_8:Kd.C (Kd.int .i64) w A0_8 l0_8.length l0_8) (hc0_8:l0_8.length≤c0_8) (hr0_9:Kd.C k83 w A0_9 l0_9.length l0_9) (hc0_9:l0_9.length≤c0_9) (hr0_10:Kd.C (Kd.slice 3 (Kd.int .i64)) w A0_10 l0_10.length l0_10) (hc0_10:l0_10.length≤c0_10) (h:table_size.f a0_0 l0_1 l0_2 l0_3 a0_4 a0_5 l0_6 l0_7 l0_8 l0_9 l0_10 a1=some r) :
 Calls Try.prog 74 #[.agg #[.int .i64 a0_0,.slice A0_1 l0_1.length c0_1,.slice A0_2 l0_2.length c0_2,.slice A0_3 l0_3.length c0_3,.bool a0_4,.int .i64 a0_5,.slice A0_6 l0_6.length c0_6,.slice A0_7 l0_7.length c0_7,.slice A0_8 l0_8.length c0_8,.slice A0_9 l0_9.length c0_9,.slice A0_10 l0_10.length c0_10],.int .i64 a1] w fun e w'=>e=.returned (.int .i64 r)∧Below w.heap.size w w':=by
 have hu27:=Try.underlying27
 have HR0_1:=Aside0.mk hr0_1
 have HC0_1:=Aside0.mk hc0_1;clear hr0_1 hc0_1
 have HR0_2:=Aside0.mk hr0_2
 have HC0_2:=Aside0.mk hc0_2;clear hr0_2 hc0_2
 have HR0_3:=Aside0.mk hr0_3
 have HC0_3:=Aside0.mk hc0_3;clear hr0_3 hc0_3
 have HR0_6:=Aside0.mk hr0_6
 have HC0_6:=Aside0.mk hc0_6;clear hr0_6 hc0_6
 have HR0_7:=Aside0.mk hr0_7
 have HC0_7:=Aside0.mk hc0_7;clear hr0_7 hc0_7
 have HR0_8:=Aside0.mk hr0_8
 have HC0_8:=Aside0.mk hc0_8;clear hr0_8 hc0_8
 have HR0_9:=Aside0.mk hr0_9
 have HC0_9:=Aside0.mk hc0_9;clear hr0_9 hc0_9
 have HR0_10:=Aside0.mk hr0_10
 have HC0_10:=Aside0.mk hc0_10;clear hr0_10 hc0_10;have HB:=Aside0.mk (Below.refl w.heap.size w)
 have H:(if a0_5 > 0 then (some a0_5) else (if 0≤a1 then (if a1 < (l0_6.length:Int) then (some (rd l0_6 a1)) else (none)) else (none)))=some r:=h;clear h
 by_cases c3:a0_5 > 0
 · rw [if_pos c3] at H
   have c3b0:decide (0 < a0_5)=true:=decide_eq_true c3;clear c3
   obtain rfl:=Option.some.inj H
   go_enter Try.func74,Try.ntmps74
   go_wp2_with (first|((with_reducible refine gate_dst (N:=2) rfl ?_);refine box_event ?hg (N:=2) ?hd (cs:=#[.int .i64 a0_0,.slice A0_1 l0_1.length c0_1,.slice A0_2 l0_2.length c0_2,.slice A0_3 l0_3.length c0_3,.bool a0_4,.int .i64 a0_5,.slice A0_6 l0_6.length c0_6,.slice A0_7 l0_7.length c0_7,.slice A0_8 l0_8.length c0_8,.slice A0_9 l0_9.length c0_9,.slice A0_10 l0_10.length c0_10]) (t:=27) ?hr ?_;(case hd=>rfl);(case hg=>rfl);(case hr=>first|(go_simp;done)|(go_simp;rfl));intro gb227 hg w4 hbox hb;have n0_:=Aside0.mk (below_step (belV HB.out) hb);have n1_:=Aside0.mk (hbox);have n2_:=Aside0.mk ((by rw [hg];exact (below_size (belV HB.out)):w.heap.size≤gb227));have n3_:=Aside0.mk ((by rw [hg];exact (below_size (belV HB.out)):w.heap.size≤gb227));clear HB;have HB:=n0_;have BK227:=n1_;have GW227:=n2_;have GE227:=n3_;clear n0_ n1_ n2_ n3_;clear hb hbox hg;obtain ⟨hcz5_0,hcz5_1,hcz5_2,hcz5_3,hcz5_4,hcz5_5,hcz5_6,hcz5_7,hcz5_8,hcz5_9,hcz5_10,hfz5_0,hfz5_1,hfz5_2,hfz5_3,hfz5_4,hfz5_5,hfz5_6,hfz5_7,hfz5_8,hfz5_9,hfz5_10⟩:=bcells11 BK227.out))
   go_ret
   exact ⟨by first|rfl|(simp [errW_none,errW_some] <;> rfl)|(simp [*,errW_none,errW_some] <;> rfl),by repeat (first|(with_reducible first|exact HB.out|apply below_alloc|apply pw_below_drewN|apply below_drew1|refine below_set ?_ GE227.out)|exact HB.out)⟩
 rw [if_neg c3] at H
 have c3b0:decide (0 < a0_5)=false:=decide_eq_false c3;clear c3
 by_cases c6:0≤a1
 · rw [if_pos c6] at H
   have c6b0:decide (0≤a1)=true:=decide_eq_true c6;clear c6
   by_cases c7:a1 < (l0_6.length:Int)
   · rw [if_pos c7] at H
     have c7b0:decide (a1 < (l0_6.length:Int))=true:=decide_eq_true c7;clear c7
     obtain rfl:=Option.some.inj H
     go_enter Try.func74,Try.ntmps74
     go_wp2_with (first|((with_reducible refine gate_dst (N:=2) rfl ?_);refine box_event ?hg (N:=2) ?hd (cs:=#[.int .i64 a0_0,.slice A0_1 l0_1.length c0_1,.slice A0_2 l0_2.length c0_2,.slice A0_3 l0_3.length c0_3,.bool a0_4,.int .i64 a0_5,.slice A0_6 l0_6.length c0_6,.slice A0_7 l0_7.length c0_7,.slice A0_8 l0_8.length c0_8,.slice A0_9 l0_9.length c0_9,.slice A0_10 l0_10.length c0_10]) (t:=27) ?hr ?_;(case hd=>rfl);(case hg=>rfl);(case hr=>first|(go_simp;done)|(go_simp;rfl));intro gb227 hg w8 hbox hb;have n0_:=Aside0.mk (below_step (belV HB.out) hb);have n1_:=Aside0.mk (hbox);have n2_:=Aside0.mk ((by rw [hg];exact (below_size (belV HB.out)):w.heap.size≤gb227));have n3_:=Aside0.mk ((by rw [hg];exact (below_size (belV HB.out)):w.heap.size≤gb227));clear HB;have HB:=n0_;have BK227:=n1_;have GW227:=n2_;have GE227:=n3_;clear n0_ n1_ n2_ n3_;clear hb hbox hg;obtain ⟨hcz9_0,hcz9_1,hcz9_2,hcz9_3,hcz9_4,hcz9_5,hcz9_6,hcz9_7,hcz9_8,hcz9_9,hcz9_10,hfz9_0,hfz9_1,hfz9_2,hfz9_3,hfz9_4,hfz9_5,hfz9_6,hfz9_7,hfz9_8,hfz9_9,hfz9_10⟩:=bcells11 BK227.out;have p228:0≤(a1:Int):=of_decide_eq_true asV;have q228:a1 < (l0_6.length:Int):=of_decide_eq_true asV;obtain ⟨ad228,e228,hx228_0⟩:=Kd.at_int HR0_6.out a1 p228 q228;cases e228;replace hx228_0:=(HB.out.cell (World.block_lt_of_cell? w _ hx228_0)).trans hx228_0;replace p228:=eq_true p228;replace q228:=eq_true q228))
     go_ret
     exact ⟨by first|rfl|(simp [errW_none,errW_some] <;> rfl)|(simp [*,errW_none,errW_some] <;> rfl),by repeat (first|(with_reducible first|exact HB.out|apply below_alloc|apply pw_below_drewN|apply below_drew1|refine below_set ?_ GE227.out)|exact HB.out)⟩
   rw [if_neg c7] at H
   exact absurd H (by simp)
 rw [if_neg c6] at H
 exact absurd H (by simp)

-- NOT PRINTED: function 28 (table_Lookup)

-- NOT PRINTED: function 29 (dioramaref09_Lookup)

-- NOT PRINTED: function 5 (dioramalaw09_TableExpands)

-- NOT PRINTED: function 31 (table_At)

-- NOT PRINTED: function 32 (dioramaref09_At)

-- NOT PRINTED: function 33 (table_Before)

-- NOT PRINTED: function 34 (dioramaref09_Before)

end Go.Proofs.Ytmbhafgnmdfjhaa.QTab
