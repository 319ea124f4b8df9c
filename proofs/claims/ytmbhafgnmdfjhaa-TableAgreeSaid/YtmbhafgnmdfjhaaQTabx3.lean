/- Part of a proof: functions of the program as Lean functions, and that the machine's calls come to them. Made by a program of this session (wip/mp). -/
import Derived.Test.YtmbhafgnmdfjhaaQTabx0
namespace Go.Proofs.Ytmbhafgnmdfjhaa.QTab
open Go.RowKit Go.Proofs.YtmbhafgnmdfjhaaV Go.Proofs.YtmbhafgnmdfjhaaW.PrintWords Go.Proofs.YtmbhafgnmdfjhaaW.PrintLast Go.Proofs.YtmbhafgnmdfjhaaW.PrintMore
attribute [local go_sem] max2_int min2_int max_two min_two max_three min_three max_four min_four   -- for this text's walks alone
set_option linter.unusedVariables false
set_option linter.unusedSimpArgs false

-- NOT PRINTED: function 11 (dioramalaw09_small)

/-! ### table_total: function 54 -/
def table_total.l0 : Nat → Int → List (S83) → Int → Int → Option (Int)
 | 0,_,_,_,_=>none
 | k+1,x3,x6,x7,x8=>if x8 < x7 then (if 0≤x8 then (if x8 < (x6.length:Int) then (table_total.l0 k (mn (wrap64 (x3+(mx 0 (mn ((rd_T83 x6 x8).f0) 401)))) 401) x6 x7 (wrap64 (x8+1))) else (none)) else (none)) else (some x3)
def table_total.f (k : Nat) (l0 : List (S83)) : Option (Int) := table_total.l0 k 0 l0 (l0.length : Int) 0
theorem table_total.mono_l:∀ k,(∀ y0 y1 y2 y3,LeO (table_total.l0 k y0 y1 y2 y3) (table_total.l0 (k+1) y0 y1 y2 y3))
 | 0=>fun _ _ _ _ r h=>by simp [table_total.l0] at h
 | k+1=>by
  have ih0:=table_total.mono_l k
  · intro y0 y1 y2 y3
    unfold table_total.l0
    repeat' first
    | (with_reducible exact ih0 _ _ _ _)
    | (with_reducible exact LeO.refl _)
    | (with_reducible exact LeO.none _)
    | (with_reducible refine LeO.ite ?_ ?_)
    | (with_reducible refine LeO.bind ?_ (fun _=>?_))
    | exact LeO.none _
    | refine LeO.ite ?_ ?_
    | refine LeO.bind ?_ (fun _=>?_)
theorem table_total.mono:∀ a0 k,LeO (table_total.f k a0) (table_total.f (k+1) a0):=by
 intro a0 k
 have ih0:=table_total.mono_l k
 unfold table_total.f
 repeat' first
  | (with_reducible exact ih0 _ _ _ _)
  | (with_reducible exact LeO.refl _)
  | (with_reducible exact LeO.none _)
  | (with_reducible refine LeO.ite ?_ ?_)
  | (with_reducible refine LeO.bind ?_ (fun _=>?_))
  | exact LeO.none _
  | refine LeO.ite ?_ ?_
  | refine LeO.bind ?_ (fun _=>?_)
set_option maxHeartbeats 8000000 in
set_option maxRecDepth 100000 in
theorem table_total.calls (k:Nat) (A0:Option Addr) (c0:Nat) (l0:List (S83)) (r:Int) (w:World) (hr0:Kd.C k83 w A0 l0.length l0) (hc0:l0.length≤c0) (h:table_total.f k l0=some r) :
 Calls Try.prog 54 #[.slice A0 l0.length c0] w fun e w'=>e=.returned (.int .i64 r)∧Below w.heap.size w w':=by
 have hu83:=Try.underlying83
 have HR0:=Aside0.mk hr0
 have HC0:=Aside0.mk hc0;clear hr0 hc0;have HB:=Aside0.mk (Below.refl w.heap.size w)
 have H:(table_total.l0 k 0 l0 (l0.length:Int) 0)=some r:=h;clear h
 have H':=Aside0.mk H;clear H
 go_enter Try.func54,Try.ntmps54
 go_wp2
 go_loopg [3,8] k (fun kq v3 v8 w'=>∃ (x3_1:Int) (x8_1:Int),v3=.int .i64 x3_1∧v8=.int .i64 x8_1∧Aside0 (table_total.l0 kq x3_1 l0 (l0.length:Int) x8_1=some r)∧Aside0 (kq≤k)∧Aside0 (Below w.heap.size w w'))
 case atStart=>exact ⟨(0),(0),okV,okV,H',⟨Nat.le_refl _⟩,⟨belV HB.out⟩⟩
 case round =>
  clear H'
  obtain ⟨x3_1,x8_1,rfl,rfl,HA,HK1,HB⟩:=hrel
  cases gk with
  | zero=>exact absurd HA.out (by simp [table_total.l0])
  | succ k1 =>
   have H:=HA.out;clear HA
   simp only [table_total.l0] at H
   by_cases c2:x8_1 < (l0.length:Int)
   · rw [if_pos c2] at H
     have c2b0:decide (x8_1 < (l0.length:Int))=true:=decide_eq_true c2;clear c2
     by_cases c3:0≤x8_1
     · rw [if_pos c3] at H
       have c3b0:decide (0≤x8_1)=true:=decide_eq_true c3;clear c3
       by_cases c4:x8_1 < (l0.length:Int)
       · rw [if_pos c4] at H
         have c4b0:decide (x8_1 < (l0.length:Int))=true:=decide_eq_true c4;clear c4
         obtain ⟨ji5,hji5⟩:∃ j_:Int,(mn ((rd_T83 l0 x8_1).f0) 401)=j_:=⟨_,rfl⟩
         replace H:(table_total.l0 k1 (mn (wrap64 (x3_1+(mx 0 (ji5)))) 401) l0 (l0.length:Int) (wrap64 (x8_1+1)))=some r:=by first|(rw [hji5] at H;exact H)|(simp only [hji5] at H ⊢;exact H)
         have hji5_:(if 401 < ((rd_T83 l0 x8_1).f0) then 401 else ((rd_T83 l0 x8_1).f0))=ji5:=hji5
         obtain ⟨ji6,hji6⟩:∃ j_:Int,(mx 0 (ji5))=j_:=⟨_,rfl⟩
         replace H:(table_total.l0 k1 (mn (wrap64 (x3_1+(ji6))) 401) l0 (l0.length:Int) (wrap64 (x8_1+1)))=some r:=by first|(rw [hji6] at H;exact H)|(simp only [hji6] at H ⊢;exact H)
         have hji6_:(if 0 < (ji5) then (ji5) else 0)=ji6:=hji6
         obtain ⟨ji7,hji7⟩:∃ j_:Int,(mn (wrap64 (x3_1+(ji6))) 401)=j_:=⟨_,rfl⟩
         replace H:(table_total.l0 k1 ji7 l0 (l0.length:Int) (wrap64 (x8_1+1)))=some r:=by first|(rw [hji7] at H;exact H)|(simp only [hji7] at H ⊢;exact H)
         have hji7_:(if 401 < (wrap64 (x3_1+(ji6))) then 401 else (wrap64 (x3_1+(ji6))))=ji7:=hji7
         have H':=Aside0.mk H;clear H
         have p101:0≤(x8_1:Int):=of_decide_eq_true asV
         have q101:x8_1 < (l0.length:Int):=of_decide_eq_true asV
         obtain ⟨ad101,e101,hx101_0,hx101_1⟩:=at_T83 HR0.out x8_1 p101 q101
         cases e101
         replace hx101_0:=(HB.out.cell (World.block_lt_of_cell? w _ hx101_0)).trans hx101_0
         replace hx101_1:=(HB.out.cell (World.block_lt_of_cell? w _ hx101_1)).trans hx101_1
         replace p101:=eq_true p101
         replace q101:=eq_true q101
         go_wp2_with (first|((with_reducible refine gate_dst (N:=5) rfl ?_);refine box_event ?hg (N:=5) ?hd (cs:=#[.int .i64 0,.int .i64 0]) (t:=83) ?hr ?_;(case hd=>rfl);(case hg=>rfl);(case hr=>first|(go_simp;done)|(go_simp;rfl));intro gb102 hg w8 hbox hb;have n0_:=Aside0.mk (below_step (belV HB.out) hb);have n1_:=Aside0.mk (hbox);have n2_:=Aside0.mk ((by rw [hg];exact (below_size (belV HB.out)):w.heap.size≤gb102));have n3_:=Aside0.mk ((by rw [hg];exact (below_size (belV HB.out)):w.heap.size≤gb102));clear HB;have HB:=n0_;have BK102:=n1_;have GW102:=n2_;have GE102:=n3_;clear n0_ n1_ n2_ n3_;clear hb hbox hg;obtain ⟨hcz9_0,hcz9_1,hfz9_0,hfz9_1⟩:=bcells2 BK102.out))
         go_roundg k1
         case measure=>have:=HK1.out;omega
         case rel=>exact ⟨(ji7),(wrap64 (x8_1+1)),(by first|rfl|(simp;done)|(simp only [← hji7] <;> (first|rfl|simp))|(simp [*];done)),okV,H',⟨by have:=HK1.out;omega⟩,⟨belV1 HB.out GE102.out⟩⟩
       rw [if_neg c4] at H
       exact absurd H (by simp)
     rw [if_neg c3] at H
     exact absurd H (by simp)
   rw [if_neg c2] at H
   have c2b0:decide (x8_1 < (l0.length:Int))=false:=decide_eq_false c2;clear c2
   obtain rfl:=Option.some.inj H
   go_wp2
   go_ret
   exact ⟨by first|rfl|(simp [errW_none,errW_some] <;> rfl)|(simp [*,errW_none,errW_some] <;> rfl),by repeat (first|(with_reducible first|exact HB.out|apply below_alloc|apply pw_below_drewN|apply below_drew1)|exact HB.out)⟩

/-! ### table_Count: function 14 -/
def table_Count.f (k : Nat) (a0_0 : Int) (l0_1 : List (S83)) (l0_2 : List (S83)) (l0_3 : List Int) (a0_4 : Bool) (a0_5 : Int) (l0_6 : List Int) (l0_7 : List (S86)) (l0_8 : List Int) (l0_9 : List (S83)) (l0_10 : List (List Int)) : Option (Int) := (table_total.f k l0_1).bind fun t104 => (some t104)
theorem table_Count.mono:∀ a0 a1 a2 a3 a4 a5 a6 a7 a8 a9 a10 k,LeO (table_Count.f k a0 a1 a2 a3 a4 a5 a6 a7 a8 a9 a10) (table_Count.f (k+1) a0 a1 a2 a3 a4 a5 a6 a7 a8 a9 a10):=by
 intro a0 a1 a2 a3 a4 a5 a6 a7 a8 a9 a10 k
 unfold table_Count.f
 repeat' first
  | (with_reducible exact table_total.mono _ _)
  | (with_reducible exact LeO.refl _)
  | (with_reducible exact LeO.none _)
  | (with_reducible refine LeO.ite ?_ ?_)
  | (with_reducible refine LeO.bind ?_ (fun _=>?_))
  | exact LeO.none _
  | refine LeO.ite ?_ ?_
  | refine LeO.bind ?_ (fun _=>?_)
set_option maxHeartbeats 8000000 in
set_option maxRecDepth 100000 in
theorem table_Count.calls (k:Nat) (a0_0:Int) (A0_1:Option Addr) (c0_1:Nat) (l0_1:List (S83)) (A0_2:Option Addr) (c0_2:Nat) (l0_2:List (S83)) (A0_3:Option Addr) (c0_3:Nat) (l0_3:List Int) (a0_4:Bool) (a0_5:Int) (A0_6:Option Addr) (c0_6:Nat) (l0_6:List Int) (A0_7:Option Addr) (c0_7:Nat) (l0_7:List (S86)) (A0_8:Option Addr) (c0_8:Nat) (l0_8:List Int) (A0_9:Option Addr) (c0_9:Nat) (l0_9:List (S83)) (A0_10:Option Addr) (c0_10:Nat) (l0_10:List (List Int)) (r:Int) (w:World) (hr0_1:Kd.C k83 w A0_1 l0_1.length l0_1) (hc0_1:l0_1.length≤c0_1) (hr0_2:Kd.C k83 w A0_2 l0_2.length l0_2) (hc0_2:l0_2.length≤c0_2) (hr0_3:Kd.C (Kd.int .i64) w A0_3 l0_3.length l0_3) (hc0_3:l0_3.length≤c0_3) (hr0_6:Kd.C (Kd.int .i64) w A0_6 l0_6.length l0_6) (hc0_6:l0_6.length≤c0_6) (hr0_7:Kd.C k86 w A0_7 l0_7.length l0_7) (hc0_7:l0_7.length≤c0_7) (hr0_8:Kd.C (Kd.int .i64) w A0_8 l0_8.length l0_8) (hc0_8:l0_8.length≤c0_8) (hr0_9:Kd.C k83 w A0_9 l0_9.length l0_9) (hc0_9:l0_9.length≤c0_9) (hr0_10:Kd.C (Kd.slice 3 (Kd.int .i64)) w A0_10 l0_10.length l0_10) (hc0_10:l0_10.length≤c0_10) (h:table_Count.f k a0_0 l0_1 l0_2 l0_3 a0_4 a0_5 l0_6 l0_7 l0_8 l0_9 l0_10=some r) :
 Calls Try.prog 14 #[.agg #[.int .i64 a0_0,.slice A0_1 l0_1.length c0_1,.slice A0_2 l0_2.length c0_2,.slice A0_3 l0_3.length c0_3,.bool a0_4,.int .i64 a0_5,.slice A0_6 l0_6.length c0_6,.slice A0_7 l0_7.length c0_7,.slice A0_8 l0_8.length c0_8,.slice A0_9 l0_9.length c0_9,.slice A0_10 l0_10.length c0_10]] w fun e w'=>e=.returned (.int .i64 r)∧Below w.heap.size w w':=by
 have hu27:=Try.underlying27
 have HR0_1:=Aside0.mk hr0_1
 have HC0_1:=Aside0.mk hc0_1;clear hr0_1 hc0_1
 have HR0_2:=Aside0.mk hr0_2
 have HC0_2:=Aside0.mk hc0_2;clear hr0_2 hc0_2
 have HR0_3:=Aside0.mk hr0_3
 have HC0_3:=Aside0.mk hc0_3;clear hr0_3 hc0_3
 have HR0_6:=Aside0.mk hr0_6
 have HC0_6:=Aside0.mk hc0_6;clear hr0_6 hc0_6
 have HR0_7:=Aside0.mk hr0_7
 have HC0_7:=Aside0.mk hc0_7;clear hr0_7 hc0_7
 have HR0_8:=Aside0.mk hr0_8
 have HC0_8:=Aside0.mk hc0_8;clear hr0_8 hc0_8
 have HR0_9:=Aside0.mk hr0_9
 have HC0_9:=Aside0.mk hc0_9;clear hr0_9 hc0_9
 have HR0_10:=Aside0.mk hr0_10
 have HC0_10:=Aside0.mk hc0_10;clear hr0_10 hc0_10;have HB:=Aside0.mk (Below.refl w.heap.size w)
 have H:((table_total.f k l0_1).bind fun t104=>(some t104))=some r:=h;clear h
 replace H:=Option.bind_eq_some_iff.mp H
 obtain ⟨t104,A20,H⟩:=H
 replace H:(some t104)=some r:=H
 have A2:=Aside0.mk A20;clear A20
 obtain rfl:=Option.some.inj H
 go_enter Try.func14,Try.ntmps14
 go_wp2_with (first|((with_reducible refine gate_dst (N:=1) rfl ?_);refine box_event ?hg (N:=1) ?hd (cs:=#[.int .i64 a0_0,.slice A0_1 l0_1.length c0_1,.slice A0_2 l0_2.length c0_2,.slice A0_3 l0_3.length c0_3,.bool a0_4,.int .i64 a0_5,.slice A0_6 l0_6.length c0_6,.slice A0_7 l0_7.length c0_7,.slice A0_8 l0_8.length c0_8,.slice A0_9 l0_9.length c0_9,.slice A0_10 l0_10.length c0_10]) (t:=27) ?hr ?_;(case hd=>rfl);(case hg=>rfl);(case hr=>first|(go_simp;done)|(go_simp;rfl));intro gb103 hg w3 hbox hb;have n0_:=Aside0.mk (below_step (belV HB.out) hb);have n1_:=Aside0.mk (hbox);have n2_:=Aside0.mk ((by rw [hg];exact (below_size (belV HB.out)):w.heap.size≤gb103));have n3_:=Aside0.mk ((by rw [hg];exact (below_size (belV HB.out)):w.heap.size≤gb103));clear HB;have HB:=n0_;have BK103:=n1_;have GW103:=n2_;have GE103:=n3_;clear n0_ n1_ n2_ n3_;clear hb hbox hg;obtain ⟨hcz4_0,hcz4_1,hcz4_2,hcz4_3,hcz4_4,hcz4_5,hcz4_6,hcz4_7,hcz4_8,hcz4_9,hcz4_10,hfz4_0,hfz4_1,hfz4_2,hfz4_3,hfz4_4,hfz4_5,hfz4_6,hfz4_7,hfz4_8,hfz4_9,hfz4_10⟩:=bcells11 BK103.out)|((with_reducible refine gate_callee (f:=54) rfl ?_);refine goesL_ (some 5) rfl rfl Try.func54 (by kernel_rfl) rfl #[.slice A0_1 l0_1.length c0_1] rfl (by (try simp only [List.map_toArray,List.map_cons,List.map_nil]);first|done|rfl|(simp only [List.length_drop,List.length_take];rfl)) ?_;(with_reducible refine (table_total.calls k _ _ l0_1 t104 _ ?side1 ?side2 A2.out).mono ?_);(case side1=>exact cV (Kd.C_below HR0_1.out HB.out));(case side2=>exact HC0_1.out);rintro e w5 ⟨rfl,hb⟩;refine ⟨_,rfl,?_⟩;have n0_:=Aside0.mk (blk_below (g:=gb103) (blkV BK103.out) hb);have n1_:=Aside0.mk (below_step (belV1 HB.out GE103.out) hb);clear BK103;clear HB;have BK103:=n0_;have HB:=n1_;clear n0_ n1_;(try clear hb);(try clear hb2);(try clear hk);(try clear hi)))
 go_ret
 exact ⟨by first|rfl|(simp [errW_none,errW_some] <;> rfl)|(simp [*,errW_none,errW_some] <;> rfl),by repeat (first|(with_reducible first|exact HB.out|apply below_alloc|apply pw_below_drewN|apply below_drew1|refine below_set ?_ GE103.out)|exact HB.out)⟩

/-! ### table_within: function 47 -/
def table_within.f (a0 : Int) (a1 : Int) (a2 : Int) : Option (Bool) := if a0 ≥ a1 then (some (decide (a0 ≤ a2))) else (some false)
set_option maxHeartbeats 8000000 in
set_option maxRecDepth 100000 in
theorem table_within.calls (a0 : Int) (a1 : Int) (a2 : Int) (r : Bool) (w : World) (h : table_within.f a0 a1 a2 = some r) :
    Calls Try.prog 47 #[.int .i64 a0, .int .i64 a1, .int .i64 a2] w fun e w' => e = .returned (.bool r) ∧ Drawn0 w w' := by
  have H : (if a0 ≥ a1 then (some (decide (a0 ≤ a2))) else (some false)) = some r := h
  clear h
  by_cases c4 : a0 ≥ a1
  · rw [if_pos c4] at H
    have c4b0 : decide (a1 ≤ a0) = true := decide_eq_true c4
    clear c4
    obtain rfl := Option.some.inj H
    go_enter Try.func47, Try.ntmps47
    go_wp2
    go_ret
    exact ⟨by first | rfl | (simp; done) | (simp [*]; done), by repeat (first | exact Drawn0.refl _ | apply Drawn0.step)⟩
  · rw [if_neg c4] at H
    have c4b0 : decide (a1 ≤ a0) = false := decide_eq_false c4
    clear c4
    obtain rfl := Option.some.inj H
    go_enter Try.func47, Try.ntmps47
    go_wp2
    go_ret
    exact ⟨by first | rfl | (simp; done) | (simp [*]; done), by repeat (first | exact Drawn0.refl _ | apply Drawn0.step)⟩

-- NOT PRINTED: function 98 (IndexFunc_api_Run)

-- NOT PRINTED: function 67 (ContainsFunc_api_Run)

-- NOT PRINTED: function 87 (table_ranges_1_1)

-- NOT PRINTED: function 86 (table_ranges_1)

-- NOT PRINTED: function 114 (slices_IndexFunc_int_int_114)

-- NOT PRINTED: function 89 (slices_ContainsFunc_int_int_89)

-- NOT PRINTED: function 90 (table_ranges_2_1)

-- NOT PRINTED: function 88 (table_ranges_2)

/-! ### table_ranges_3: function 91 -/
def table_ranges_3.f (a0_0 : Int) (a0_1 : Int) : Option (Bool) := (table_within.f a0_1 0 400).bind fun t107 => (some (!t107))
set_option maxHeartbeats 8000000 in
set_option maxRecDepth 100000 in
theorem table_ranges_3.calls (a0_0 : Int) (a0_1 : Int) (r : Bool) (w : World) (h : table_ranges_3.f a0_0 a0_1 = some r) :
    Calls Try.prog 91 #[.agg #[.int .i64 a0_0, .int .i64 a0_1]] w fun e w' => e = .returned (.bool r) ∧ Below w.heap.size w w' := by
  have hu86 := Try.underlying86
  have HB := Aside0.mk (Below.refl w.heap.size w)
  have H : ((table_within.f a0_1 0 400).bind fun t107 => (some (!t107))) = some r := h
  clear h
  replace H := Option.bind_eq_some_iff.mp H
  obtain ⟨t107, A20, H⟩ := H
  replace H : (some (!t107)) = some r := H
  have A2 := Aside0.mk A20
  clear A20
  obtain rfl := Option.some.inj H
  go_enter Try.func91, Try.ntmps91
  go_wp2_with (first | ((with_reducible refine gate_dst (N := 1) rfl ?_); refine box_event ?hg (N := 1) ?hd (cs := #[.int .i64 a0_0, .int .i64 a0_1]) (t := 86) ?hr ?_; (case hd => rfl); (case hg => rfl); (case hr => first | (go_simp; done) | (go_simp; rfl)); intro gb106 hg w3 hbox hb; have n0_ := Aside0.mk (below_step (by repeat (first | (with_reducible first | exact HB.out | apply below_alloc | apply pw_below_drewN | apply below_drew1) | exact HB.out)) hb); have n1_ := Aside0.mk (hbox); have n2_ := Aside0.mk ((by rw [hg]; exact (below_size (by repeat (first | (with_reducible first | exact HB.out | apply below_alloc | apply pw_below_drewN | apply below_drew1) | exact HB.out))) : w.heap.size ≤ gb106)); have n3_ := Aside0.mk ((by rw [hg]; exact (below_size (by repeat (first | (with_reducible first | exact HB.out | apply below_alloc | apply pw_below_drewN | apply below_drew1) | exact HB.out))) : w.heap.size ≤ gb106)); clear HB; have HB := n0_; have BK106 := n1_; have GW106 := n2_; have GE106 := n3_; clear n0_ n1_ n2_ n3_; clear hb hbox hg; have hcz4_0 : w3.cell? ⟨gb106, 0, none⟩ = some (.int .i64 a0_0) := (blk_cell BK106.out 0).trans rfl; have hcz4_1 : w3.cell? ⟨gb106, 1, none⟩ = some (.int .i64 a0_1) := (blk_cell BK106.out 1).trans rfl; have hfz4_0 := blk_frozen BK106.out 0; have hfz4_1 := blk_frozen BK106.out 1) | ((with_reducible refine gate_callee (f := 47) rfl ?_); refine goesL_ (some 5) rfl rfl Try.func47 (by kernel_rfl) rfl #[.int .i64 a0_1, .int .i64 0, .int .i64 400] rfl (by (try simp only [List.map_toArray, List.map_cons, List.map_nil]); first | done | rfl | (simp only [List.length_drop, List.length_take]; rfl)) ?_; (with_reducible refine (table_within.calls a0_1 0 400 t107 _ A2.out).mono ?_); rintro e w' ⟨rfl, ⟨nd, rfl⟩⟩; refine ⟨_, rfl, ?_⟩))
  go_ret
  exact ⟨by first | rfl | (simp [errW_none, errW_some] <;> rfl) | (simp [*, errW_none, errW_some] <;> rfl), by repeat (first | (with_reducible first | exact HB.out | apply below_alloc | apply pw_below_drewN | apply below_drew1 | refine below_set ?_ GE106.out) | exact HB.out)⟩

-- NOT PRINTED: function 115 (IndexFunc_api_Chunks)

-- NOT PRINTED: function 92 (ContainsFunc_api_Chunks)

end Go.Proofs.Ytmbhafgnmdfjhaa.QTab
