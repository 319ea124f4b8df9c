/- Part of a proof: functions of the program as Lean functions, and that the machine's calls come to them. Made by a program of this session (wip/mp). -/
import Derived.Test.YtmbhafgnmdfjhaaQTaby0
import Derived.Test.YtmbhafgnmdfjhaaGME
import Derived.Test.YtmbhafgnmdfjhaaQTabx3
import Derived.Test.YtmbhafgnmdfjhaaQTabx8
namespace Go.Proofs.Ytmbhafgnmdfjhaa.QTab
open Go.RowKit Go.Proofs.YtmbhafgnmdfjhaaV Go.Proofs.YtmbhafgnmdfjhaaW.PrintWords Go.Proofs.YtmbhafgnmdfjhaaW.PrintLast Go.Proofs.YtmbhafgnmdfjhaaW.PrintMore
attribute [local go_sem] max2_int min2_int max_two min_two max_three min_three max_four min_four   -- for this text's walks alone
set_option linter.unusedVariables false
set_option linter.unusedSimpArgs false

/-! ### table_Before: function 33 -/
def table_Before.j0 : Nat → Int → Bool → Int → List (S83) → List (S83) → List Int → Bool → Int → List Int → List (S86) → List Int → List (S83) → List (List Int) → Option (Int × Int)
 | 0,_,_,_,_,_,_,_,_,_,_,_,_,_=>none
 | k+1,x1,x21,x319000,x319001,x319002,x319003,x319004,x319005,x319006,x319007,x319008,x319009,x319010=>if x21=true then (some (0,1)) else (if x319004=true then (some (x1,0)) else ((slices_BinarySearch_int_int.f k x319003 (wrap64 (x1+1))).bind fun bt321=>(if bt321.2=true then (if bt321.1 < 0 then (some ((-1),0)) else (if 0≤bt321.1 then (if bt321.1 < (x319003.length:Int) then (some (wrap64 ((rd x319003 bt321.1) - 1),0)) else (none)) else (none))) else (if (wrap64 (bt321.1 - 1)) < 0 then (some ((-1),0)) else (if 0≤(wrap64 (bt321.1 - 1)) then (if (wrap64 (bt321.1 - 1)) < (x319003.length:Int) then (some (wrap64 ((rd x319003 (wrap64 (bt321.1 - 1))) - 1),0)) else (none)) else (none))))))
def table_Before.f (k : Nat) (a0_0 : Int) (l0_1 : List (S83)) (l0_2 : List (S83)) (l0_3 : List Int) (a0_4 : Bool) (a0_5 : Int) (l0_6 : List Int) (l0_7 : List (S86)) (l0_8 : List Int) (l0_9 : List (S83)) (l0_10 : List (List Int)) (a1 : Int) : Option (Int × Int) := (table_Check.f a0_0 l0_1 l0_2 l0_3 a0_4 a0_5 l0_6 l0_7 l0_8 l0_9 l0_10).bind fun t319 => (if t319 = 0 then (if a1 < 0 then (table_Before.j0 k a1 true a0_0 l0_1 l0_2 l0_3 a0_4 a0_5 l0_6 l0_7 l0_8 l0_9 l0_10) else ((table_Count.f k a0_0 l0_1 l0_2 l0_3 a0_4 a0_5 l0_6 l0_7 l0_8 l0_9 l0_10).bind fun t320 => (table_Before.j0 k a1 (decide (a1 ≥ t320)) a0_0 l0_1 l0_2 l0_3 a0_4 a0_5 l0_6 l0_7 l0_8 l0_9 l0_10))) else (some (0, t319)))
theorem table_Before.mono_l:∀ k,(∀ y0 y1 y2 y3 y4 y5 y6 y7 y8 y9 y10 y11 y12,LeO (table_Before.j0 k y0 y1 y2 y3 y4 y5 y6 y7 y8 y9 y10 y11 y12) (table_Before.j0 (k+1) y0 y1 y2 y3 y4 y5 y6 y7 y8 y9 y10 y11 y12))
 | 0=>fun _ _ _ _ _ _ _ _ _ _ _ _ _ r h=>by simp [table_Before.j0] at h
 | k+1=>by
  have ih0:=table_Before.mono_l k
  · intro y0 y1 y2 y3 y4 y5 y6 y7 y8 y9 y10 y11 y12
    unfold table_Before.j0
    repeat' first
    | (with_reducible exact ih0 _ _ _ _ _ _ _ _ _ _ _ _ _)
    | (with_reducible exact slices_BinarySearch_int_int.mono _ _ _)
    | (with_reducible exact table_Count.mono _ _ _ _ _ _ _ _ _ _ _ _)
    | (with_reducible exact LeO.refl _)
    | (with_reducible exact LeO.none _)
    | (with_reducible refine LeO.ite ?_ ?_)
    | (with_reducible refine LeO.bind ?_ (fun _=>?_))
    | exact LeO.none _
    | refine LeO.ite ?_ ?_
    | refine LeO.bind ?_ (fun _=>?_)
theorem table_Before.mono:∀ a0 a1 a2 a3 a4 a5 a6 a7 a8 a9 a10 a11 k,LeO (table_Before.f k a0 a1 a2 a3 a4 a5 a6 a7 a8 a9 a10 a11) (table_Before.f (k+1) a0 a1 a2 a3 a4 a5 a6 a7 a8 a9 a10 a11):=by
 intro a0 a1 a2 a3 a4 a5 a6 a7 a8 a9 a10 a11 k
 have ih0:=table_Before.mono_l k
 unfold table_Before.f
 repeat' first
  | (with_reducible exact ih0 _ _ _ _ _ _ _ _ _ _ _ _ _)
  | (with_reducible exact slices_BinarySearch_int_int.mono _ _ _)
  | (with_reducible exact table_Count.mono _ _ _ _ _ _ _ _ _ _ _ _)
  | (with_reducible exact LeO.refl _)
  | (with_reducible exact LeO.none _)
  | (with_reducible refine LeO.ite ?_ ?_)
  | (with_reducible refine LeO.bind ?_ (fun _=>?_))
  | exact LeO.none _
  | refine LeO.ite ?_ ?_
  | refine LeO.bind ?_ (fun _=>?_)
set_option maxHeartbeats 8000000 in
set_option maxRecDepth 100000 in
theorem table_Before.calls (k:Nat) (a0_0:Int) (A0_1:Option Addr) (c0_1:Nat) (l0_1:List (S83)) (A0_2:Option Addr) (c0_2:Nat) (l0_2:List (S83)) (A0_3:Option Addr) (c0_3:Nat) (l0_3:List Int) (a0_4:Bool) (a0_5:Int) (A0_6:Option Addr) (c0_6:Nat) (l0_6:List Int) (A0_7:Option Addr) (c0_7:Nat) (l0_7:List (S86)) (A0_8:Option Addr) (c0_8:Nat) (l0_8:List Int) (A0_9:Option Addr) (c0_9:Nat) (l0_9:List (S83)) (A0_10:Option Addr) (c0_10:Nat) (l0_10:List (List Int)) (a1:Int) (r1:Int) (r2:Int) (w:World) (hr0_1:Kd.C k83 w A0_1 l0_1.length l0_1) (hc0_1:l0_1.length≤c0_1) (hr0_2:Kd.C k83 w A0_2 l0_2.length l0_2) (hc0_2:l0_2.length≤c0_2) (hr0_3:Kd.C (Kd.int .i64) w A0_3 l0_3.length l0_3) (hc0_3:l0_3.length≤c0_3) (hr0_6:Kd.C (Kd.int .i64) w A0_6 l0_6.length l0_6) (hc0_6:l0_6.length≤c0_6) (hr0_7:Kd.C k86 w A0_7 l0_7.length l0_7) (hc0_7:l0_7.length≤c0_7) (hr0_8:Kd.C (Kd.int .i64) w A0_8 l0_8.length l0_8) (hc0_8:l0_8.length≤c0_8) (hr0_9:Kd.C k83 w A0_9 l0_9.length l0_9) (hc0_9:l0_9.length≤c0_9) (hr0_10:Kd.C (Kd.slice 3 (Kd.int .i64)) w A0_10 l0_10.length l0_10) (hc0_10:l0_10.length≤c0_10) (h:table_Before.f k a0_0 l0_1 l0_2 l0_3 a0_4 a0_5 l0_6 l0_7 l0_8 l0_9 l0_10 a1=some (r1,r2)) :
 Calls Try.prog 33 #[.agg #[.int .i64 a0_0,.slice A0_1 l0_1.length c0_1,.slice A0_2 l0_2.length c0_2,.slice A0_3 l0_3.length c0_3,.bool a0_4,.int .i64 a0_5,.slice A0_6 l0_6.length c0_6,.slice A0_7 l0_7.length c0_7,.slice A0_8 l0_8.length c0_8,.slice A0_9 l0_9.length c0_9,.slice A0_10 l0_10.length c0_10],.int .i64 a1] w fun e w'=>e=.returned (.tuple #[.int .i64 r1,.int .i64 r2])∧Below w.heap.size w w':=by
 have hu27:=Try.underlying27
 have HR0_1:=Aside0.mk hr0_1
 have HC0_1:=Aside0.mk hc0_1;clear hr0_1 hc0_1
 have HR0_2:=Aside0.mk hr0_2
 have HC0_2:=Aside0.mk hc0_2;clear hr0_2 hc0_2
 have HR0_3:=Aside0.mk hr0_3
 have HC0_3:=Aside0.mk hc0_3;clear hr0_3 hc0_3
 have HR0_6:=Aside0.mk hr0_6
 have HC0_6:=Aside0.mk hc0_6;clear hr0_6 hc0_6
 have HR0_7:=Aside0.mk hr0_7
 have HC0_7:=Aside0.mk hc0_7;clear hr0_7 hc0_7
 have HR0_8:=Aside0.mk hr0_8
 have HC0_8:=Aside0.mk hc0_8;clear hr0_8 hc0_8
 have HR0_9:=Aside0.mk hr0_9
 have HC0_9:=Aside0.mk hc0_9;clear hr0_9 hc0_9
 have HR0_10:=Aside0.mk hr0_10
 have HC0_10:=Aside0.mk hc0_10;clear hr0_10 hc0_10;have HB:=Aside0.mk (Below.refl w.heap.size w)
 have H:((table_Check.f a0_0 l0_1 l0_2 l0_3 a0_4 a0_5 l0_6 l0_7 l0_8 l0_9 l0_10).bind fun t319=>(if t319=0 then (if a1 < 0 then (table_Before.j0 k a1 true a0_0 l0_1 l0_2 l0_3 a0_4 a0_5 l0_6 l0_7 l0_8 l0_9 l0_10) else ((table_Count.f k a0_0 l0_1 l0_2 l0_3 a0_4 a0_5 l0_6 l0_7 l0_8 l0_9 l0_10).bind fun t320=>(table_Before.j0 k a1 (decide (a1≥t320)) a0_0 l0_1 l0_2 l0_3 a0_4 a0_5 l0_6 l0_7 l0_8 l0_9 l0_10))) else (some (0,t319))))=some (r1,r2):=h
 clear h
 replace H:=Option.bind_eq_some_iff.mp H
 obtain ⟨t319,A30,H⟩:=H
 replace H:(if t319=0 then (if a1 < 0 then (table_Before.j0 k a1 true a0_0 l0_1 l0_2 l0_3 a0_4 a0_5 l0_6 l0_7 l0_8 l0_9 l0_10) else ((table_Count.f k a0_0 l0_1 l0_2 l0_3 a0_4 a0_5 l0_6 l0_7 l0_8 l0_9 l0_10).bind fun t320=>(table_Before.j0 k a1 (decide (a1≥t320)) a0_0 l0_1 l0_2 l0_3 a0_4 a0_5 l0_6 l0_7 l0_8 l0_9 l0_10))) else (some (0,t319)))=some (r1,r2):=H
 have A3:=Aside0.mk A30;clear A30
 by_cases c4:t319=0
 · rw [if_pos c4] at H
   have c4b0:(t319 == 0)=true:=beq_iff_eq.mpr c4
   have c4b1:(t319 != 0)=false:=bne_eq_false_iff_eq.mpr c4;clear c4
   have HC5:=Aside0.mk H;clear H
   go_enter Try.func33,Try.ntmps33
   go_upto_region 4 with (first|((with_reducible refine gate_dst (N:=2) rfl ?_);refine box_event ?hg (N:=2) ?hd (cs:=#[.int .i64 a0_0,.slice A0_1 l0_1.length c0_1,.slice A0_2 l0_2.length c0_2,.slice A0_3 l0_3.length c0_3,.bool a0_4,.int .i64 a0_5,.slice A0_6 l0_6.length c0_6,.slice A0_7 l0_7.length c0_7,.slice A0_8 l0_8.length c0_8,.slice A0_9 l0_9.length c0_9,.slice A0_10 l0_10.length c0_10]) (t:=27) ?hr ?_;(case hd=>rfl);(case hg=>rfl);(case hr=>first|(go_simp;done)|(go_simp;rfl));intro gb318 hg w6 hbox hb;have n0_:=Aside0.mk (below_step (belV HB.out) hb);have n1_:=Aside0.mk (hbox);have n2_:=Aside0.mk ((by rw [hg];exact (below_size (belV HB.out)):w.heap.size≤gb318));have n3_:=Aside0.mk ((by rw [hg];exact (below_size (belV HB.out)):w.heap.size≤gb318));clear HB;have HB:=n0_;have BK318:=n1_;have GW318:=n2_;have GE318:=n3_;clear n0_ n1_ n2_ n3_;clear hb hbox hg;obtain ⟨hcz7_0,hcz7_1,hcz7_2,hcz7_3,hcz7_4,hcz7_5,hcz7_6,hcz7_7,hcz7_8,hcz7_9,hcz7_10,hfz7_0,hfz7_1,hfz7_2,hfz7_3,hfz7_4,hfz7_5,hfz7_6,hfz7_7,hfz7_8,hfz7_9,hfz7_10⟩:=bcells11 BK318.out)|((with_reducible refine gate_callee (f:=12) rfl ?_);refine goesL_ (some 10) rfl rfl Try.func12 (by kernel_rfl) rfl #[.agg #[.int .i64 a0_0,.slice A0_1 l0_1.length c0_1,.slice A0_2 l0_2.length c0_2,.slice A0_3 l0_3.length c0_3,.bool a0_4,.int .i64 a0_5,.slice A0_6 l0_6.length c0_6,.slice A0_7 l0_7.length c0_7,.slice A0_8 l0_8.length c0_8,.slice A0_9 l0_9.length c0_9,.slice A0_10 l0_10.length c0_10]] rfl (by (try simp only [List.map_toArray,List.map_cons,List.map_nil]);first|done|rfl|(simp only [List.length_drop,List.length_take];rfl)) ?_;(with_reducible refine (table_Check.calls a0_0 _ _ l0_1 _ _ l0_2 _ _ l0_3 a0_4 a0_5 _ _ l0_6 _ _ l0_7 _ _ l0_8 _ _ l0_9 _ _ l0_10 t319 _ ?side1 ?side2 ?side3 ?side4 ?side5 ?side6 ?side7 ?side8 ?side9 ?side10 ?side11 ?side12 ?side13 ?side14 ?side15 ?side16 A3.out).mono ?_);(case side1=>exact cV (Kd.C_below HR0_1.out HB.out));(case side2=>exact HC0_1.out);(case side3=>exact cV (Kd.C_below HR0_2.out HB.out));(case side4=>exact HC0_2.out);(case side5=>exact cV (Kd.C_below HR0_3.out HB.out));(case side6=>exact HC0_3.out);(case side7=>exact cV (Kd.C_below HR0_6.out HB.out));(case side8=>exact HC0_6.out);(case side9=>exact cV (Kd.C_below HR0_7.out HB.out));(case side10=>exact HC0_7.out);(case side11=>exact cV (Kd.C_below HR0_8.out HB.out));(case side12=>exact HC0_8.out);(case side13=>exact cV (Kd.C_below HR0_9.out HB.out));(case side14=>exact HC0_9.out);(case side15=>exact cV (Kd.C_below HR0_10.out HB.out));(case side16=>exact HC0_10.out);rintro e w8 ⟨rfl,hb⟩;refine ⟨_,rfl,?_⟩;have n0_:=Aside0.mk (blk_below (g:=gb318) (blkV BK318.out) hb);have n1_:=Aside0.mk (below_step (belV1 HB.out GE318.out) hb);clear BK318;clear HB;have BK318:=n0_;have HB:=n1_;clear n0_ n1_;(try clear hb);(try clear hb2);(try clear hk);(try clear hi)))
   (try simp only [Act.put,List.setIfInBounds_toArray,List.set_cons_zero,List.set_cons_succ])
   go_cut [21] (fun v21 wc=>∃ (kq:Nat) (x21_4:Bool),v21=.bool x21_4∧Aside0 (table_Before.j0 kq a1 x21_4 a0_0 l0_1 l0_2 l0_3 a0_4 a0_5 l0_6 l0_7 l0_8 l0_9 l0_10=some (r1,r2))∧Aside0 (kq≤k)∧Aside0 (wc.heap[gb318]?=some (.cells #[.int .i64 a0_0,(.slice A0_1 l0_1.length c0_1),(.slice A0_2 l0_2.length c0_2),(.slice A0_3 l0_3.length c0_3),.bool a0_4,.int .i64 a0_5,(.slice A0_6 l0_6.length c0_6),(.slice A0_7 l0_7.length c0_7),(.slice A0_8 l0_8.length c0_8),(.slice A0_9 l0_9.length c0_9),(.slice A0_10 l0_10.length c0_10)] 27 (0,0)))∧Aside0 (Below w.heap.size w wc))
   case first =>
    have H:=HC5.out;clear HC5
    by_cases c9:a1 < 0
    · rw [if_pos c9] at H
      have c9b0:decide (a1 < 0)=true:=decide_eq_true c9;clear c9
      (first|rw [c9b0]|(simp only [i64_w,i32_w];rw [c9b0])|rw [c9b1]|skip)
      have H':=Aside0.mk H;clear H
      go_wp2
      go_meet
      case rel=>exact ⟨_,(true),okV,H',⟨by first|omega|exact Nat.le_refl _⟩,⟨blkV BK318.out⟩,⟨belV1 HB.out GE318.out⟩⟩
    rw [if_neg c9] at H
    have c9b0:decide (a1 < 0)=false:=decide_eq_false c9;clear c9
    (first|rw [c9b0]|(simp only [i64_w,i32_w];rw [c9b0])|rw [c9b1]|skip)
    replace H:=Option.bind_eq_some_iff.mp H
    obtain ⟨t320,A100,H⟩:=H
    replace H:(table_Before.j0 k a1 (decide (a1≥t320)) a0_0 l0_1 l0_2 l0_3 a0_4 a0_5 l0_6 l0_7 l0_8 l0_9 l0_10)=some (r1,r2):=H
    have A10:=Aside0.mk A100;clear A100
    have H':=Aside0.mk H;clear H
    obtain ⟨hcz11_0,hcz11_1,hcz11_2,hcz11_3,hcz11_4,hcz11_5,hcz11_6,hcz11_7,hcz11_8,hcz11_9,hcz11_10,hfz11_0,hfz11_1,hfz11_2,hfz11_3,hfz11_4,hfz11_5,hfz11_6,hfz11_7,hfz11_8,hfz11_9,hfz11_10⟩:=bcells11 BK318.out
    go_wp2_with (first|(go_at_call 14;(with_reducible refine (table_Count.calls k a0_0 _ _ l0_1 _ _ l0_2 _ _ l0_3 a0_4 a0_5 _ _ l0_6 _ _ l0_7 _ _ l0_8 _ _ l0_9 _ _ l0_10 t320 _ ?side1 ?side2 ?side3 ?side4 ?side5 ?side6 ?side7 ?side8 ?side9 ?side10 ?side11 ?side12 ?side13 ?side14 ?side15 ?side16 A10.out).mono ?_);(case side1=>exact cV (Kd.C_below HR0_1.out HB.out));(case side2=>exact HC0_1.out);(case side3=>exact cV (Kd.C_below HR0_2.out HB.out));(case side4=>exact HC0_2.out);(case side5=>exact cV (Kd.C_below HR0_3.out HB.out));(case side6=>exact HC0_3.out);(case side7=>exact cV (Kd.C_below HR0_6.out HB.out));(case side8=>exact HC0_6.out);(case side9=>exact cV (Kd.C_below HR0_7.out HB.out));(case side10=>exact HC0_7.out);(case side11=>exact cV (Kd.C_below HR0_8.out HB.out));(case side12=>exact HC0_8.out);(case side13=>exact cV (Kd.C_below HR0_9.out HB.out));(case side14=>exact HC0_9.out);(case side15=>exact cV (Kd.C_below HR0_10.out HB.out));(case side16=>exact HC0_10.out);rintro e w12 ⟨rfl,hb⟩;have n0_:=Aside0.mk (blk_below (g:=gb318) (blkV BK318.out) hb);have n1_:=Aside0.mk (below_step (belV1 HB.out GE318.out) hb);clear BK318;clear HB;have BK318:=n0_;have HB:=n1_;clear n0_ n1_;(try clear hb);(try clear hb2);(try clear hk);(try clear hi)))
    go_meet
    case rel=>exact ⟨_,(decide (a1≥t320)),okV,H',⟨by first|omega|exact Nat.le_refl _⟩,⟨blkV BK318.out⟩,⟨belV1 HB.out GE318.out⟩⟩
   case rest =>
    clear HC5
    try clear c1;try clear p2;try clear c3;try clear c4;try clear c4b0;try clear c4b1;try clear c9;try clear c9b0;try clear c9b1;try clear c12;try clear hcz11_0 hcz11_1 hcz11_10 hcz11_2 hcz11_3 hcz11_4 hcz11_5 hcz11_6 hcz11_7 hcz11_8 hcz11_9;try clear hcz7_0 hcz7_1 hcz7_10 hcz7_2 hcz7_3 hcz7_4 hcz7_5 hcz7_6 hcz7_7 hcz7_8 hcz7_9;try clear hfz11_0 hfz11_1 hfz11_10 hfz11_2 hfz11_3 hfz11_4 hfz11_5 hfz11_6 hfz11_7 hfz11_8 hfz11_9;try clear hfz7_0 hfz7_1 hfz7_10 hfz7_2 hfz7_3 hfz7_4 hfz7_5 hfz7_6 hfz7_7 hfz7_8 hfz7_9
    obtain ⟨kq,x21_4,rfl,HA,HJ4,BK318,HB⟩:=hcut
    cases kq with
    | zero=>exact absurd HA.out (by simp [table_Before.j0])
    | succ kj4 =>
     have H:=HA.out;clear HA
     simp only [table_Before.j0] at H
     by_cases c13:x21_4=true
     · subst c13
       have H1:(some (0,1))=some (r1,r2):=by rw [if_pos rfl] at H;exact H
       clear H
       have H:=H1;clear H1
       simp only [Option.some.injEq,Prod.mk.injEq] at H
       obtain ⟨rfl,rfl⟩:=H
       go_wp2
       go_ret2
       exact ⟨by first|rfl|(simp [errW_none,errW_some] <;> rfl)|(simp [*,errW_none,errW_some] <;> rfl),by repeat (first|(with_reducible first|exact HB.out|apply below_alloc|apply pw_below_drewN|apply below_drew1|refine below_set ?_ GE318.out)|exact HB.out)⟩
     replace c13:=Bool.eq_false_iff.mpr c13;subst c13
     have H1:(if a0_4=true then (some (a1,0)) else ((slices_BinarySearch_int_int.f kj4 l0_3 (wrap64 (a1+1))).bind fun bt321=>(if bt321.2=true then (if bt321.1 < 0 then (some ((-1),0)) else (if 0≤bt321.1 then (if bt321.1 < (l0_3.length:Int) then (some (wrap64 ((rd l0_3 bt321.1) - 1),0)) else (none)) else (none))) else (if (wrap64 (bt321.1 - 1)) < 0 then (some ((-1),0)) else (if 0≤(wrap64 (bt321.1 - 1)) then (if (wrap64 (bt321.1 - 1)) < (l0_3.length:Int) then (some (wrap64 ((rd l0_3 (wrap64 (bt321.1 - 1))) - 1),0)) else (none)) else (none))))))=some (r1,r2):=by rw [if_neg (show ¬ (false=true) by decide)] at H;exact H
     clear H
     have H:=H1;clear H1
     by_cases c14:a0_4=true
     · subst c14
       have H1:(some (a1,0))=some (r1,r2):=by rw [if_pos rfl] at H;exact H
       clear H
       have H:=H1;clear H1
       simp only [Option.some.injEq,Prod.mk.injEq] at H
       obtain ⟨rfl,rfl⟩:=H
       obtain ⟨hcz15_0,hcz15_1,hcz15_2,hcz15_3,hcz15_4,hcz15_5,hcz15_6,hcz15_7,hcz15_8,hcz15_9,hcz15_10,hfz15_0,hfz15_1,hfz15_2,hfz15_3,hfz15_4,hfz15_5,hfz15_6,hfz15_7,hfz15_8,hfz15_9,hfz15_10⟩:=bcells11 BK318.out
       go_wp2
       go_ret2
       exact ⟨by first|rfl|(simp [errW_none,errW_some] <;> rfl)|(simp [*,errW_none,errW_some] <;> rfl),by repeat (first|(with_reducible first|exact HB.out|apply below_alloc|apply pw_below_drewN|apply below_drew1|refine below_set ?_ GE318.out)|exact HB.out)⟩
     replace c14:=Bool.eq_false_iff.mpr c14;subst c14
     have H1:((slices_BinarySearch_int_int.f kj4 l0_3 (wrap64 (a1+1))).bind fun bt321=>(if bt321.2=true then (if bt321.1 < 0 then (some ((-1),0)) else (if 0≤bt321.1 then (if bt321.1 < (l0_3.length:Int) then (some (wrap64 ((rd l0_3 bt321.1) - 1),0)) else (none)) else (none))) else (if (wrap64 (bt321.1 - 1)) < 0 then (some ((-1),0)) else (if 0≤(wrap64 (bt321.1 - 1)) then (if (wrap64 (bt321.1 - 1)) < (l0_3.length:Int) then (some (wrap64 ((rd l0_3 (wrap64 (bt321.1 - 1))) - 1),0)) else (none)) else (none)))))=some (r1,r2):=by rw [if_neg (show ¬ (false=true) by decide)] at H;exact H
     clear H
     have H:=H1;clear H1
     replace H:=Option.bind_eq_some_iff.mp H
     obtain ⟨⟨t321,t322⟩,A160,H⟩:=H
     replace H:(if t322=true then (if t321 < 0 then (some ((-1),0)) else (if 0≤t321 then (if t321 < (l0_3.length:Int) then (some (wrap64 ((rd l0_3 t321) - 1),0)) else (none)) else (none))) else (if (wrap64 (t321 - 1)) < 0 then (some ((-1),0)) else (if 0≤(wrap64 (t321 - 1)) then (if (wrap64 (t321 - 1)) < (l0_3.length:Int) then (some (wrap64 ((rd l0_3 (wrap64 (t321 - 1))) - 1),0)) else (none)) else (none))))=some (r1,r2):=H
     have A16:=Aside0.mk A160;clear A160
     by_cases c17:t322=true
     · subst c17
       have H1:(if t321 < 0 then (some ((-1),0)) else (if 0≤t321 then (if t321 < (l0_3.length:Int) then (some (wrap64 ((rd l0_3 t321) - 1),0)) else (none)) else (none)))=some (r1,r2):=by rw [if_pos rfl] at H;exact H
       clear H
       have H:=H1;clear H1
       by_cases c18:t321 < 0
       · rw [if_pos c18] at H
         have c18b0:decide (t321 < 0)=true:=decide_eq_true c18;clear c18
         simp only [Option.some.injEq,Prod.mk.injEq] at H
         obtain ⟨rfl,rfl⟩:=H
         obtain ⟨hcz19_0,hcz19_1,hcz19_2,hcz19_3,hcz19_4,hcz19_5,hcz19_6,hcz19_7,hcz19_8,hcz19_9,hcz19_10,hfz19_0,hfz19_1,hfz19_2,hfz19_3,hfz19_4,hfz19_5,hfz19_6,hfz19_7,hfz19_8,hfz19_9,hfz19_10⟩:=bcells11 BK318.out
         go_wp2_with (first|((with_reducible refine gate_callee (f:=48) rfl ?_);refine goesL_ (some 30) rfl rfl Try.func48 (by kernel_rfl) rfl #[.slice A0_3 l0_3.length c0_3,.int .i64 (wrap64 (a1+1))] rfl (by (try simp only [List.map_toArray,List.map_cons,List.map_nil]);first|done|rfl|(simp only [List.length_drop,List.length_take];rfl)) ?_;(with_reducible refine (slices_BinarySearch_int_int.calls kj4 _ _ l0_3 (wrap64 (a1+1)) t321 true _ ?side1 ?side2 A16.out).mono ?_);(case side1=>exact cV (Kd.C_below HR0_3.out HB.out));(case side2=>exact HC0_3.out);rintro e w' ⟨rfl,⟨nd,rfl⟩⟩;refine ⟨_,rfl,?_⟩))
         go_ret2
         exact ⟨by first|rfl|(simp [errW_none,errW_some] <;> rfl)|(simp [*,errW_none,errW_some] <;> rfl),by repeat (first|(with_reducible first|exact HB.out|apply below_alloc|apply pw_below_drewN|apply below_drew1|refine below_set ?_ GE318.out)|exact HB.out)⟩
       rw [if_neg c18] at H
       have c18b0:decide (t321 < 0)=false:=decide_eq_false c18;clear c18
       by_cases c20:0≤t321
       · rw [if_pos c20] at H
         have c20b0:decide (0≤t321)=true:=decide_eq_true c20;clear c20
         by_cases c21:t321 < (l0_3.length:Int)
         · rw [if_pos c21] at H
           have c21b0:decide (t321 < (l0_3.length:Int))=true:=decide_eq_true c21;clear c21
           simp only [Option.some.injEq,Prod.mk.injEq] at H
           obtain ⟨rfl,rfl⟩:=H
           obtain ⟨hcz22_0,hcz22_1,hcz22_2,hcz22_3,hcz22_4,hcz22_5,hcz22_6,hcz22_7,hcz22_8,hcz22_9,hcz22_10,hfz22_0,hfz22_1,hfz22_2,hfz22_3,hfz22_4,hfz22_5,hfz22_6,hfz22_7,hfz22_8,hfz22_9,hfz22_10⟩:=bcells11 BK318.out
           go_wp2_with (first|((with_reducible refine gate_callee (f:=48) rfl ?_);refine goesL_ (some 30) rfl rfl Try.func48 (by kernel_rfl) rfl #[.slice A0_3 l0_3.length c0_3,.int .i64 (wrap64 (a1+1))] rfl (by (try simp only [List.map_toArray,List.map_cons,List.map_nil]);first|done|rfl|(simp only [List.length_drop,List.length_take];rfl)) ?_;(with_reducible refine (slices_BinarySearch_int_int.calls kj4 _ _ l0_3 (wrap64 (a1+1)) t321 true _ ?side1 ?side2 A16.out).mono ?_);(case side1=>exact cV (Kd.C_below HR0_3.out HB.out));(case side2=>exact HC0_3.out);rintro e w' ⟨rfl,⟨nd,rfl⟩⟩;refine ⟨_,rfl,?_⟩;have p323:0≤(t321:Int):=of_decide_eq_true asV;have q323:t321 < (l0_3.length:Int):=of_decide_eq_true asV;obtain ⟨ad323,e323,hx323_0⟩:=Kd.at_int HR0_3.out t321 p323 q323;cases e323;replace hx323_0:=(HB.out.cell (World.block_lt_of_cell? w _ hx323_0)).trans hx323_0;replace p323:=eq_true p323;replace q323:=eq_true q323))
           go_ret2
           exact ⟨by first|rfl|(simp [errW_none,errW_some] <;> rfl)|(simp [*,errW_none,errW_some] <;> rfl),by repeat (first|(with_reducible first|exact HB.out|apply below_alloc|apply pw_below_drewN|apply below_drew1|refine below_set ?_ GE318.out)|exact HB.out)⟩
         rw [if_neg c21] at H
         exact absurd H (by simp)
       rw [if_neg c20] at H
       exact absurd H (by simp)
     replace c17:=Bool.eq_false_iff.mpr c17;subst c17
     have H1:(if (wrap64 (t321 - 1)) < 0 then (some ((-1),0)) else (if 0≤(wrap64 (t321 - 1)) then (if (wrap64 (t321 - 1)) < (l0_3.length:Int) then (some (wrap64 ((rd l0_3 (wrap64 (t321 - 1))) - 1),0)) else (none)) else (none)))=some (r1,r2):=by rw [if_neg (show ¬ (false=true) by decide)] at H;exact H
     clear H
     have H:=H1;clear H1
     by_cases c23:(wrap64 (t321 - 1)) < 0
     · rw [if_pos c23] at H
       have c23b0:decide ((wrap64 (t321 - 1)) < 0)=true:=decide_eq_true c23;clear c23
       simp only [Option.some.injEq,Prod.mk.injEq] at H
       obtain ⟨rfl,rfl⟩:=H
       obtain ⟨hcz24_0,hcz24_1,hcz24_2,hcz24_3,hcz24_4,hcz24_5,hcz24_6,hcz24_7,hcz24_8,hcz24_9,hcz24_10,hfz24_0,hfz24_1,hfz24_2,hfz24_3,hfz24_4,hfz24_5,hfz24_6,hfz24_7,hfz24_8,hfz24_9,hfz24_10⟩:=bcells11 BK318.out
       go_wp2_with (first|((with_reducible refine gate_callee (f:=48) rfl ?_);refine goesL_ (some 30) rfl rfl Try.func48 (by kernel_rfl) rfl #[.slice A0_3 l0_3.length c0_3,.int .i64 (wrap64 (a1+1))] rfl (by (try simp only [List.map_toArray,List.map_cons,List.map_nil]);first|done|rfl|(simp only [List.length_drop,List.length_take];rfl)) ?_;(with_reducible refine (slices_BinarySearch_int_int.calls kj4 _ _ l0_3 (wrap64 (a1+1)) t321 false _ ?side1 ?side2 A16.out).mono ?_);(case side1=>exact cV (Kd.C_below HR0_3.out HB.out));(case side2=>exact HC0_3.out);rintro e w' ⟨rfl,⟨nd,rfl⟩⟩;refine ⟨_,rfl,?_⟩))
       go_ret2
       exact ⟨by first|rfl|(simp [errW_none,errW_some] <;> rfl)|(simp [*,errW_none,errW_some] <;> rfl),by repeat (first|(with_reducible first|exact HB.out|apply below_alloc|apply pw_below_drewN|apply below_drew1|refine below_set ?_ GE318.out)|exact HB.out)⟩
     rw [if_neg c23] at H
     have c23b0:decide ((wrap64 (t321 - 1)) < 0)=false:=decide_eq_false c23;clear c23
     obtain ⟨ji25,hji25⟩:∃ j_:Int,(wrap64 (t321 - 1))=j_:=⟨_,rfl⟩
     replace H:(if 0≤(ji25) then (if (ji25) < (l0_3.length:Int) then (some (wrap64 ((rd l0_3 (ji25)) - 1),0)) else (none)) else (none))=some (r1,r2):=by first|(rw [hji25] at H;exact H)|(simp only [hji25] at H ⊢;exact H)
     (try rw [hji25] at c23b0)
     (try rw [hji25] at A16)
     have hji25w:(IntKind.i64.wrap (t321 - 1))=ji25:=(i64_w _).trans hji25
     by_cases c26:0≤(ji25)
     · rw [if_pos c26] at H
       have c26b0:decide (0≤(ji25))=true:=decide_eq_true c26;clear c26
       by_cases c27:(ji25) < (l0_3.length:Int)
       · rw [if_pos c27] at H
         have c27b0:decide ((ji25) < (l0_3.length:Int))=true:=decide_eq_true c27;clear c27
         simp only [Option.some.injEq,Prod.mk.injEq] at H
         obtain ⟨rfl,rfl⟩:=H
         obtain ⟨hcz28_0,hcz28_1,hcz28_2,hcz28_3,hcz28_4,hcz28_5,hcz28_6,hcz28_7,hcz28_8,hcz28_9,hcz28_10,hfz28_0,hfz28_1,hfz28_2,hfz28_3,hfz28_4,hfz28_5,hfz28_6,hfz28_7,hfz28_8,hfz28_9,hfz28_10⟩:=bcells11 BK318.out
         go_wp2_with (first|((with_reducible refine gate_callee (f:=48) rfl ?_);refine goesL_ (some 30) rfl rfl Try.func48 (by kernel_rfl) rfl #[.slice A0_3 l0_3.length c0_3,.int .i64 (wrap64 (a1+1))] rfl (by (try simp only [List.map_toArray,List.map_cons,List.map_nil]);first|done|rfl|(simp only [List.length_drop,List.length_take];rfl)) ?_;(with_reducible refine (slices_BinarySearch_int_int.calls kj4 _ _ l0_3 (wrap64 (a1+1)) t321 false _ ?side1 ?side2 A16.out).mono ?_);(case side1=>exact cV (Kd.C_below HR0_3.out HB.out));(case side2=>exact HC0_3.out);rintro e w' ⟨rfl,⟨nd,rfl⟩⟩;refine ⟨_,rfl,?_⟩;have p324:0≤((ji25):Int):=of_decide_eq_true asV;have q324:(ji25) < (l0_3.length:Int):=of_decide_eq_true asV;obtain ⟨ad324,e324,hx324_0⟩:=Kd.at_int HR0_3.out (ji25) p324 q324;cases e324;replace hx324_0:=(HB.out.cell (World.block_lt_of_cell? w _ hx324_0)).trans hx324_0;replace p324:=eq_true p324;replace q324:=eq_true q324))
         go_ret2
         exact ⟨by first|rfl|(simp [errW_none,errW_some] <;> rfl)|(simp only [← hji25];first|rfl|(simp [errW_none,errW_some] <;> rfl))|(simp [*,errW_none,errW_some] <;> rfl),by repeat (first|(with_reducible first|exact HB.out|apply below_alloc|apply pw_below_drewN|apply below_drew1|refine below_set ?_ GE318.out)|exact HB.out)⟩
       rw [if_neg c27] at H
       exact absurd H (by simp)
     rw [if_neg c26] at H
     exact absurd H (by simp)
 rw [if_neg c4] at H
 have c4b0:(t319 == 0)=false:=beq_eq_false_iff_ne.mpr c4
 have c4b1:(t319 != 0)=true:=bne_iff_ne.mpr c4
 simp only [Option.some.injEq,Prod.mk.injEq] at H
 obtain ⟨rfl,rfl⟩:=H
 go_enter Try.func33,Try.ntmps33
 go_wp2_with (first|((with_reducible refine gate_dst (N:=2) rfl ?_);refine box_event ?hg (N:=2) ?hd (cs:=#[.int .i64 a0_0,.slice A0_1 l0_1.length c0_1,.slice A0_2 l0_2.length c0_2,.slice A0_3 l0_3.length c0_3,.bool a0_4,.int .i64 a0_5,.slice A0_6 l0_6.length c0_6,.slice A0_7 l0_7.length c0_7,.slice A0_8 l0_8.length c0_8,.slice A0_9 l0_9.length c0_9,.slice A0_10 l0_10.length c0_10]) (t:=27) ?hr ?_;(case hd=>rfl);(case hg=>rfl);(case hr=>first|(go_simp;done)|(go_simp;rfl));intro gb318 hg w29 hbox hb;have n0_:=Aside0.mk (below_step (belV HB.out) hb);have n1_:=Aside0.mk (hbox);have n2_:=Aside0.mk ((by rw [hg];exact (below_size (belV HB.out)):w.heap.size≤gb318));have n3_:=Aside0.mk ((by rw [hg];exact (below_size (belV HB.out)):w.heap.size≤gb318));clear HB;have HB:=n0_;have BK318:=n1_;have GW318:=n2_;have GE318:=n3_;clear n0_ n1_ n2_ n3_;clear hb hbox hg;obtain ⟨hcz30_0,hcz30_1,hcz30_2,hcz30_3,hcz30_4,hcz30_5,hcz30_6,hcz30_7,hcz30_8,hcz30_9,hcz30_10,hfz30_0,hfz30_1,hfz30_2,hfz30_3,hfz30_4,hfz30_5,hfz30_6,hfz30_7,hfz30_8,hfz30_9,hfz30_10⟩:=bcells11 BK318.out)|((with_reducible refine gate_callee (f:=12) rfl ?_);refine goesL_ (some 10) rfl rfl Try.func12 (by kernel_rfl) rfl #[.agg #[.int .i64 a0_0,.slice A0_1 l0_1.length c0_1,.slice A0_2 l0_2.length c0_2,.slice A0_3 l0_3.length c0_3,.bool a0_4,.int .i64 a0_5,.slice A0_6 l0_6.length c0_6,.slice A0_7 l0_7.length c0_7,.slice A0_8 l0_8.length c0_8,.slice A0_9 l0_9.length c0_9,.slice A0_10 l0_10.length c0_10]] rfl (by (try simp only [List.map_toArray,List.map_cons,List.map_nil]);first|done|rfl|(simp only [List.length_drop,List.length_take];rfl)) ?_;(with_reducible refine (table_Check.calls a0_0 _ _ l0_1 _ _ l0_2 _ _ l0_3 a0_4 a0_5 _ _ l0_6 _ _ l0_7 _ _ l0_8 _ _ l0_9 _ _ l0_10 t319 _ ?side1 ?side2 ?side3 ?side4 ?side5 ?side6 ?side7 ?side8 ?side9 ?side10 ?side11 ?side12 ?side13 ?side14 ?side15 ?side16 A3.out).mono ?_);(case side1=>exact cV (Kd.C_below HR0_1.out HB.out));(case side2=>exact HC0_1.out);(case side3=>exact cV (Kd.C_below HR0_2.out HB.out));(case side4=>exact HC0_2.out);(case side5=>exact cV (Kd.C_below HR0_3.out HB.out));(case side6=>exact HC0_3.out);(case side7=>exact cV (Kd.C_below HR0_6.out HB.out));(case side8=>exact HC0_6.out);(case side9=>exact cV (Kd.C_below HR0_7.out HB.out));(case side10=>exact HC0_7.out);(case side11=>exact cV (Kd.C_below HR0_8.out HB.out));(case side12=>exact HC0_8.out);(case side13=>exact cV (Kd.C_below HR0_9.out HB.out));(case side14=>exact HC0_9.out);(case side15=>exact cV (Kd.C_below HR0_10.out HB.out));(case side16=>exact HC0_10.out);rintro e w31 ⟨rfl,hb⟩;refine ⟨_,rfl,?_⟩;have n0_:=Aside0.mk (blk_below (g:=gb318) (blkV BK318.out) hb);have n1_:=Aside0.mk (below_step (belV1 HB.out GE318.out) hb);clear BK318;clear HB;have BK318:=n0_;have HB:=n1_;clear n0_ n1_;(try clear hb);(try clear hb2);(try clear hk);(try clear hi)))
 go_ret2
 exact ⟨by first|rfl|(simp [errW_none,errW_some] <;> rfl)|(simp [*,errW_none,errW_some] <;> rfl),by repeat (first|(with_reducible first|exact HB.out|apply below_alloc|apply pw_below_drewN|apply below_drew1|refine below_set ?_ GE318.out)|exact HB.out)⟩

end Go.Proofs.Ytmbhafgnmdfjhaa.QTab
