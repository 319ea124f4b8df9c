/- Part of a proof: functions of the program as Lean functions, and that the machine's calls come to them. Made by a program of this session (wip/mp). -/
import Derived.Test.YtmbhafgnmdfjhaaQTaby0
import Derived.Test.YtmbhafgnmdfjhaaGME
import Derived.Test.YtmbhafgnmdfjhaaQTabx22
import Derived.Test.YtmbhafgnmdfjhaaQTabx5
namespace Go.Proofs.Ytmbhafgnmdfjhaa.QTab
open Go.RowKit Go.Proofs.YtmbhafgnmdfjhaaV Go.Proofs.YtmbhafgnmdfjhaaW.PrintWords Go.Proofs.YtmbhafgnmdfjhaaW.PrintLast Go.Proofs.YtmbhafgnmdfjhaaW.PrintMore
attribute [local go_sem] max2_int min2_int max_two min_two max_three min_three max_four min_four   -- for this text's walks alone
set_option linter.unusedVariables false
set_option linter.unusedSimpArgs false

/-! ### table_Chunk: function 35 -/
mutual
def table_Chunk.j0 : Nat → Int → Int → Int → Bool → Int → List (S83) → List (S83) → List Int → Bool → Int → List Int → List (S86) → List Int → List (S83) → List (List Int) → Option (Int × Int × Int × Int × Int)
 | 0,_,_,_,_,_,_,_,_,_,_,_,_,_,_,_=>none
 | k+1,x1,x4,x7,x25,x332000,x332001,x332002,x332003,x332004,x332005,x332006,x332007,x332008,x332009,x332010=>if x25=true then (some (0,0,0,0,1)) else (table_Chunk.l0 k x1 x4 x7 x1 0 x332000 x332001 x332002 x332003 x332004 x332005 x332006 x332007 x332008 x332009 x332010)
def table_Chunk.l0 : Nat → Int → Int → Int → Int → Int → Int → List (S83) → List (S83) → List Int → Bool → Int → List Int → List (S86) → List Int → List (S83) → List (List Int) → Option (Int × Int × Int × Int × Int)
 | 0,_,_,_,_,_,_,_,_,_,_,_,_,_,_,_,_=>none
 | k+1,x1,x4,x7,x26,x27,x332000,x332001,x332002,x332003,x332004,x332005,x332006,x332007,x332008,x332009,x332010=>if x27 < x26 then ((table_inChunk.f k x332000 x332001 x332002 x332003 x332004 x332005 x332006 x332007 x332008 x332009 x332010 x27).bind fun t333=>(table_Chunk.l0 k x1 (wrap64 (x4+t333)) x7 x26 (wrap64 (x27+1)) x332000 x332001 x332002 x332003 x332004 x332005 x332006 x332007 x332008 x332009 x332010)) else ((table_inChunk.f k x332000 x332001 x332002 x332003 x332004 x332005 x332006 x332007 x332008 x332009 x332010 x1).bind fun t334=>(table_Chunk.l1 k x1 x4 t334 x7 x4 x332000 x332001 x332002 x332003 x332004 x332005 x332006 x332007 x332008 x332009 x332010))
def table_Chunk.l1 : Nat → Int → Int → Int → Int → Int → Int → List (S83) → List (S83) → List Int → Bool → Int → List Int → List (S86) → List Int → List (S83) → List (List Int) → Option (Int × Int × Int × Int × Int)
 | 0,_,_,_,_,_,_,_,_,_,_,_,_,_,_,_,_=>none
 | k+1,x1,x4,x5,x7,x11,x332000,x332001,x332002,x332003,x332004,x332005,x332006,x332007,x332008,x332009,x332010=>if x11 < (wrap64 (x4+x5)) then ((table_size.f x332000 x332001 x332002 x332003 x332004 x332005 x332006 x332007 x332008 x332009 x332010 x11).bind fun t335=>(table_Chunk.l1 k x1 x4 x5 (wrap64 (x7+t335)) (wrap64 (x11+1)) x332000 x332001 x332002 x332003 x332004 x332005 x332006 x332007 x332008 x332009 x332010)) else (if 0≤x1 then (if x1 < (x332008.length:Int) then (some (x4,x5,rd x332008 x1,x7,0)) else (none)) else (none))
end
def table_Chunk.f (k : Nat) (a0_0 : Int) (l0_1 : List (S83)) (l0_2 : List (S83)) (l0_3 : List Int) (a0_4 : Bool) (a0_5 : Int) (l0_6 : List Int) (l0_7 : List (S86)) (l0_8 : List Int) (l0_9 : List (S83)) (l0_10 : List (List Int)) (a1 : Int) : Option (Int × Int × Int × Int × Int) := (table_Check.f a0_0 l0_1 l0_2 l0_3 a0_4 a0_5 l0_6 l0_7 l0_8 l0_9 l0_10).bind fun t332 => (if t332 = 0 then (if a1 < 0 then (table_Chunk.j0 k a1 0 0 true a0_0 l0_1 l0_2 l0_3 a0_4 a0_5 l0_6 l0_7 l0_8 l0_9 l0_10) else (table_Chunk.j0 k a1 0 0 (decide (a1 ≥ (l0_8.length : Int))) a0_0 l0_1 l0_2 l0_3 a0_4 a0_5 l0_6 l0_7 l0_8 l0_9 l0_10)) else (some (0, 0, 0, 0, t332)))
theorem table_Chunk.mono_l:∀ k,(∀ y0 y1 y2 y3 y4 y5 y6 y7 y8 y9 y10 y11 y12 y13 y14,LeO (table_Chunk.j0 k y0 y1 y2 y3 y4 y5 y6 y7 y8 y9 y10 y11 y12 y13 y14) (table_Chunk.j0 (k+1) y0 y1 y2 y3 y4 y5 y6 y7 y8 y9 y10 y11 y12 y13 y14))∧(∀ y0 y1 y2 y3 y4 y5 y6 y7 y8 y9 y10 y11 y12 y13 y14 y15,LeO (table_Chunk.l0 k y0 y1 y2 y3 y4 y5 y6 y7 y8 y9 y10 y11 y12 y13 y14 y15) (table_Chunk.l0 (k+1) y0 y1 y2 y3 y4 y5 y6 y7 y8 y9 y10 y11 y12 y13 y14 y15))∧(∀ y0 y1 y2 y3 y4 y5 y6 y7 y8 y9 y10 y11 y12 y13 y14 y15,LeO (table_Chunk.l1 k y0 y1 y2 y3 y4 y5 y6 y7 y8 y9 y10 y11 y12 y13 y14 y15) (table_Chunk.l1 (k+1) y0 y1 y2 y3 y4 y5 y6 y7 y8 y9 y10 y11 y12 y13 y14 y15))
 | 0=>⟨fun _ _ _ _ _ _ _ _ _ _ _ _ _ _ _ r h=>by simp [table_Chunk.j0] at h,fun _ _ _ _ _ _ _ _ _ _ _ _ _ _ _ _ r h=>by simp [table_Chunk.l0] at h,fun _ _ _ _ _ _ _ _ _ _ _ _ _ _ _ _ r h=>by simp [table_Chunk.l1] at h⟩
 | k+1=>by
  obtain ⟨ih0,ih1,ih2⟩:=table_Chunk.mono_l k
  refine ⟨?_,?_,?_⟩
  · intro y0 y1 y2 y3 y4 y5 y6 y7 y8 y9 y10 y11 y12 y13 y14
    unfold table_Chunk.j0
    repeat' first
    | (with_reducible exact ih0 _ _ _ _ _ _ _ _ _ _ _ _ _ _ _)
    | (with_reducible exact ih1 _ _ _ _ _ _ _ _ _ _ _ _ _ _ _ _)
    | (with_reducible exact ih2 _ _ _ _ _ _ _ _ _ _ _ _ _ _ _ _)
    | (with_reducible exact table_inChunk.mono _ _ _ _ _ _ _ _ _ _ _ _ _)
    | (with_reducible exact LeO.refl _)
    | (with_reducible exact LeO.none _)
    | (with_reducible refine LeO.ite ?_ ?_)
    | (with_reducible refine LeO.bind ?_ (fun _=>?_))
    | exact LeO.none _
    | refine LeO.ite ?_ ?_
    | refine LeO.bind ?_ (fun _=>?_)
  · intro y0 y1 y2 y3 y4 y5 y6 y7 y8 y9 y10 y11 y12 y13 y14 y15
    unfold table_Chunk.l0
    repeat' first
    | (with_reducible exact ih0 _ _ _ _ _ _ _ _ _ _ _ _ _ _ _)
    | (with_reducible exact ih1 _ _ _ _ _ _ _ _ _ _ _ _ _ _ _ _)
    | (with_reducible exact ih2 _ _ _ _ _ _ _ _ _ _ _ _ _ _ _ _)
    | (with_reducible exact table_inChunk.mono _ _ _ _ _ _ _ _ _ _ _ _ _)
    | (with_reducible exact LeO.refl _)
    | (with_reducible exact LeO.none _)
    | (with_reducible refine LeO.ite ?_ ?_)
    | (with_reducible refine LeO.bind ?_ (fun _=>?_))
    | exact LeO.none _
    | refine LeO.ite ?_ ?_
    | refine LeO.bind ?_ (fun _=>?_)
  intro y0 y1 y2 y3 y4 y5 y6 y7 y8 y9 y10 y11 y12 y13 y14 y15
  unfold table_Chunk.l1
  repeat' first
  | (with_reducible exact ih0 _ _ _ _ _ _ _ _ _ _ _ _ _ _ _)
  | (with_reducible exact ih1 _ _ _ _ _ _ _ _ _ _ _ _ _ _ _ _)
  | (with_reducible exact ih2 _ _ _ _ _ _ _ _ _ _ _ _ _ _ _ _)
  | (with_reducible exact table_inChunk.mono _ _ _ _ _ _ _ _ _ _ _ _ _)
  | (with_reducible exact LeO.refl _)
  | (with_reducible exact LeO.none _)
  | (with_reducible refine LeO.ite ?_ ?_)
  | (with_reducible refine LeO.bind ?_ (fun _=>?_))
  | exact LeO.none _
  | refine LeO.ite ?_ ?_
  | refine LeO.bind ?_ (fun _=>?_)
theorem table_Chunk.mono:∀ a0 a1 a2 a3 a4 a5 a6 a7 a8 a9 a10 a11 k,LeO (table_Chunk.f k a0 a1 a2 a3 a4 a5 a6 a7 a8 a9 a10 a11) (table_Chunk.f (k+1) a0 a1 a2 a3 a4 a5 a6 a7 a8 a9 a10 a11):=by
 intro a0 a1 a2 a3 a4 a5 a6 a7 a8 a9 a10 a11 k
 obtain ⟨ih0,ih1,ih2⟩:=table_Chunk.mono_l k
 unfold table_Chunk.f
 repeat' first
  | (with_reducible exact ih0 _ _ _ _ _ _ _ _ _ _ _ _ _ _ _)
  | (with_reducible exact ih1 _ _ _ _ _ _ _ _ _ _ _ _ _ _ _ _)
  | (with_reducible exact ih2 _ _ _ _ _ _ _ _ _ _ _ _ _ _ _ _)
  | (with_reducible exact table_inChunk.mono _ _ _ _ _ _ _ _ _ _ _ _ _)
  | (with_reducible exact LeO.refl _)
  | (with_reducible exact LeO.none _)
  | (with_reducible refine LeO.ite ?_ ?_)
  | (with_reducible refine LeO.bind ?_ (fun _=>?_))
  | exact LeO.none _
  | refine LeO.ite ?_ ?_
  | refine LeO.bind ?_ (fun _=>?_)
set_option maxHeartbeats 8000000 in
set_option maxRecDepth 100000 in
theorem table_Chunk.calls (k:Nat) (a0_0:Int) (A0_1:Option Addr) (c0_1:Nat) (l0_1:List (S83)) (A0_2:Option Addr) (c0_2:Nat) (l0_2:List (S83)) (A0_3:Option Addr) (c0_3:Nat) (l0_3:List Int) (a0_4:Bool) (a0_5:Int) (A0_6:Option Addr) (c0_6:Nat) (l0_6:List Int) (A0_7:Option Addr) (c0_7:Nat) (l0_7:List (S86)) (A0_8:Option Addr) (c0_8:Nat) (l0_8:List Int) (A0_9:Option Addr) (c0_9:Nat) (l0_9:List (S83)) (A0_10:Option Addr) (c0_10:Nat) (l0_10:List (List Int)) (a1:Int) (r1:Int) (r2:Int) (r3:Int) (r4:Int) (r5:Int) (w:World) (hr0_1:Kd.C k83 w A0_1 l0_1.length l0_1) (hc0_1:l0_1.length≤c0_1) (hr0_2:Kd.C k83 w A0_2 l0_2.length l0_2) (hc0_2:l0_2.length≤c0_2) (hr0_3:Kd.C (Kd.int .i64) w A0_3 l0_3.length l0_3) (hc0_3:l0_3.length≤c0_3) (hr0_6:Kd.C (Kd.int .i64) w A0_6 l0_6.length l0_6) (hc0_6:l0_6.length≤c0_6) (hr0_7:Kd.C k86 w A0_7 l0_7.length l0_7) (hc0_7:l0_7.length≤c0_7) (hr0_8:Kd.C (Kd.int .i64) w A0_8 l0_8.length l0_8) (hc0_8:l0_8.length≤c0_8) (hr0_9:Kd.C k83 w A0_9 l0_9.length l0_9) (hc0_9:l0_9.length≤c0_9) (hr0_10:Kd.C (Kd.slice 3 (Kd.int .i64)) w A0_10 l0_10.length l0_10) (hc0_10:l0_10.length≤c0_10) (h:table_Chunk.f k a0_0 l0_1 l0_2 l0_3 a0_4 a0_5 l0_6 l0_7 l0_8 l0_9 l0_10 a1=some (r1,r2,r3,r4,r5)) :
 Calls Try.prog 35 #[.agg #[.int .i64 a0_0,.slice A0_1 l0_1.length c0_1,.slice A0_2 l0_2.length c0_2,.slice A0_3 l0_3.length c0_3,.bool a0_4,.int .i64 a0_5,.slice A0_6 l0_6.length c0_6,.slice A0_7 l0_7.length c0_7,.slice A0_8 l0_8.length c0_8,.slice A0_9 l0_9.length c0_9,.slice A0_10 l0_10.length c0_10],.int .i64 a1] w fun e w'=>e=.returned (.tuple #[.int .i64 r1,.int .i64 r2,.int .i64 r3,.int .i64 r4,.int .i64 r5])∧Below w.heap.size w w':=by
 have hu27:=Try.underlying27
 have HR0_1:=Aside0.mk hr0_1
 have HC0_1:=Aside0.mk hc0_1;clear hr0_1 hc0_1
 have HR0_2:=Aside0.mk hr0_2
 have HC0_2:=Aside0.mk hc0_2;clear hr0_2 hc0_2
 have HR0_3:=Aside0.mk hr0_3
 have HC0_3:=Aside0.mk hc0_3;clear hr0_3 hc0_3
 have HR0_6:=Aside0.mk hr0_6
 have HC0_6:=Aside0.mk hc0_6;clear hr0_6 hc0_6
 have HR0_7:=Aside0.mk hr0_7
 have HC0_7:=Aside0.mk hc0_7;clear hr0_7 hc0_7
 have HR0_8:=Aside0.mk hr0_8
 have HC0_8:=Aside0.mk hc0_8;clear hr0_8 hc0_8
 have HR0_9:=Aside0.mk hr0_9
 have HC0_9:=Aside0.mk hc0_9;clear hr0_9 hc0_9
 have HR0_10:=Aside0.mk hr0_10
 have HC0_10:=Aside0.mk hc0_10;clear hr0_10 hc0_10;have HB:=Aside0.mk (Below.refl w.heap.size w)
 have H:((table_Check.f a0_0 l0_1 l0_2 l0_3 a0_4 a0_5 l0_6 l0_7 l0_8 l0_9 l0_10).bind fun t332=>(if t332=0 then (if a1 < 0 then (table_Chunk.j0 k a1 0 0 true a0_0 l0_1 l0_2 l0_3 a0_4 a0_5 l0_6 l0_7 l0_8 l0_9 l0_10) else (table_Chunk.j0 k a1 0 0 (decide (a1≥(l0_8.length:Int))) a0_0 l0_1 l0_2 l0_3 a0_4 a0_5 l0_6 l0_7 l0_8 l0_9 l0_10)) else (some (0,0,0,0,t332))))=some (r1,r2,r3,r4,r5):=h
 clear h
 replace H:=Option.bind_eq_some_iff.mp H
 obtain ⟨t332,A30,H⟩:=H
 replace H:(if t332=0 then (if a1 < 0 then (table_Chunk.j0 k a1 0 0 true a0_0 l0_1 l0_2 l0_3 a0_4 a0_5 l0_6 l0_7 l0_8 l0_9 l0_10) else (table_Chunk.j0 k a1 0 0 (decide (a1≥(l0_8.length:Int))) a0_0 l0_1 l0_2 l0_3 a0_4 a0_5 l0_6 l0_7 l0_8 l0_9 l0_10)) else (some (0,0,0,0,t332)))=some (r1,r2,r3,r4,r5):=H
 have A3:=Aside0.mk A30;clear A30
 by_cases c4:t332=0
 · rw [if_pos c4] at H
   have c4b0:(t332 == 0)=true:=beq_iff_eq.mpr c4
   have c4b1:(t332 != 0)=false:=bne_eq_false_iff_eq.mpr c4;clear c4
   have HC5:=Aside0.mk H;clear H
   go_enter Try.func35,Try.ntmps35
   go_upto_region 4 with (first|((with_reducible refine gate_dst (N:=2) rfl ?_);(try (refine gate_guard (by rfl) ?_;dsimp only));refine box_event ?hg (N:=2) ?hd (cs:=#[.int .i64 a0_0,.slice A0_1 l0_1.length c0_1,.slice A0_2 l0_2.length c0_2,.slice A0_3 l0_3.length c0_3,.bool a0_4,.int .i64 a0_5,.slice A0_6 l0_6.length c0_6,.slice A0_7 l0_7.length c0_7,.slice A0_8 l0_8.length c0_8,.slice A0_9 l0_9.length c0_9,.slice A0_10 l0_10.length c0_10]) (t:=27) ?hr ?_;(case hd=>rfl);(case hg=>rfl);(case hr=>first|(go_simp;done)|(go_simp;rfl));intro gb331 hg w6 hbox hb;have n0_:=Aside0.mk (below_step (belV HB.out) hb);have n1_:=Aside0.mk (hbox);have n2_:=Aside0.mk ((by rw [hg];exact (below_size (belV HB.out)):w.heap.size≤gb331));have n3_:=Aside0.mk ((by rw [hg];exact (below_size (belV HB.out)):w.heap.size≤gb331));clear HB;have HB:=n0_;have BK331:=n1_;have GW331:=n2_;have GE331:=n3_;clear n0_ n1_ n2_ n3_;clear hb hbox hg;obtain ⟨hcz7_0,hcz7_1,hcz7_2,hcz7_3,hcz7_4,hcz7_5,hcz7_6,hcz7_7,hcz7_8,hcz7_9,hcz7_10,hfz7_0,hfz7_1,hfz7_2,hfz7_3,hfz7_4,hfz7_5,hfz7_6,hfz7_7,hfz7_8,hfz7_9,hfz7_10⟩:=bcells11 BK331.out)|(go_at_call 12;(with_reducible refine (table_Check.calls a0_0 _ _ l0_1 _ _ l0_2 _ _ l0_3 a0_4 a0_5 _ _ l0_6 _ _ l0_7 _ _ l0_8 _ _ l0_9 _ _ l0_10 t332 _ ?side1 ?side2 ?side3 ?side4 ?side5 ?side6 ?side7 ?side8 ?side9 ?side10 ?side11 ?side12 ?side13 ?side14 ?side15 ?side16 A3.out).mono ?_);(case side1=>exact cV (Kd.C_below HR0_1.out HB.out));(case side2=>exact HC0_1.out);(case side3=>exact cV (Kd.C_below HR0_2.out HB.out));(case side4=>exact HC0_2.out);(case side5=>exact cV (Kd.C_below HR0_3.out HB.out));(case side6=>exact HC0_3.out);(case side7=>exact cV (Kd.C_below HR0_6.out HB.out));(case side8=>exact HC0_6.out);(case side9=>exact cV (Kd.C_below HR0_7.out HB.out));(case side10=>exact HC0_7.out);(case side11=>exact cV (Kd.C_below HR0_8.out HB.out));(case side12=>exact HC0_8.out);(case side13=>exact cV (Kd.C_below HR0_9.out HB.out));(case side14=>exact HC0_9.out);(case side15=>exact cV (Kd.C_below HR0_10.out HB.out));(case side16=>exact HC0_10.out);rintro e w8 ⟨rfl,hb⟩;have n0_:=Aside0.mk (blk_below (g:=gb331) (blkV BK331.out) hb);have n1_:=Aside0.mk (below_step (belV1 HB.out GE331.out) hb);clear BK331;clear HB;have BK331:=n0_;have HB:=n1_;clear n0_ n1_;(try clear hb);(try clear hb2);(try clear hk);(try clear hi)))
   repeat (go_quiet (first|((with_reducible refine gate_dst (N:=2) rfl ?_);(try (refine gate_guard (by rfl) ?_;dsimp only));refine box_event ?hg (N:=2) ?hd (cs:=#[.int .i64 a0_0,.slice A0_1 l0_1.length c0_1,.slice A0_2 l0_2.length c0_2,.slice A0_3 l0_3.length c0_3,.bool a0_4,.int .i64 a0_5,.slice A0_6 l0_6.length c0_6,.slice A0_7 l0_7.length c0_7,.slice A0_8 l0_8.length c0_8,.slice A0_9 l0_9.length c0_9,.slice A0_10 l0_10.length c0_10]) (t:=27) ?hr ?_;(case hd=>rfl);(case hg=>rfl);(case hr=>first|(go_simp;done)|(go_simp;rfl));intro gb331 hg w6 hbox hb;have n0_:=Aside0.mk (below_step (belV HB.out) hb);have n1_:=Aside0.mk (hbox);have n2_:=Aside0.mk ((by rw [hg];exact (below_size (belV HB.out)):w.heap.size≤gb331));have n3_:=Aside0.mk ((by rw [hg];exact (below_size (belV HB.out)):w.heap.size≤gb331));clear HB;have HB:=n0_;have BK331:=n1_;have GW331:=n2_;have GE331:=n3_;clear n0_ n1_ n2_ n3_;clear hb hbox hg;obtain ⟨hcz7_0,hcz7_1,hcz7_2,hcz7_3,hcz7_4,hcz7_5,hcz7_6,hcz7_7,hcz7_8,hcz7_9,hcz7_10,hfz7_0,hfz7_1,hfz7_2,hfz7_3,hfz7_4,hfz7_5,hfz7_6,hfz7_7,hfz7_8,hfz7_9,hfz7_10⟩:=bcells11 BK331.out)|(go_at_call 12;(with_reducible refine (table_Check.calls a0_0 _ _ l0_1 _ _ l0_2 _ _ l0_3 a0_4 a0_5 _ _ l0_6 _ _ l0_7 _ _ l0_8 _ _ l0_9 _ _ l0_10 t332 _ ?side1 ?side2 ?side3 ?side4 ?side5 ?side6 ?side7 ?side8 ?side9 ?side10 ?side11 ?side12 ?side13 ?side14 ?side15 ?side16 A3.out).mono ?_);(case side1=>exact cV (Kd.C_below HR0_1.out HB.out));(case side2=>exact HC0_1.out);(case side3=>exact cV (Kd.C_below HR0_2.out HB.out));(case side4=>exact HC0_2.out);(case side5=>exact cV (Kd.C_below HR0_3.out HB.out));(case side6=>exact HC0_3.out);(case side7=>exact cV (Kd.C_below HR0_6.out HB.out));(case side8=>exact HC0_6.out);(case side9=>exact cV (Kd.C_below HR0_7.out HB.out));(case side10=>exact HC0_7.out);(case side11=>exact cV (Kd.C_below HR0_8.out HB.out));(case side12=>exact HC0_8.out);(case side13=>exact cV (Kd.C_below HR0_9.out HB.out));(case side14=>exact HC0_9.out);(case side15=>exact cV (Kd.C_below HR0_10.out HB.out));(case side16=>exact HC0_10.out);rintro e w8 ⟨rfl,hb⟩;have n0_:=Aside0.mk (blk_below (g:=gb331) (blkV BK331.out) hb);have n1_:=Aside0.mk (below_step (belV1 HB.out GE331.out) hb);clear BK331;clear HB;have BK331:=n0_;have HB:=n1_;clear n0_ n1_;(try clear hb);(try clear hb2);(try clear hk);(try clear hi)));go_upto_region 4 with (first|((with_reducible refine gate_dst (N:=2) rfl ?_);(try (refine gate_guard (by rfl) ?_;dsimp only));refine box_event ?hg (N:=2) ?hd (cs:=#[.int .i64 a0_0,.slice A0_1 l0_1.length c0_1,.slice A0_2 l0_2.length c0_2,.slice A0_3 l0_3.length c0_3,.bool a0_4,.int .i64 a0_5,.slice A0_6 l0_6.length c0_6,.slice A0_7 l0_7.length c0_7,.slice A0_8 l0_8.length c0_8,.slice A0_9 l0_9.length c0_9,.slice A0_10 l0_10.length c0_10]) (t:=27) ?hr ?_;(case hd=>rfl);(case hg=>rfl);(case hr=>first|(go_simp;done)|(go_simp;rfl));intro gb331 hg w6 hbox hb;have n0_:=Aside0.mk (below_step (belV HB.out) hb);have n1_:=Aside0.mk (hbox);have n2_:=Aside0.mk ((by rw [hg];exact (below_size (belV HB.out)):w.heap.size≤gb331));have n3_:=Aside0.mk ((by rw [hg];exact (below_size (belV HB.out)):w.heap.size≤gb331));clear HB;have HB:=n0_;have BK331:=n1_;have GW331:=n2_;have GE331:=n3_;clear n0_ n1_ n2_ n3_;clear hb hbox hg;obtain ⟨hcz7_0,hcz7_1,hcz7_2,hcz7_3,hcz7_4,hcz7_5,hcz7_6,hcz7_7,hcz7_8,hcz7_9,hcz7_10,hfz7_0,hfz7_1,hfz7_2,hfz7_3,hfz7_4,hfz7_5,hfz7_6,hfz7_7,hfz7_8,hfz7_9,hfz7_10⟩:=bcells11 BK331.out)|(go_at_call 12;(with_reducible refine (table_Check.calls a0_0 _ _ l0_1 _ _ l0_2 _ _ l0_3 a0_4 a0_5 _ _ l0_6 _ _ l0_7 _ _ l0_8 _ _ l0_9 _ _ l0_10 t332 _ ?side1 ?side2 ?side3 ?side4 ?side5 ?side6 ?side7 ?side8 ?side9 ?side10 ?side11 ?side12 ?side13 ?side14 ?side15 ?side16 A3.out).mono ?_);(case side1=>exact cV (Kd.C_below HR0_1.out HB.out));(case side2=>exact HC0_1.out);(case side3=>exact cV (Kd.C_below HR0_2.out HB.out));(case side4=>exact HC0_2.out);(case side5=>exact cV (Kd.C_below HR0_3.out HB.out));(case side6=>exact HC0_3.out);(case side7=>exact cV (Kd.C_below HR0_6.out HB.out));(case side8=>exact HC0_6.out);(case side9=>exact cV (Kd.C_below HR0_7.out HB.out));(case side10=>exact HC0_7.out);(case side11=>exact cV (Kd.C_below HR0_8.out HB.out));(case side12=>exact HC0_8.out);(case side13=>exact cV (Kd.C_below HR0_9.out HB.out));(case side14=>exact HC0_9.out);(case side15=>exact cV (Kd.C_below HR0_10.out HB.out));(case side16=>exact HC0_10.out);rintro e w8 ⟨rfl,hb⟩;have n0_:=Aside0.mk (blk_below (g:=gb331) (blkV BK331.out) hb);have n1_:=Aside0.mk (below_step (belV1 HB.out GE331.out) hb);clear BK331;clear HB;have BK331:=n0_;have HB:=n1_;clear n0_ n1_;(try clear hb);(try clear hb2);(try clear hk);(try clear hi))))
   (try simp only [Act.put,List.setIfInBounds_toArray,List.set_cons_zero,List.set_cons_succ])
   go_cut [25] (fun v25 wc=>∃ (kq:Nat) (x25_4:Bool),v25=.bool x25_4∧Aside0 (table_Chunk.j0 kq a1 0 0 x25_4 a0_0 l0_1 l0_2 l0_3 a0_4 a0_5 l0_6 l0_7 l0_8 l0_9 l0_10=some (r1,r2,r3,r4,r5))∧Aside0 (kq≤k)∧Aside0 (wc.heap[gb331]?=some (.cells #[.int .i64 a0_0,(.slice A0_1 l0_1.length c0_1),(.slice A0_2 l0_2.length c0_2),(.slice A0_3 l0_3.length c0_3),.bool a0_4,.int .i64 a0_5,(.slice A0_6 l0_6.length c0_6),(.slice A0_7 l0_7.length c0_7),(.slice A0_8 l0_8.length c0_8),(.slice A0_9 l0_9.length c0_9),(.slice A0_10 l0_10.length c0_10)] 27 (0,0)))∧Aside0 (Below w.heap.size w wc))
   case first =>
    have H:=HC5.out;clear HC5
    by_cases c9:a1 < 0
    · rw [if_pos c9] at H
      have c9b0:decide (a1 < 0)=true:=decide_eq_true c9;clear c9
      (first|rw [c9b0]|(simp only [i64_w,i32_w];rw [c9b0])|rw [c9b1]|skip)
      have H':=Aside0.mk H;clear H
      go_wp2
      repeat (go_quiet (fail);try go_wp2)
      go_meet
      case rel=>exact ⟨_,(true),okV,H',⟨by first|omega|exact Nat.le_refl _⟩,⟨blkV BK331.out⟩,⟨belV1 HB.out GE331.out⟩⟩
    rw [if_neg c9] at H
    have c9b0:decide (a1 < 0)=false:=decide_eq_false c9;clear c9
    (first|rw [c9b0]|(simp only [i64_w,i32_w];rw [c9b0])|rw [c9b1]|skip)
    have H':=Aside0.mk H;clear H
    obtain ⟨hcz10_0,hcz10_1,hcz10_2,hcz10_3,hcz10_4,hcz10_5,hcz10_6,hcz10_7,hcz10_8,hcz10_9,hcz10_10,hfz10_0,hfz10_1,hfz10_2,hfz10_3,hfz10_4,hfz10_5,hfz10_6,hfz10_7,hfz10_8,hfz10_9,hfz10_10⟩:=bcells11 BK331.out
    go_wp2
    repeat (go_quiet (fail);try go_wp2)
    go_meet
    case rel=>exact ⟨_,(decide (a1≥(l0_8.length:Int))),okV,H',⟨by first|omega|exact Nat.le_refl _⟩,⟨blkV BK331.out⟩,⟨belV1 HB.out GE331.out⟩⟩
   case rest =>
    clear HC5
    try clear p2;try clear c3;try clear c4;try clear c4b0;try clear c4b1;try clear c9;try clear c9b0;try clear c9b1;try clear hcz10_0 hcz10_1 hcz10_10 hcz10_2 hcz10_3 hcz10_4 hcz10_5 hcz10_6 hcz10_7 hcz10_8 hcz10_9;try clear hcz7_0 hcz7_1 hcz7_10 hcz7_2 hcz7_3 hcz7_4 hcz7_5 hcz7_6 hcz7_7 hcz7_8 hcz7_9;try clear hfz10_0 hfz10_1 hfz10_10 hfz10_2 hfz10_3 hfz10_4 hfz10_5 hfz10_6 hfz10_7 hfz10_8 hfz10_9;try clear hfz7_0 hfz7_1 hfz7_10 hfz7_2 hfz7_3 hfz7_4 hfz7_5 hfz7_6 hfz7_7 hfz7_8 hfz7_9
    obtain ⟨kq,x25_4,rfl,HA,HJ4,BK331,HB⟩:=hcut
    cases kq with
    | zero=>exact absurd HA.out (by simp [table_Chunk.j0])
    | succ kj4 =>
     have H:=HA.out;clear HA
     simp only [table_Chunk.j0] at H
     by_cases c11:x25_4=true
     · subst c11
       have H1:(some (0,0,0,0,1))=some (r1,r2,r3,r4,r5):=by rw [if_pos rfl] at H;exact H
       clear H
       have H:=H1;clear H1
       simp only [Option.some.injEq,Prod.mk.injEq] at H
       obtain ⟨rfl,rfl,rfl,rfl,rfl⟩:=H
       go_wp2
       repeat (go_quiet (fail);try go_wp2)
       refine bodyPost_ret (results_list (rs:=[.tmp 4,.tmp 5,.tmp 6,.tmp 7,.tmp 8]) rfl (by simp) (.tmp (.tmp (.tmp (.tmp (.tmp .nil)))))) rfl ?_
       exact ⟨by first|rfl|(simp [errW_none,errW_some] <;> rfl)|(simp [*,errW_none,errW_some] <;> rfl),by repeat (first|(with_reducible first|exact HB.out|apply below_alloc|apply pw_below_drewN|apply below_drew1|refine below_set ?_ GE331.out)|exact HB.out)⟩
     replace c11:=Bool.eq_false_iff.mpr c11;subst c11
     have H1:(table_Chunk.l0 kj4 a1 0 0 a1 0 a0_0 l0_1 l0_2 l0_3 a0_4 a0_5 l0_6 l0_7 l0_8 l0_9 l0_10)=some (r1,r2,r3,r4,r5):=by rw [if_neg (show ¬ (false=true) by decide)] at H;exact H
     clear H
     have H:=H1;clear H1
     have H':=Aside0.mk H;clear H
     go_wp2
     repeat (go_quiet (fail);try go_wp2)
     go_loopg [4,27] kj4 (fun kq v4 v27 w'=>∃ (x4_2:Int) (x27_2:Int),v4=.int .i64 x4_2∧v27=.int .i64 x27_2∧Aside0 (table_Chunk.l0 kq a1 x4_2 0 a1 x27_2 a0_0 l0_1 l0_2 l0_3 a0_4 a0_5 l0_6 l0_7 l0_8 l0_9 l0_10=some (r1,r2,r3,r4,r5))∧Aside0 (kq≤kj4)∧Aside0 (w'.heap[gb331]?=some (.cells #[.int .i64 a0_0,(.slice A0_1 l0_1.length c0_1),(.slice A0_2 l0_2.length c0_2),(.slice A0_3 l0_3.length c0_3),.bool a0_4,.int .i64 a0_5,(.slice A0_6 l0_6.length c0_6),(.slice A0_7 l0_7.length c0_7),(.slice A0_8 l0_8.length c0_8),(.slice A0_9 l0_9.length c0_9),(.slice A0_10 l0_10.length c0_10)] 27 (0,0)))∧Aside0 (Below w.heap.size w w'))
     case atStart=>exact ⟨(0),(0),okV,okV,H',⟨Nat.le_refl _⟩,⟨blkV BK331.out⟩,⟨belV1 HB.out GE331.out⟩⟩
     case round =>
      clear H'
      try clear c1;try clear p2 p2;try clear c3;try clear c4;try clear c4b0;try clear c4b1;try clear c9;try clear c9b0;try clear c9b1;try clear c11;try clear hcz10_0 hcz10_1 hcz10_10 hcz10_2 hcz10_3 hcz10_4 hcz10_5 hcz10_6 hcz10_7 hcz10_8 hcz10_9;try clear hcz7_0 hcz7_1 hcz7_10 hcz7_2 hcz7_3 hcz7_4 hcz7_5 hcz7_6 hcz7_7 hcz7_8 hcz7_9;try clear hfz10_0 hfz10_1 hfz10_10 hfz10_2 hfz10_3 hfz10_4 hfz10_5 hfz10_6 hfz10_7 hfz10_8 hfz10_9;try clear hfz7_0 hfz7_1 hfz7_10 hfz7_2 hfz7_3 hfz7_4 hfz7_5 hfz7_6 hfz7_7 hfz7_8 hfz7_9
      obtain ⟨x4_2,x27_2,rfl,rfl,HA,HK2,BK331,HB⟩:=hrel
      cases gk with
      | zero=>exact absurd HA.out (by simp [table_Chunk.l0])
      | succ k2 =>
       have H:=HA.out;clear HA
       simp only [table_Chunk.l0] at H
       by_cases c12:x27_2 < a1
       · rw [if_pos c12] at H
         have c12b0:decide (x27_2 < a1)=true:=decide_eq_true c12;clear c12
         replace H:=Option.bind_eq_some_iff.mp H
         obtain ⟨t333,A130,H⟩:=H
         replace H:(table_Chunk.l0 k2 a1 (wrap64 (x4_2+t333)) 0 a1 (wrap64 (x27_2+1)) a0_0 l0_1 l0_2 l0_3 a0_4 a0_5 l0_6 l0_7 l0_8 l0_9 l0_10)=some (r1,r2,r3,r4,r5):=H
         have A13:=Aside0.mk A130;clear A130
         have H':=Aside0.mk H;clear H
         obtain ⟨hcz14_0,hcz14_1,hcz14_2,hcz14_3,hcz14_4,hcz14_5,hcz14_6,hcz14_7,hcz14_8,hcz14_9,hcz14_10,hfz14_0,hfz14_1,hfz14_2,hfz14_3,hfz14_4,hfz14_5,hfz14_6,hfz14_7,hfz14_8,hfz14_9,hfz14_10⟩:=bcells11 BK331.out
         go_wp2_with (first|(go_at_call 70;(with_reducible refine (table_inChunk.calls k2 a0_0 _ _ l0_1 _ _ l0_2 _ _ l0_3 a0_4 a0_5 _ _ l0_6 _ _ l0_7 _ _ l0_8 _ _ l0_9 _ _ l0_10 x27_2 t333 _ ?side1 ?side2 ?side3 ?side4 ?side5 ?side6 ?side7 ?side8 ?side9 ?side10 ?side11 ?side12 ?side13 ?side14 ?side15 ?side16 A13.out).mono ?_);(case side1=>exact cV (Kd.C_below HR0_1.out HB.out));(case side2=>exact HC0_1.out);(case side3=>exact cV (Kd.C_below HR0_2.out HB.out));(case side4=>exact HC0_2.out);(case side5=>exact cV (Kd.C_below HR0_3.out HB.out));(case side6=>exact HC0_3.out);(case side7=>exact cV (Kd.C_below HR0_6.out HB.out));(case side8=>exact HC0_6.out);(case side9=>exact cV (Kd.C_below HR0_7.out HB.out));(case side10=>exact HC0_7.out);(case side11=>exact cV (Kd.C_below HR0_8.out HB.out));(case side12=>exact HC0_8.out);(case side13=>exact cV (Kd.C_below HR0_9.out HB.out));(case side14=>exact HC0_9.out);(case side15=>exact cV (Kd.C_below HR0_10.out HB.out));(case side16=>exact HC0_10.out);rintro e w15 ⟨rfl,hb⟩;have n0_:=Aside0.mk (blk_below (g:=gb331) (blkV BK331.out) hb);have n1_:=Aside0.mk (below_step (belV1 HB.out GE331.out) hb);clear BK331;clear HB;have BK331:=n0_;have HB:=n1_;clear n0_ n1_;(try clear hb);(try clear hb2);(try clear hk);(try clear hi)))
         repeat (go_quiet (first|(go_at_call 70;(with_reducible refine (table_inChunk.calls k2 a0_0 _ _ l0_1 _ _ l0_2 _ _ l0_3 a0_4 a0_5 _ _ l0_6 _ _ l0_7 _ _ l0_8 _ _ l0_9 _ _ l0_10 x27_2 t333 _ ?side1 ?side2 ?side3 ?side4 ?side5 ?side6 ?side7 ?side8 ?side9 ?side10 ?side11 ?side12 ?side13 ?side14 ?side15 ?side16 A13.out).mono ?_);(case side1=>exact cV (Kd.C_below HR0_1.out HB.out));(case side2=>exact HC0_1.out);(case side3=>exact cV (Kd.C_below HR0_2.out HB.out));(case side4=>exact HC0_2.out);(case side5=>exact cV (Kd.C_below HR0_3.out HB.out));(case side6=>exact HC0_3.out);(case side7=>exact cV (Kd.C_below HR0_6.out HB.out));(case side8=>exact HC0_6.out);(case side9=>exact cV (Kd.C_below HR0_7.out HB.out));(case side10=>exact HC0_7.out);(case side11=>exact cV (Kd.C_below HR0_8.out HB.out));(case side12=>exact HC0_8.out);(case side13=>exact cV (Kd.C_below HR0_9.out HB.out));(case side14=>exact HC0_9.out);(case side15=>exact cV (Kd.C_below HR0_10.out HB.out));(case side16=>exact HC0_10.out);rintro e w15 ⟨rfl,hb⟩;have n0_:=Aside0.mk (blk_below (g:=gb331) (blkV BK331.out) hb);have n1_:=Aside0.mk (below_step (belV1 HB.out GE331.out) hb);clear BK331;clear HB;have BK331:=n0_;have HB:=n1_;clear n0_ n1_;(try clear hb);(try clear hb2);(try clear hk);(try clear hi)));try go_wp2_with (first|(go_at_call 70;(with_reducible refine (table_inChunk.calls k2 a0_0 _ _ l0_1 _ _ l0_2 _ _ l0_3 a0_4 a0_5 _ _ l0_6 _ _ l0_7 _ _ l0_8 _ _ l0_9 _ _ l0_10 x27_2 t333 _ ?side1 ?side2 ?side3 ?side4 ?side5 ?side6 ?side7 ?side8 ?side9 ?side10 ?side11 ?side12 ?side13 ?side14 ?side15 ?side16 A13.out).mono ?_);(case side1=>exact cV (Kd.C_below HR0_1.out HB.out));(case side2=>exact HC0_1.out);(case side3=>exact cV (Kd.C_below HR0_2.out HB.out));(case side4=>exact HC0_2.out);(case side5=>exact cV (Kd.C_below HR0_3.out HB.out));(case side6=>exact HC0_3.out);(case side7=>exact cV (Kd.C_below HR0_6.out HB.out));(case side8=>exact HC0_6.out);(case side9=>exact cV (Kd.C_below HR0_7.out HB.out));(case side10=>exact HC0_7.out);(case side11=>exact cV (Kd.C_below HR0_8.out HB.out));(case side12=>exact HC0_8.out);(case side13=>exact cV (Kd.C_below HR0_9.out HB.out));(case side14=>exact HC0_9.out);(case side15=>exact cV (Kd.C_below HR0_10.out HB.out));(case side16=>exact HC0_10.out);rintro e w15 ⟨rfl,hb⟩;have n0_:=Aside0.mk (blk_below (g:=gb331) (blkV BK331.out) hb);have n1_:=Aside0.mk (below_step (belV1 HB.out GE331.out) hb);clear BK331;clear HB;have BK331:=n0_;have HB:=n1_;clear n0_ n1_;(try clear hb);(try clear hb2);(try clear hk);(try clear hi))))
         go_roundg k2
         case measure=>have:=HJ4.out;have:=HK2.out;omega
         case rel=>exact ⟨(wrap64 (x4_2+t333)),(wrap64 (x27_2+1)),okV,okV,H',⟨by have:=HJ4.out;have:=HK2.out;omega⟩,⟨blkV BK331.out⟩,⟨belV1 HB.out GE331.out⟩⟩
       rw [if_neg c12] at H
       have c12b0:decide (x27_2 < a1)=false:=decide_eq_false c12;clear c12
       replace H:=Option.bind_eq_some_iff.mp H
       obtain ⟨t334,A160,H⟩:=H
       replace H:(table_Chunk.l1 k2 a1 x4_2 t334 0 x4_2 a0_0 l0_1 l0_2 l0_3 a0_4 a0_5 l0_6 l0_7 l0_8 l0_9 l0_10)=some (r1,r2,r3,r4,r5):=H
       have A16:=Aside0.mk A160;clear A160
       have H':=Aside0.mk H;clear H
       obtain ⟨hcz17_0,hcz17_1,hcz17_2,hcz17_3,hcz17_4,hcz17_5,hcz17_6,hcz17_7,hcz17_8,hcz17_9,hcz17_10,hfz17_0,hfz17_1,hfz17_2,hfz17_3,hfz17_4,hfz17_5,hfz17_6,hfz17_7,hfz17_8,hfz17_9,hfz17_10⟩:=bcells11 BK331.out
       go_wp2_with (first|(go_at_call 70;(with_reducible refine (table_inChunk.calls k2 a0_0 _ _ l0_1 _ _ l0_2 _ _ l0_3 a0_4 a0_5 _ _ l0_6 _ _ l0_7 _ _ l0_8 _ _ l0_9 _ _ l0_10 a1 t334 _ ?side1 ?side2 ?side3 ?side4 ?side5 ?side6 ?side7 ?side8 ?side9 ?side10 ?side11 ?side12 ?side13 ?side14 ?side15 ?side16 A16.out).mono ?_);(case side1=>exact cV (Kd.C_below HR0_1.out HB.out));(case side2=>exact HC0_1.out);(case side3=>exact cV (Kd.C_below HR0_2.out HB.out));(case side4=>exact HC0_2.out);(case side5=>exact cV (Kd.C_below HR0_3.out HB.out));(case side6=>exact HC0_3.out);(case side7=>exact cV (Kd.C_below HR0_6.out HB.out));(case side8=>exact HC0_6.out);(case side9=>exact cV (Kd.C_below HR0_7.out HB.out));(case side10=>exact HC0_7.out);(case side11=>exact cV (Kd.C_below HR0_8.out HB.out));(case side12=>exact HC0_8.out);(case side13=>exact cV (Kd.C_below HR0_9.out HB.out));(case side14=>exact HC0_9.out);(case side15=>exact cV (Kd.C_below HR0_10.out HB.out));(case side16=>exact HC0_10.out);rintro e w18 ⟨rfl,hb⟩;have n0_:=Aside0.mk (blk_below (g:=gb331) (blkV BK331.out) hb);have n1_:=Aside0.mk (below_step (belV1 HB.out GE331.out) hb);clear BK331;clear HB;have BK331:=n0_;have HB:=n1_;clear n0_ n1_;(try clear hb);(try clear hb2);(try clear hk);(try clear hi)))
       repeat (go_quiet (first|(go_at_call 70;(with_reducible refine (table_inChunk.calls k2 a0_0 _ _ l0_1 _ _ l0_2 _ _ l0_3 a0_4 a0_5 _ _ l0_6 _ _ l0_7 _ _ l0_8 _ _ l0_9 _ _ l0_10 a1 t334 _ ?side1 ?side2 ?side3 ?side4 ?side5 ?side6 ?side7 ?side8 ?side9 ?side10 ?side11 ?side12 ?side13 ?side14 ?side15 ?side16 A16.out).mono ?_);(case side1=>exact cV (Kd.C_below HR0_1.out HB.out));(case side2=>exact HC0_1.out);(case side3=>exact cV (Kd.C_below HR0_2.out HB.out));(case side4=>exact HC0_2.out);(case side5=>exact cV (Kd.C_below HR0_3.out HB.out));(case side6=>exact HC0_3.out);(case side7=>exact cV (Kd.C_below HR0_6.out HB.out));(case side8=>exact HC0_6.out);(case side9=>exact cV (Kd.C_below HR0_7.out HB.out));(case side10=>exact HC0_7.out);(case side11=>exact cV (Kd.C_below HR0_8.out HB.out));(case side12=>exact HC0_8.out);(case side13=>exact cV (Kd.C_below HR0_9.out HB.out));(case side14=>exact HC0_9.out);(case side15=>exact cV (Kd.C_below HR0_10.out HB.out));(case side16=>exact HC0_10.out);rintro e w18 ⟨rfl,hb⟩;have n0_:=Aside0.mk (blk_below (g:=gb331) (blkV BK331.out) hb);have n1_:=Aside0.mk (below_step (belV1 HB.out GE331.out) hb);clear BK331;clear HB;have BK331:=n0_;have HB:=n1_;clear n0_ n1_;(try clear hb);(try clear hb2);(try clear hk);(try clear hi)));try go_wp2_with (first|(go_at_call 70;(with_reducible refine (table_inChunk.calls k2 a0_0 _ _ l0_1 _ _ l0_2 _ _ l0_3 a0_4 a0_5 _ _ l0_6 _ _ l0_7 _ _ l0_8 _ _ l0_9 _ _ l0_10 a1 t334 _ ?side1 ?side2 ?side3 ?side4 ?side5 ?side6 ?side7 ?side8 ?side9 ?side10 ?side11 ?side12 ?side13 ?side14 ?side15 ?side16 A16.out).mono ?_);(case side1=>exact cV (Kd.C_below HR0_1.out HB.out));(case side2=>exact HC0_1.out);(case side3=>exact cV (Kd.C_below HR0_2.out HB.out));(case side4=>exact HC0_2.out);(case side5=>exact cV (Kd.C_below HR0_3.out HB.out));(case side6=>exact HC0_3.out);(case side7=>exact cV (Kd.C_below HR0_6.out HB.out));(case side8=>exact HC0_6.out);(case side9=>exact cV (Kd.C_below HR0_7.out HB.out));(case side10=>exact HC0_7.out);(case side11=>exact cV (Kd.C_below HR0_8.out HB.out));(case side12=>exact HC0_8.out);(case side13=>exact cV (Kd.C_below HR0_9.out HB.out));(case side14=>exact HC0_9.out);(case side15=>exact cV (Kd.C_below HR0_10.out HB.out));(case side16=>exact HC0_10.out);rintro e w18 ⟨rfl,hb⟩;have n0_:=Aside0.mk (blk_below (g:=gb331) (blkV BK331.out) hb);have n1_:=Aside0.mk (below_step (belV1 HB.out GE331.out) hb);clear BK331;clear HB;have BK331:=n0_;have HB:=n1_;clear n0_ n1_;(try clear hb);(try clear hb2);(try clear hk);(try clear hi))))
       go_loopg [7,11] k2 (fun kq v7 v11 w'=>∃ (x7_3:Int) (x11_3:Int),v7=.int .i64 x7_3∧v11=.int .i64 x11_3∧Aside0 (table_Chunk.l1 kq a1 x4_2 t334 x7_3 x11_3 a0_0 l0_1 l0_2 l0_3 a0_4 a0_5 l0_6 l0_7 l0_8 l0_9 l0_10=some (r1,r2,r3,r4,r5))∧Aside0 (kq≤k2)∧Aside0 (w'.heap[gb331]?=some (.cells #[.int .i64 a0_0,(.slice A0_1 l0_1.length c0_1),(.slice A0_2 l0_2.length c0_2),(.slice A0_3 l0_3.length c0_3),.bool a0_4,.int .i64 a0_5,(.slice A0_6 l0_6.length c0_6),(.slice A0_7 l0_7.length c0_7),(.slice A0_8 l0_8.length c0_8),(.slice A0_9 l0_9.length c0_9),(.slice A0_10 l0_10.length c0_10)] 27 (0,0)))∧Aside0 (Below w.heap.size w w'))
       case atStart=>exact ⟨(0),(x4_2),okV,okV,H',⟨Nat.le_refl _⟩,⟨blkV BK331.out⟩,⟨belV1 HB.out GE331.out⟩⟩
       case round =>
        clear H'
        try clear c1;try clear p2 p2;try clear c3;try clear c4;try clear c4b0;try clear c4b1;try clear p6;try clear c9;try clear c9b0;try clear c9b1;try clear c11;try clear c12;try clear c12b0;try clear hcz10_0 hcz10_1 hcz10_10 hcz10_2 hcz10_3 hcz10_4 hcz10_5 hcz10_6 hcz10_7 hcz10_8 hcz10_9;try clear hcz14_0 hcz14_1 hcz14_10 hcz14_2 hcz14_3 hcz14_4 hcz14_5 hcz14_6 hcz14_7 hcz14_8 hcz14_9;try clear hcz17_0 hcz17_1 hcz17_10 hcz17_2 hcz17_3 hcz17_4 hcz17_5 hcz17_6 hcz17_7 hcz17_8 hcz17_9;try clear hcz7_0 hcz7_1 hcz7_10 hcz7_2 hcz7_3 hcz7_4 hcz7_5 hcz7_6 hcz7_7 hcz7_8 hcz7_9;try clear hfz10_0 hfz10_1 hfz10_10 hfz10_2 hfz10_3 hfz10_4 hfz10_5 hfz10_6 hfz10_7 hfz10_8 hfz10_9;try clear hfz14_0 hfz14_1 hfz14_10 hfz14_2 hfz14_3 hfz14_4 hfz14_5 hfz14_6 hfz14_7 hfz14_8 hfz14_9;try clear hfz17_0 hfz17_1 hfz17_10 hfz17_2 hfz17_3 hfz17_4 hfz17_5 hfz17_6 hfz17_7 hfz17_8 hfz17_9;try clear hfz7_0 hfz7_1 hfz7_10 hfz7_2 hfz7_3 hfz7_4 hfz7_5 hfz7_6 hfz7_7 hfz7_8 hfz7_9
        obtain ⟨x7_3,x11_3,rfl,rfl,HA,HK3,BK331,HB⟩:=hrel
        cases gk with
        | zero=>exact absurd HA.out (by simp [table_Chunk.l1])
        | succ k3 =>
         have H:=HA.out;clear HA
         simp only [table_Chunk.l1] at H
         by_cases c19:x11_3 < (wrap64 (x4_2+t334))
         · rw [if_pos c19] at H
           have c19b0:decide (x11_3 < (wrap64 (x4_2+t334)))=true:=decide_eq_true c19;clear c19
           replace H:=Option.bind_eq_some_iff.mp H
           obtain ⟨t335,A200,H⟩:=H
           replace H:(table_Chunk.l1 k3 a1 x4_2 t334 (wrap64 (x7_3+t335)) (wrap64 (x11_3+1)) a0_0 l0_1 l0_2 l0_3 a0_4 a0_5 l0_6 l0_7 l0_8 l0_9 l0_10)=some (r1,r2,r3,r4,r5):=H
           have A20:=Aside0.mk A200;clear A200
           have H':=Aside0.mk H;clear H
           obtain ⟨hcz21_0,hcz21_1,hcz21_2,hcz21_3,hcz21_4,hcz21_5,hcz21_6,hcz21_7,hcz21_8,hcz21_9,hcz21_10,hfz21_0,hfz21_1,hfz21_2,hfz21_3,hfz21_4,hfz21_5,hfz21_6,hfz21_7,hfz21_8,hfz21_9,hfz21_10⟩:=bcells11 BK331.out
           go_wp2_with (first|(go_at_call 74;(with_reducible refine (table_size.calls a0_0 _ _ l0_1 _ _ l0_2 _ _ l0_3 a0_4 a0_5 _ _ l0_6 _ _ l0_7 _ _ l0_8 _ _ l0_9 _ _ l0_10 x11_3 t335 _ ?side1 ?side2 ?side3 ?side4 ?side5 ?side6 ?side7 ?side8 ?side9 ?side10 ?side11 ?side12 ?side13 ?side14 ?side15 ?side16 A20.out).mono ?_);(case side1=>exact cV (Kd.C_below HR0_1.out HB.out));(case side2=>exact HC0_1.out);(case side3=>exact cV (Kd.C_below HR0_2.out HB.out));(case side4=>exact HC0_2.out);(case side5=>exact cV (Kd.C_below HR0_3.out HB.out));(case side6=>exact HC0_3.out);(case side7=>exact cV (Kd.C_below HR0_6.out HB.out));(case side8=>exact HC0_6.out);(case side9=>exact cV (Kd.C_below HR0_7.out HB.out));(case side10=>exact HC0_7.out);(case side11=>exact cV (Kd.C_below HR0_8.out HB.out));(case side12=>exact HC0_8.out);(case side13=>exact cV (Kd.C_below HR0_9.out HB.out));(case side14=>exact HC0_9.out);(case side15=>exact cV (Kd.C_below HR0_10.out HB.out));(case side16=>exact HC0_10.out);rintro e w22 ⟨rfl,hb⟩;have n0_:=Aside0.mk (blk_below (g:=gb331) (blkV BK331.out) hb);have n1_:=Aside0.mk (below_step (belV1 HB.out GE331.out) hb);clear BK331;clear HB;have BK331:=n0_;have HB:=n1_;clear n0_ n1_;(try clear hb);(try clear hb2);(try clear hk);(try clear hi)))
           repeat (go_quiet (first|(go_at_call 74;(with_reducible refine (table_size.calls a0_0 _ _ l0_1 _ _ l0_2 _ _ l0_3 a0_4 a0_5 _ _ l0_6 _ _ l0_7 _ _ l0_8 _ _ l0_9 _ _ l0_10 x11_3 t335 _ ?side1 ?side2 ?side3 ?side4 ?side5 ?side6 ?side7 ?side8 ?side9 ?side10 ?side11 ?side12 ?side13 ?side14 ?side15 ?side16 A20.out).mono ?_);(case side1=>exact cV (Kd.C_below HR0_1.out HB.out));(case side2=>exact HC0_1.out);(case side3=>exact cV (Kd.C_below HR0_2.out HB.out));(case side4=>exact HC0_2.out);(case side5=>exact cV (Kd.C_below HR0_3.out HB.out));(case side6=>exact HC0_3.out);(case side7=>exact cV (Kd.C_below HR0_6.out HB.out));(case side8=>exact HC0_6.out);(case side9=>exact cV (Kd.C_below HR0_7.out HB.out));(case side10=>exact HC0_7.out);(case side11=>exact cV (Kd.C_below HR0_8.out HB.out));(case side12=>exact HC0_8.out);(case side13=>exact cV (Kd.C_below HR0_9.out HB.out));(case side14=>exact HC0_9.out);(case side15=>exact cV (Kd.C_below HR0_10.out HB.out));(case side16=>exact HC0_10.out);rintro e w22 ⟨rfl,hb⟩;have n0_:=Aside0.mk (blk_below (g:=gb331) (blkV BK331.out) hb);have n1_:=Aside0.mk (below_step (belV1 HB.out GE331.out) hb);clear BK331;clear HB;have BK331:=n0_;have HB:=n1_;clear n0_ n1_;(try clear hb);(try clear hb2);(try clear hk);(try clear hi)));try go_wp2_with (first|(go_at_call 74;(with_reducible refine (table_size.calls a0_0 _ _ l0_1 _ _ l0_2 _ _ l0_3 a0_4 a0_5 _ _ l0_6 _ _ l0_7 _ _ l0_8 _ _ l0_9 _ _ l0_10 x11_3 t335 _ ?side1 ?side2 ?side3 ?side4 ?side5 ?side6 ?side7 ?side8 ?side9 ?side10 ?side11 ?side12 ?side13 ?side14 ?side15 ?side16 A20.out).mono ?_);(case side1=>exact cV (Kd.C_below HR0_1.out HB.out));(case side2=>exact HC0_1.out);(case side3=>exact cV (Kd.C_below HR0_2.out HB.out));(case side4=>exact HC0_2.out);(case side5=>exact cV (Kd.C_below HR0_3.out HB.out));(case side6=>exact HC0_3.out);(case side7=>exact cV (Kd.C_below HR0_6.out HB.out));(case side8=>exact HC0_6.out);(case side9=>exact cV (Kd.C_below HR0_7.out HB.out));(case side10=>exact HC0_7.out);(case side11=>exact cV (Kd.C_below HR0_8.out HB.out));(case side12=>exact HC0_8.out);(case side13=>exact cV (Kd.C_below HR0_9.out HB.out));(case side14=>exact HC0_9.out);(case side15=>exact cV (Kd.C_below HR0_10.out HB.out));(case side16=>exact HC0_10.out);rintro e w22 ⟨rfl,hb⟩;have n0_:=Aside0.mk (blk_below (g:=gb331) (blkV BK331.out) hb);have n1_:=Aside0.mk (below_step (belV1 HB.out GE331.out) hb);clear BK331;clear HB;have BK331:=n0_;have HB:=n1_;clear n0_ n1_;(try clear hb);(try clear hb2);(try clear hk);(try clear hi))))
           go_roundg k3
           case measure=>have:=HJ4.out;have:=HK2.out;have:=HK3.out;omega
           case rel=>exact ⟨(wrap64 (x7_3+t335)),(wrap64 (x11_3+1)),okV,okV,H',⟨by have:=HJ4.out;have:=HK2.out;have:=HK3.out;omega⟩,⟨blkV BK331.out⟩,⟨belV1 HB.out GE331.out⟩⟩
         rw [if_neg c19] at H
         have c19b0:decide (x11_3 < (wrap64 (x4_2+t334)))=false:=decide_eq_false c19;clear c19
         by_cases c23:0≤a1
         · rw [if_pos c23] at H
           have c23b0:decide (0≤a1)=true:=decide_eq_true c23;clear c23
           by_cases c24:a1 < (l0_8.length:Int)
           · rw [if_pos c24] at H
             have c24b0:decide (a1 < (l0_8.length:Int))=true:=decide_eq_true c24;clear c24
             simp only [Option.some.injEq,Prod.mk.injEq] at H
             obtain ⟨rfl,rfl,rfl,rfl,rfl⟩:=H
             obtain ⟨hcz25_0,hcz25_1,hcz25_2,hcz25_3,hcz25_4,hcz25_5,hcz25_6,hcz25_7,hcz25_8,hcz25_9,hcz25_10,hfz25_0,hfz25_1,hfz25_2,hfz25_3,hfz25_4,hfz25_5,hfz25_6,hfz25_7,hfz25_8,hfz25_9,hfz25_10⟩:=bcells11 BK331.out
             have p336:0≤(a1:Int):=of_decide_eq_true asV
             have q336:a1 < (l0_8.length:Int):=of_decide_eq_true asV
             obtain ⟨ad336,e336,hx336_0⟩:=Kd.at_int HR0_8.out a1 p336 q336
             cases e336
             replace hx336_0:=(HB.out.cell (World.block_lt_of_cell? w _ hx336_0)).trans hx336_0
             replace p336:=eq_true p336
             replace q336:=eq_true q336
             go_wp2
             repeat (go_quiet (fail);try go_wp2)
             refine bodyPost_ret (results_list (rs:=[.tmp 4,.tmp 5,.tmp 6,.tmp 7,.tmp 8]) rfl (by simp) (.tmp (.tmp (.tmp (.tmp (.tmp .nil)))))) rfl ?_
             exact ⟨by first|rfl|(simp [errW_none,errW_some] <;> rfl)|(simp [*,errW_none,errW_some] <;> rfl),by repeat (first|(with_reducible first|exact HB.out|apply below_alloc|apply pw_below_drewN|apply below_drew1|refine below_set ?_ GE331.out)|exact HB.out)⟩
           rw [if_neg c24] at H
           exact absurd H (by simp)
         rw [if_neg c23] at H
         exact absurd H (by simp)
 rw [if_neg c4] at H
 have c4b0:(t332 == 0)=false:=beq_eq_false_iff_ne.mpr c4
 have c4b1:(t332 != 0)=true:=bne_iff_ne.mpr c4
 simp only [Option.some.injEq,Prod.mk.injEq] at H
 obtain ⟨rfl,rfl,rfl,rfl,rfl⟩:=H
 go_enter Try.func35,Try.ntmps35
 go_wp2_with (first|((with_reducible refine gate_dst (N:=2) rfl ?_);(try (refine gate_guard (by rfl) ?_;dsimp only));refine box_event ?hg (N:=2) ?hd (cs:=#[.int .i64 a0_0,.slice A0_1 l0_1.length c0_1,.slice A0_2 l0_2.length c0_2,.slice A0_3 l0_3.length c0_3,.bool a0_4,.int .i64 a0_5,.slice A0_6 l0_6.length c0_6,.slice A0_7 l0_7.length c0_7,.slice A0_8 l0_8.length c0_8,.slice A0_9 l0_9.length c0_9,.slice A0_10 l0_10.length c0_10]) (t:=27) ?hr ?_;(case hd=>rfl);(case hg=>rfl);(case hr=>first|(go_simp;done)|(go_simp;rfl));intro gb331 hg w26 hbox hb;have n0_:=Aside0.mk (below_step (belV HB.out) hb);have n1_:=Aside0.mk (hbox);have n2_:=Aside0.mk ((by rw [hg];exact (below_size (belV HB.out)):w.heap.size≤gb331));have n3_:=Aside0.mk ((by rw [hg];exact (below_size (belV HB.out)):w.heap.size≤gb331));clear HB;have HB:=n0_;have BK331:=n1_;have GW331:=n2_;have GE331:=n3_;clear n0_ n1_ n2_ n3_;clear hb hbox hg;obtain ⟨hcz27_0,hcz27_1,hcz27_2,hcz27_3,hcz27_4,hcz27_5,hcz27_6,hcz27_7,hcz27_8,hcz27_9,hcz27_10,hfz27_0,hfz27_1,hfz27_2,hfz27_3,hfz27_4,hfz27_5,hfz27_6,hfz27_7,hfz27_8,hfz27_9,hfz27_10⟩:=bcells11 BK331.out)|(go_at_call 12;(with_reducible refine (table_Check.calls a0_0 _ _ l0_1 _ _ l0_2 _ _ l0_3 a0_4 a0_5 _ _ l0_6 _ _ l0_7 _ _ l0_8 _ _ l0_9 _ _ l0_10 t332 _ ?side1 ?side2 ?side3 ?side4 ?side5 ?side6 ?side7 ?side8 ?side9 ?side10 ?side11 ?side12 ?side13 ?side14 ?side15 ?side16 A3.out).mono ?_);(case side1=>exact cV (Kd.C_below HR0_1.out HB.out));(case side2=>exact HC0_1.out);(case side3=>exact cV (Kd.C_below HR0_2.out HB.out));(case side4=>exact HC0_2.out);(case side5=>exact cV (Kd.C_below HR0_3.out HB.out));(case side6=>exact HC0_3.out);(case side7=>exact cV (Kd.C_below HR0_6.out HB.out));(case side8=>exact HC0_6.out);(case side9=>exact cV (Kd.C_below HR0_7.out HB.out));(case side10=>exact HC0_7.out);(case side11=>exact cV (Kd.C_below HR0_8.out HB.out));(case side12=>exact HC0_8.out);(case side13=>exact cV (Kd.C_below HR0_9.out HB.out));(case side14=>exact HC0_9.out);(case side15=>exact cV (Kd.C_below HR0_10.out HB.out));(case side16=>exact HC0_10.out);rintro e w28 ⟨rfl,hb⟩;have n0_:=Aside0.mk (blk_below (g:=gb331) (blkV BK331.out) hb);have n1_:=Aside0.mk (below_step (belV1 HB.out GE331.out) hb);clear BK331;clear HB;have BK331:=n0_;have HB:=n1_;clear n0_ n1_;(try clear hb);(try clear hb2);(try clear hk);(try clear hi)))
 repeat (go_quiet (first|((with_reducible refine gate_dst (N:=2) rfl ?_);(try (refine gate_guard (by rfl) ?_;dsimp only));refine box_event ?hg (N:=2) ?hd (cs:=#[.int .i64 a0_0,.slice A0_1 l0_1.length c0_1,.slice A0_2 l0_2.length c0_2,.slice A0_3 l0_3.length c0_3,.bool a0_4,.int .i64 a0_5,.slice A0_6 l0_6.length c0_6,.slice A0_7 l0_7.length c0_7,.slice A0_8 l0_8.length c0_8,.slice A0_9 l0_9.length c0_9,.slice A0_10 l0_10.length c0_10]) (t:=27) ?hr ?_;(case hd=>rfl);(case hg=>rfl);(case hr=>first|(go_simp;done)|(go_simp;rfl));intro gb331 hg w26 hbox hb;have n0_:=Aside0.mk (below_step (belV HB.out) hb);have n1_:=Aside0.mk (hbox);have n2_:=Aside0.mk ((by rw [hg];exact (below_size (belV HB.out)):w.heap.size≤gb331));have n3_:=Aside0.mk ((by rw [hg];exact (below_size (belV HB.out)):w.heap.size≤gb331));clear HB;have HB:=n0_;have BK331:=n1_;have GW331:=n2_;have GE331:=n3_;clear n0_ n1_ n2_ n3_;clear hb hbox hg;obtain ⟨hcz27_0,hcz27_1,hcz27_2,hcz27_3,hcz27_4,hcz27_5,hcz27_6,hcz27_7,hcz27_8,hcz27_9,hcz27_10,hfz27_0,hfz27_1,hfz27_2,hfz27_3,hfz27_4,hfz27_5,hfz27_6,hfz27_7,hfz27_8,hfz27_9,hfz27_10⟩:=bcells11 BK331.out)|(go_at_call 12;(with_reducible refine (table_Check.calls a0_0 _ _ l0_1 _ _ l0_2 _ _ l0_3 a0_4 a0_5 _ _ l0_6 _ _ l0_7 _ _ l0_8 _ _ l0_9 _ _ l0_10 t332 _ ?side1 ?side2 ?side3 ?side4 ?side5 ?side6 ?side7 ?side8 ?side9 ?side10 ?side11 ?side12 ?side13 ?side14 ?side15 ?side16 A3.out).mono ?_);(case side1=>exact cV (Kd.C_below HR0_1.out HB.out));(case side2=>exact HC0_1.out);(case side3=>exact cV (Kd.C_below HR0_2.out HB.out));(case side4=>exact HC0_2.out);(case side5=>exact cV (Kd.C_below HR0_3.out HB.out));(case side6=>exact HC0_3.out);(case side7=>exact cV (Kd.C_below HR0_6.out HB.out));(case side8=>exact HC0_6.out);(case side9=>exact cV (Kd.C_below HR0_7.out HB.out));(case side10=>exact HC0_7.out);(case side11=>exact cV (Kd.C_below HR0_8.out HB.out));(case side12=>exact HC0_8.out);(case side13=>exact cV (Kd.C_below HR0_9.out HB.out));(case side14=>exact HC0_9.out);(case side15=>exact cV (Kd.C_below HR0_10.out HB.out));(case side16=>exact HC0_10.out);rintro e w28 ⟨rfl,hb⟩;have n0_:=Aside0.mk (blk_below (g:=gb331) (blkV BK331.out) hb);have n1_:=Aside0.mk (below_step (belV1 HB.out GE331.out) hb);clear BK331;clear HB;have BK331:=n0_;have HB:=n1_;clear n0_ n1_;(try clear hb);(try clear hb2);(try clear hk);(try clear hi)));try go_wp2_with (first|((with_reducible refine gate_dst (N:=2) rfl ?_);(try (refine gate_guard (by rfl) ?_;dsimp only));refine box_event ?hg (N:=2) ?hd (cs:=#[.int .i64 a0_0,.slice A0_1 l0_1.length c0_1,.slice A0_2 l0_2.length c0_2,.slice A0_3 l0_3.length c0_3,.bool a0_4,.int .i64 a0_5,.slice A0_6 l0_6.length c0_6,.slice A0_7 l0_7.length c0_7,.slice A0_8 l0_8.length c0_8,.slice A0_9 l0_9.length c0_9,.slice A0_10 l0_10.length c0_10]) (t:=27) ?hr ?_;(case hd=>rfl);(case hg=>rfl);(case hr=>first|(go_simp;done)|(go_simp;rfl));intro gb331 hg w26 hbox hb;have n0_:=Aside0.mk (below_step (belV HB.out) hb);have n1_:=Aside0.mk (hbox);have n2_:=Aside0.mk ((by rw [hg];exact (below_size (belV HB.out)):w.heap.size≤gb331));have n3_:=Aside0.mk ((by rw [hg];exact (below_size (belV HB.out)):w.heap.size≤gb331));clear HB;have HB:=n0_;have BK331:=n1_;have GW331:=n2_;have GE331:=n3_;clear n0_ n1_ n2_ n3_;clear hb hbox hg;obtain ⟨hcz27_0,hcz27_1,hcz27_2,hcz27_3,hcz27_4,hcz27_5,hcz27_6,hcz27_7,hcz27_8,hcz27_9,hcz27_10,hfz27_0,hfz27_1,hfz27_2,hfz27_3,hfz27_4,hfz27_5,hfz27_6,hfz27_7,hfz27_8,hfz27_9,hfz27_10⟩:=bcells11 BK331.out)|(go_at_call 12;(with_reducible refine (table_Check.calls a0_0 _ _ l0_1 _ _ l0_2 _ _ l0_3 a0_4 a0_5 _ _ l0_6 _ _ l0_7 _ _ l0_8 _ _ l0_9 _ _ l0_10 t332 _ ?side1 ?side2 ?side3 ?side4 ?side5 ?side6 ?side7 ?side8 ?side9 ?side10 ?side11 ?side12 ?side13 ?side14 ?side15 ?side16 A3.out).mono ?_);(case side1=>exact cV (Kd.C_below HR0_1.out HB.out));(case side2=>exact HC0_1.out);(case side3=>exact cV (Kd.C_below HR0_2.out HB.out));(case side4=>exact HC0_2.out);(case side5=>exact cV (Kd.C_below HR0_3.out HB.out));(case side6=>exact HC0_3.out);(case side7=>exact cV (Kd.C_below HR0_6.out HB.out));(case side8=>exact HC0_6.out);(case side9=>exact cV (Kd.C_below HR0_7.out HB.out));(case side10=>exact HC0_7.out);(case side11=>exact cV (Kd.C_below HR0_8.out HB.out));(case side12=>exact HC0_8.out);(case side13=>exact cV (Kd.C_below HR0_9.out HB.out));(case side14=>exact HC0_9.out);(case side15=>exact cV (Kd.C_below HR0_10.out HB.out));(case side16=>exact HC0_10.out);rintro e w28 ⟨rfl,hb⟩;have n0_:=Aside0.mk (blk_below (g:=gb331) (blkV BK331.out) hb);have n1_:=Aside0.mk (below_step (belV1 HB.out GE331.out) hb);clear BK331;clear HB;have BK331:=n0_;have HB:=n1_;clear n0_ n1_;(try clear hb);(try clear hb2);(try clear hk);(try clear hi))))
 refine bodyPost_ret (results_list (rs:=[.tmp 4,.tmp 5,.tmp 6,.tmp 7,.tmp 8]) rfl (by simp) (.tmp (.tmp (.tmp (.tmp (.tmp .nil)))))) rfl ?_
 exact ⟨by first|rfl|(simp [errW_none,errW_some] <;> rfl)|(simp [*,errW_none,errW_some] <;> rfl),by repeat (first|(with_reducible first|exact HB.out|apply below_alloc|apply pw_below_drewN|apply below_drew1|refine below_set ?_ GE331.out)|exact HB.out)⟩

end Go.Proofs.Ytmbhafgnmdfjhaa.QTab
