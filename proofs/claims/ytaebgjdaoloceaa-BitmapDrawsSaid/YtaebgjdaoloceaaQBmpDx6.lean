/- Part of a proof: functions of the program as Lean functions, and that the machine's calls come to them. Made by a program of this session (wip/mp). -/
import Derived.Test.YtaebgjdaoloceaaQBmpDx0
import Derived.Test.YtaebgjdaoloceaaQBmpDx2
import Derived.Test.YtaebgjdaoloceaaQBmpDx5
namespace Go.Proofs.Ytaebgjdaoloceaa.QBmpD
open Go.RowKit Go.Proofs.YtaebgjdaoloceaaV Go.Proofs.YtaebgjdaoloceaaW.PrintWords Go.Proofs.YtaebgjdaoloceaaW.PrintLast Go.Proofs.YtaebgjdaoloceaaW.PrintMore
attribute [local go_sem] max2_int min2_int max_two min_two max_three min_three max_four min_four   -- for this text's walks alone
set_option linter.unusedVariables false
set_option linter.unusedSimpArgs false

/-! ### dioramaref19_Draw: function 31 -/
mutual
def dioramaref19_Draw.j1 : Nat → Int → Int → List Int → List Int → Bool → List Int → List (S91) → Int → Int → List Int → List Int → Option (Int × Int × List Int × List Int × Int)
 | 0,_,_,_,_,_,_,_,_,_,_,_=>none
 | k+1,x279000,x279001,x279002,x279003,x280000,x280001,x280002,x290000,x290001,x290002,x290003=>if (x280001.length:Int) > 0 then ((dioramaref00_CopyInts.f k x280001).bind fun t291=>(dioramaref19_Draw.j2 k x279000 x279001 x279002 x279003 x280000 x280001 x280002 x290000 x290001 t291 x290003)) else (dioramaref19_Draw.j2 k x279000 x279001 x279002 x279003 x280000 x280001 x280002 x290000 x290001 x290002 x290003)
def dioramaref19_Draw.j2 : Nat → Int → Int → List Int → List Int → Bool → List Int → List (S91) → Int → Int → List Int → List Int → Option (Int × Int × List Int × List Int × Int)
 | 0,_,_,_,_,_,_,_,_,_,_,_=>none
 | k+1,x279000,x279001,x279002,x279003,x280000,x280001,x280002,x290000,x290001,x290002,x290003=>dioramaref19_Draw.l1 k 0 x279000 x279001 x279002 x279003 x280000 x280001 x280002 x290000 x290001 x290002 x290003
def dioramaref19_Draw.l1 : Nat → Int → Int → Int → List Int → List Int → Bool → List Int → List (S91) → Int → Int → List Int → List Int → Option (Int × Int × List Int × List Int × Int)
 | 0,_,_,_,_,_,_,_,_,_,_,_,_=>none
 | k+1,x9,x279000,x279001,x279002,x279003,x280000,x280001,x280002,x290000,x290001,x290002,x290003=>if x9 < (x280002.length:Int) then (if 0≤x9 then (dioramaref19_Draw.l2 k x9 0 x279000 x279001 x279002 x279003 x280000 x280001 x280002 x290000 x290001 x290002 x290003 ((rd_T91 x280002 x9).f0) ((rd_T91 x280002 x9).f1) ((rd_T91 x280002 x9).f2) ((rd_T91 x280002 x9).f3) ((rd_T91 x280002 x9).f4)) else (none)) else (some (x290000,x290001,x290002,x290003,0))
def dioramaref19_Draw.l2 : Nat → Int → Int → Int → Int → List Int → List Int → Bool → List Int → List (S91) → Int → Int → List Int → List Int → Int → Int → Int → Int → List Int → Option (Int × Int × List Int × List Int × Int)
 | 0,_,_,_,_,_,_,_,_,_,_,_,_,_,_,_,_,_,_=>none
 | k+1,x9,x11,x279000,x279001,x279002,x279003,x280000,x280001,x280002,x290000,x290001,x290002,x290003,x296000,x296001,x296002,x296003,x296004=>if x11 < (x296004.length:Int) then (if x296002=0 then (none) else (if (wrap64 (x296000+(Int.tmod x11 x296002))) < x279000 then (if (wrap64 (x296001+(wrap64 (Int.tdiv x11 x296002)))) < x279001 then (if 0≤x11 then (if 0≤(wrap64 ((wrap64 ((wrap64 (x296001+(wrap64 (Int.tdiv x11 x296002))))*x279000))+(wrap64 (x296000+(Int.tmod x11 x296002))))) then (if (wrap64 ((wrap64 ((wrap64 (x296001+(wrap64 (Int.tdiv x11 x296002))))*x279000))+(wrap64 (x296000+(Int.tmod x11 x296002))))) < (x290003.length:Int) then (dioramaref19_Draw.l2 k x9 (wrap64 (x11+1)) x279000 x279001 x279002 x279003 x280000 x280001 x280002 x290000 x290001 x290002 (x290003.set ((wrap64 ((wrap64 ((wrap64 (x296001+(wrap64 (Int.tdiv x11 x296002))))*x279000))+(wrap64 (x296000+(Int.tmod x11 x296002))))):Int).toNat (rd x296004 x11)) x296000 x296001 x296002 x296003 x296004) else (none)) else (none)) else (none)) else (dioramaref19_Draw.l2 k x9 (wrap64 (x11+1)) x279000 x279001 x279002 x279003 x280000 x280001 x280002 x290000 x290001 x290002 x290003 x296000 x296001 x296002 x296003 x296004)) else (dioramaref19_Draw.l2 k x9 (wrap64 (x11+1)) x279000 x279001 x279002 x279003 x280000 x280001 x280002 x290000 x290001 x290002 x290003 x296000 x296001 x296002 x296003 x296004))) else (dioramaref19_Draw.l1 k (wrap64 (x9+1)) x279000 x279001 x279002 x279003 x280000 x280001 x280002 x290000 x290001 x290002 x290003)
def dioramaref19_Draw.l0 : Nat → Int → Int → Int → List Int → List Int → Bool → List Int → List (S91) → Int → Int → List Int → List Int → Option (Int × Int × List Int × List Int × Int)
 | 0,_,_,_,_,_,_,_,_,_,_,_,_=>none
 | k+1,x8,x279000,x279001,x279002,x279003,x280000,x280001,x280002,x290000,x290001,x290002,x290003=>if x8 < (x290003.length:Int) then (if 0≤x8 then (dioramaref19_Draw.l0 k (wrap64 (x8+1)) x279000 x279001 x279002 x279003 x280000 x280001 x280002 x290000 x290001 x290002 (x290003.set (x8:Int).toNat (-1))) else (none)) else (dioramaref19_Draw.j1 k x279000 x279001 x279002 x279003 x280000 x280001 x280002 x290000 x290001 x290002 x290003)
end
def dioramaref19_Draw.f (k : Nat) (a0_0 : Int) (a0_1 : Int) (l0_2 : List Int) (l0_3 : List Int) (a1_0 : Bool) (l1_1 : List Int) (l1_2 : List (S91)) : Option (Int × Int × List Int × List Int × Int) := (dioramaref19_Valid.f k a0_0 a0_1 l0_2 l0_3).bind fun t281 => (if t281 = true then ((dioramaref19_Check.f k a1_0 l1_1 l1_2).bind fun t282 => (if t282 = 0 then ((dioramaref00_CopyInts.f k l0_2).bind fun t283 => ((dioramaref00_CopyInts.f k l0_3).bind fun t286 => (if a1_0 = true then (dioramaref19_Draw.l0 k 0 a0_0 a0_1 l0_2 l0_3 a1_0 l1_1 l1_2 a0_0 a0_1 t283 t286) else (dioramaref19_Draw.j1 k a0_0 a0_1 l0_2 l0_3 a1_0 l1_1 l1_2 a0_0 a0_1 t283 t286)))) else (some (0, 0, ([] : List Int), ([] : List Int), t282)))) else (some (0, 0, ([] : List Int), ([] : List Int), 4)))
theorem dioramaref19_Draw.mono_l:∀ k,(∀ y0 y1 y2 y3 y4 y5 y6 y7 y8 y9 y10,LeO (dioramaref19_Draw.j1 k y0 y1 y2 y3 y4 y5 y6 y7 y8 y9 y10) (dioramaref19_Draw.j1 (k+1) y0 y1 y2 y3 y4 y5 y6 y7 y8 y9 y10))∧(∀ y0 y1 y2 y3 y4 y5 y6 y7 y8 y9 y10,LeO (dioramaref19_Draw.j2 k y0 y1 y2 y3 y4 y5 y6 y7 y8 y9 y10) (dioramaref19_Draw.j2 (k+1) y0 y1 y2 y3 y4 y5 y6 y7 y8 y9 y10))∧(∀ y0 y1 y2 y3 y4 y5 y6 y7 y8 y9 y10 y11,LeO (dioramaref19_Draw.l1 k y0 y1 y2 y3 y4 y5 y6 y7 y8 y9 y10 y11) (dioramaref19_Draw.l1 (k+1) y0 y1 y2 y3 y4 y5 y6 y7 y8 y9 y10 y11))∧(∀ y0 y1 y2 y3 y4 y5 y6 y7 y8 y9 y10 y11 y12 y13 y14 y15 y16 y17,LeO (dioramaref19_Draw.l2 k y0 y1 y2 y3 y4 y5 y6 y7 y8 y9 y10 y11 y12 y13 y14 y15 y16 y17) (dioramaref19_Draw.l2 (k+1) y0 y1 y2 y3 y4 y5 y6 y7 y8 y9 y10 y11 y12 y13 y14 y15 y16 y17))∧(∀ y0 y1 y2 y3 y4 y5 y6 y7 y8 y9 y10 y11,LeO (dioramaref19_Draw.l0 k y0 y1 y2 y3 y4 y5 y6 y7 y8 y9 y10 y11) (dioramaref19_Draw.l0 (k+1) y0 y1 y2 y3 y4 y5 y6 y7 y8 y9 y10 y11))
 | 0=>⟨fun _ _ _ _ _ _ _ _ _ _ _ r h=>by simp [dioramaref19_Draw.j1] at h,fun _ _ _ _ _ _ _ _ _ _ _ r h=>by simp [dioramaref19_Draw.j2] at h,fun _ _ _ _ _ _ _ _ _ _ _ _ r h=>by simp [dioramaref19_Draw.l1] at h,fun _ _ _ _ _ _ _ _ _ _ _ _ _ _ _ _ _ _ r h=>by simp [dioramaref19_Draw.l2] at h,fun _ _ _ _ _ _ _ _ _ _ _ _ r h=>by simp [dioramaref19_Draw.l0] at h⟩
 | k+1=>by
  obtain ⟨ih0,ih1,ih2,ih3,ih4⟩:=dioramaref19_Draw.mono_l k
  refine ⟨?_,?_,?_,?_,?_⟩
  · intro y0 y1 y2 y3 y4 y5 y6 y7 y8 y9 y10
    unfold dioramaref19_Draw.j1
    repeat' first
    | (with_reducible exact ih0 _ _ _ _ _ _ _ _ _ _ _)
    | (with_reducible exact ih1 _ _ _ _ _ _ _ _ _ _ _)
    | (with_reducible exact ih2 _ _ _ _ _ _ _ _ _ _ _ _)
    | (with_reducible exact ih3 _ _ _ _ _ _ _ _ _ _ _ _ _ _ _ _ _ _)
    | (with_reducible exact ih4 _ _ _ _ _ _ _ _ _ _ _ _)
    | (with_reducible exact dioramaref00_CopyInts.mono _ _)
    | (with_reducible exact dioramaref19_Check.mono _ _ _ _)
    | (with_reducible exact dioramaref19_Valid.mono _ _ _ _ _)
    | (with_reducible exact LeO.refl _)
    | (with_reducible exact LeO.none _)
    | (with_reducible refine LeO.ite ?_ ?_)
    | (with_reducible refine LeO.bind ?_ (fun _=>?_))
    | exact LeO.none _
    | refine LeO.ite ?_ ?_
    | refine LeO.bind ?_ (fun _=>?_)
  · intro y0 y1 y2 y3 y4 y5 y6 y7 y8 y9 y10
    unfold dioramaref19_Draw.j2
    repeat' first
    | (with_reducible exact ih0 _ _ _ _ _ _ _ _ _ _ _)
    | (with_reducible exact ih1 _ _ _ _ _ _ _ _ _ _ _)
    | (with_reducible exact ih2 _ _ _ _ _ _ _ _ _ _ _ _)
    | (with_reducible exact ih3 _ _ _ _ _ _ _ _ _ _ _ _ _ _ _ _ _ _)
    | (with_reducible exact ih4 _ _ _ _ _ _ _ _ _ _ _ _)
    | (with_reducible exact dioramaref00_CopyInts.mono _ _)
    | (with_reducible exact dioramaref19_Check.mono _ _ _ _)
    | (with_reducible exact dioramaref19_Valid.mono _ _ _ _ _)
    | (with_reducible exact LeO.refl _)
    | (with_reducible exact LeO.none _)
    | (with_reducible refine LeO.ite ?_ ?_)
    | (with_reducible refine LeO.bind ?_ (fun _=>?_))
    | exact LeO.none _
    | refine LeO.ite ?_ ?_
    | refine LeO.bind ?_ (fun _=>?_)
  · intro y0 y1 y2 y3 y4 y5 y6 y7 y8 y9 y10 y11
    unfold dioramaref19_Draw.l1
    repeat' first
    | (with_reducible exact ih0 _ _ _ _ _ _ _ _ _ _ _)
    | (with_reducible exact ih1 _ _ _ _ _ _ _ _ _ _ _)
    | (with_reducible exact ih2 _ _ _ _ _ _ _ _ _ _ _ _)
    | (with_reducible exact ih3 _ _ _ _ _ _ _ _ _ _ _ _ _ _ _ _ _ _)
    | (with_reducible exact ih4 _ _ _ _ _ _ _ _ _ _ _ _)
    | (with_reducible exact dioramaref00_CopyInts.mono _ _)
    | (with_reducible exact dioramaref19_Check.mono _ _ _ _)
    | (with_reducible exact dioramaref19_Valid.mono _ _ _ _ _)
    | (with_reducible exact LeO.refl _)
    | (with_reducible exact LeO.none _)
    | (with_reducible refine LeO.ite ?_ ?_)
    | (with_reducible refine LeO.bind ?_ (fun _=>?_))
    | exact LeO.none _
    | refine LeO.ite ?_ ?_
    | refine LeO.bind ?_ (fun _=>?_)
  · intro y0 y1 y2 y3 y4 y5 y6 y7 y8 y9 y10 y11 y12 y13 y14 y15 y16 y17
    unfold dioramaref19_Draw.l2
    repeat' first
    | (with_reducible exact ih0 _ _ _ _ _ _ _ _ _ _ _)
    | (with_reducible exact ih1 _ _ _ _ _ _ _ _ _ _ _)
    | (with_reducible exact ih2 _ _ _ _ _ _ _ _ _ _ _ _)
    | (with_reducible exact ih3 _ _ _ _ _ _ _ _ _ _ _ _ _ _ _ _ _ _)
    | (with_reducible exact ih4 _ _ _ _ _ _ _ _ _ _ _ _)
    | (with_reducible exact dioramaref00_CopyInts.mono _ _)
    | (with_reducible exact dioramaref19_Check.mono _ _ _ _)
    | (with_reducible exact dioramaref19_Valid.mono _ _ _ _ _)
    | (with_reducible exact LeO.refl _)
    | (with_reducible exact LeO.none _)
    | (with_reducible refine LeO.ite ?_ ?_)
    | (with_reducible refine LeO.bind ?_ (fun _=>?_))
    | exact LeO.none _
    | refine LeO.ite ?_ ?_
    | refine LeO.bind ?_ (fun _=>?_)
  intro y0 y1 y2 y3 y4 y5 y6 y7 y8 y9 y10 y11
  unfold dioramaref19_Draw.l0
  repeat' first
  | (with_reducible exact ih0 _ _ _ _ _ _ _ _ _ _ _)
  | (with_reducible exact ih1 _ _ _ _ _ _ _ _ _ _ _)
  | (with_reducible exact ih2 _ _ _ _ _ _ _ _ _ _ _ _)
  | (with_reducible exact ih3 _ _ _ _ _ _ _ _ _ _ _ _ _ _ _ _ _ _)
  | (with_reducible exact ih4 _ _ _ _ _ _ _ _ _ _ _ _)
  | (with_reducible exact dioramaref00_CopyInts.mono _ _)
  | (with_reducible exact dioramaref19_Check.mono _ _ _ _)
  | (with_reducible exact dioramaref19_Valid.mono _ _ _ _ _)
  | (with_reducible exact LeO.refl _)
  | (with_reducible exact LeO.none _)
  | (with_reducible refine LeO.ite ?_ ?_)
  | (with_reducible refine LeO.bind ?_ (fun _=>?_))
  | exact LeO.none _
  | refine LeO.ite ?_ ?_
  | refine LeO.bind ?_ (fun _=>?_)
theorem dioramaref19_Draw.mono:∀ a0 a1 a2 a3 a4 a5 a6 k,LeO (dioramaref19_Draw.f k a0 a1 a2 a3 a4 a5 a6) (dioramaref19_Draw.f (k+1) a0 a1 a2 a3 a4 a5 a6):=by
 intro a0 a1 a2 a3 a4 a5 a6 k
 obtain ⟨ih0,ih1,ih2,ih3,ih4⟩:=dioramaref19_Draw.mono_l k
 unfold dioramaref19_Draw.f
 repeat' first
  | (with_reducible exact ih0 _ _ _ _ _ _ _ _ _ _ _)
  | (with_reducible exact ih1 _ _ _ _ _ _ _ _ _ _ _)
  | (with_reducible exact ih2 _ _ _ _ _ _ _ _ _ _ _ _)
  | (with_reducible exact ih3 _ _ _ _ _ _ _ _ _ _ _ _ _ _ _ _ _ _)
  | (with_reducible exact ih4 _ _ _ _ _ _ _ _ _ _ _ _)
  | (with_reducible exact dioramaref00_CopyInts.mono _ _)
  | (with_reducible exact dioramaref19_Check.mono _ _ _ _)
  | (with_reducible exact dioramaref19_Valid.mono _ _ _ _ _)
  | (with_reducible exact LeO.refl _)
  | (with_reducible exact LeO.none _)
  | (with_reducible refine LeO.ite ?_ ?_)
  | (with_reducible refine LeO.bind ?_ (fun _=>?_))
  | exact LeO.none _
  | refine LeO.ite ?_ ?_
  | refine LeO.bind ?_ (fun _=>?_)
def dioramaref19_Draw.T6 : Bool × List (List Nat × List Nat) := (true, [([], []), ([0], [0]), ([], []), ([2], [2]), ([], []), ([4], [4]), ([5], [5]), ([], []), ([7], [7]), ([8, 6], [8]), ([1, 3, 6, 9], [1, 3, 6, 9]), ([], []), ([11, 10, 9, 0, 1, 2, 3, 4, 5, 6, 7, 8, 9, 10, 11], [10, 11])])
def dioramaref19_Draw.B6 : List Nat := [0, 1, 0, 4, 0, 16, 48, 0, 128, 496, 1023, 0, 4095]
theorem dioramaref19_Draw.tab6:rtab .any (opsOf Try.f31 6)=dioramaref19_Draw.T6:=by kernel_rfl
theorem dioramaref19_Draw.bits6:waitsOk dioramaref19_Draw.T6.2 dioramaref19_Draw.B6=true:=by kernel_rfl
def dioramaref19_Draw.T21 : Bool × List (List Nat × List Nat) := (true, [([], []), ([0], [0]), ([], []), ([], []), ([3], [3]), ([2, 4], [2, 4]), ([1, 5], [1, 5]), ([], []), ([7], [7]), ([], []), ([], []), ([10], [10]), ([9, 11], [9, 11]), ([8, 12], [8, 12]), ([6, 0, 1, 2, 3, 4, 5, 6], [6]), ([13, 14, 0, 1, 2, 3, 4, 5, 6, 7, 8, 9, 10, 11, 12, 13, 14], [13])])
def dioramaref19_Draw.B21 : List Nat := [0, 1, 0, 0, 8, 28, 63, 0, 128, 0, 0, 1024, 3584, 8064, 127, 32767]
theorem dioramaref19_Draw.tab21:rtab .any (opsOf Try.f31 21)=dioramaref19_Draw.T21:=by kernel_rfl
theorem dioramaref19_Draw.bits21:waitsOk dioramaref19_Draw.T21.2 dioramaref19_Draw.B21=true:=by kernel_rfl
def dioramaref19_Draw.T23 : Bool × List (List Nat × List Nat) := (true, [([], []), ([0], [0]), ([], []), ([], []), ([3], [3]), ([2, 4], [2, 4]), ([], []), ([5, 6], [5, 6]), ([], []), ([8], [8]), ([], []), ([9, 10], [9, 10]), ([11], [11]), ([1, 7, 0, 1, 2, 3, 4, 5, 6, 7, 8, 9, 10, 11, 12], [1, 7]), ([13, 12, 0, 1, 2, 3, 4, 5, 6, 7, 8, 9, 10, 11, 12], [12, 13])])
def dioramaref19_Draw.B23 : List Nat := [0, 1, 0, 0, 8, 28, 0, 124, 0, 256, 0, 1792, 3840, 8191, 16383]
theorem dioramaref19_Draw.tab23:rtab .any (opsOf Try.f31 23)=dioramaref19_Draw.T23:=by kernel_rfl
theorem dioramaref19_Draw.bits23:waitsOk dioramaref19_Draw.T23.2 dioramaref19_Draw.B23=true:=by kernel_rfl
set_option maxHeartbeats 8000000 in
set_option maxRecDepth 100000 in
theorem dioramaref19_Draw.calls (k:Nat) (a0_0:Int) (a0_1:Int) (A0_2:Option Addr) (c0_2:Nat) (l0_2:List Int) (A0_3:Option Addr) (c0_3:Nat) (l0_3:List Int) (a1_0:Bool) (A1_1:Option Addr) (c1_1:Nat) (l1_1:List Int) (A1_2:Option Addr) (c1_2:Nat) (l1_2:List (S91)) (r1:Int) (r2:Int) (r3:List Int) (r4:List Int) (r5:Int) (w:World) (hr0_2:Kd.C (Kd.int .i64) w A0_2 l0_2.length l0_2) (hc0_2:l0_2.length≤c0_2) (hr0_3:Kd.C (Kd.int .i64) w A0_3 l0_3.length l0_3) (hc0_3:l0_3.length≤c0_3) (hr1_1:Kd.C (Kd.int .i64) w A1_1 l1_1.length l1_1) (hc1_1:l1_1.length≤c1_1) (hr1_2:Kd.C k91 w A1_2 l1_2.length l1_2) (hc1_2:l1_2.length≤c1_2) (h:dioramaref19_Draw.f k a0_0 a0_1 l0_2 l0_3 a1_0 l1_1 l1_2=some (r1,r2,r3,r4,r5)) :
 Calls Try.prog 31 #[.agg #[.int .i64 a0_0,.int .i64 a0_1,.slice A0_2 l0_2.length c0_2,.slice A0_3 l0_3.length c0_3],.agg #[.bool a1_0,.slice A1_1 l1_1.length c1_1,.slice A1_2 l1_2.length c1_2]] w fun e w'=>∃ v2_ v3_:Value,e=.returned (.tuple #[.agg #[.int .i64 r1,.int .i64 r2,v2_,v3_],.int .i64 r5])∧Kd.R (Kd.int .i64) 3 w' w.heap.size (fun k_=>some k_≠(v3_:Value).ownBlock) v2_ r3∧Kd.R (Kd.int .i64) 3 w' w.heap.size (fun k_=>some k_≠(v2_:Value).ownBlock) v3_ r4∧Below w.heap.size w w':=by
 have hu41:=Try.underlying41
 have hu51:=Try.underlying51
 have hu91:=Try.underlying91
 have HR0_2:=Aside0.mk hr0_2
 have HC0_2:=Aside0.mk hc0_2;clear hr0_2 hc0_2
 have HR0_3:=Aside0.mk hr0_3
 have HC0_3:=Aside0.mk hc0_3;clear hr0_3 hc0_3
 have HR1_1:=Aside0.mk hr1_1
 have HC1_1:=Aside0.mk hc1_1;clear hr1_1 hc1_1
 have HR1_2:=Aside0.mk hr1_2
 have HC1_2:=Aside0.mk hc1_2;clear hr1_2 hc1_2;have HB:=Aside0.mk (Below.refl w.heap.size w)
 have H:((dioramaref19_Valid.f k a0_0 a0_1 l0_2 l0_3).bind fun t281=>(if t281=true then ((dioramaref19_Check.f k a1_0 l1_1 l1_2).bind fun t282=>(if t282=0 then ((dioramaref00_CopyInts.f k l0_2).bind fun t283=>((dioramaref00_CopyInts.f k l0_3).bind fun t286=>(if a1_0=true then (dioramaref19_Draw.l0 k 0 a0_0 a0_1 l0_2 l0_3 a1_0 l1_1 l1_2 a0_0 a0_1 t283 t286) else (dioramaref19_Draw.j1 k a0_0 a0_1 l0_2 l0_3 a1_0 l1_1 l1_2 a0_0 a0_1 t283 t286)))) else (some (0,0,([]:List Int),([]:List Int),t282)))) else (some (0,0,([]:List Int),([]:List Int),4))))=some (r1,r2,r3,r4,r5):=h
 clear h
 replace H:=Option.bind_eq_some_iff.mp H
 obtain ⟨t281,A30,H⟩:=H
 replace H:(if t281=true then ((dioramaref19_Check.f k a1_0 l1_1 l1_2).bind fun t282=>(if t282=0 then ((dioramaref00_CopyInts.f k l0_2).bind fun t283=>((dioramaref00_CopyInts.f k l0_3).bind fun t286=>(if a1_0=true then (dioramaref19_Draw.l0 k 0 a0_0 a0_1 l0_2 l0_3 a1_0 l1_1 l1_2 a0_0 a0_1 t283 t286) else (dioramaref19_Draw.j1 k a0_0 a0_1 l0_2 l0_3 a1_0 l1_1 l1_2 a0_0 a0_1 t283 t286)))) else (some (0,0,([]:List Int),([]:List Int),t282)))) else (some (0,0,([]:List Int),([]:List Int),4)))=some (r1,r2,r3,r4,r5):=H
 have A3:=Aside0.mk A30;clear A30
 by_cases c4:t281=true
 · subst c4
   have H1:((dioramaref19_Check.f k a1_0 l1_1 l1_2).bind fun t282=>(if t282=0 then ((dioramaref00_CopyInts.f k l0_2).bind fun t283=>((dioramaref00_CopyInts.f k l0_3).bind fun t286=>(if a1_0=true then (dioramaref19_Draw.l0 k 0 a0_0 a0_1 l0_2 l0_3 a1_0 l1_1 l1_2 a0_0 a0_1 t283 t286) else (dioramaref19_Draw.j1 k a0_0 a0_1 l0_2 l0_3 a1_0 l1_1 l1_2 a0_0 a0_1 t283 t286)))) else (some (0,0,([]:List Int),([]:List Int),t282))))=some (r1,r2,r3,r4,r5):=by rw [if_pos rfl] at H;exact H
   clear H
   have H:=H1;clear H1
   replace H:=Option.bind_eq_some_iff.mp H
   obtain ⟨t282,A50,H⟩:=H
   replace H:(if t282=0 then ((dioramaref00_CopyInts.f k l0_2).bind fun t283=>((dioramaref00_CopyInts.f k l0_3).bind fun t286=>(if a1_0=true then (dioramaref19_Draw.l0 k 0 a0_0 a0_1 l0_2 l0_3 a1_0 l1_1 l1_2 a0_0 a0_1 t283 t286) else (dioramaref19_Draw.j1 k a0_0 a0_1 l0_2 l0_3 a1_0 l1_1 l1_2 a0_0 a0_1 t283 t286)))) else (some (0,0,([]:List Int),([]:List Int),t282)))=some (r1,r2,r3,r4,r5):=H
   have A5:=Aside0.mk A50;clear A50
   by_cases c6:t282=0
   · rw [if_pos c6] at H
     have c6b0:(t282 == 0)=true:=beq_iff_eq.mpr c6
     have c6b1:(t282 != 0)=false:=bne_eq_false_iff_eq.mpr c6;clear c6
     replace H:=Option.bind_eq_some_iff.mp H
     obtain ⟨t283,A70,H⟩:=H
     replace H:((dioramaref00_CopyInts.f k l0_3).bind fun t286=>(if a1_0=true then (dioramaref19_Draw.l0 k 0 a0_0 a0_1 l0_2 l0_3 a1_0 l1_1 l1_2 a0_0 a0_1 t283 t286) else (dioramaref19_Draw.j1 k a0_0 a0_1 l0_2 l0_3 a1_0 l1_1 l1_2 a0_0 a0_1 t283 t286)))=some (r1,r2,r3,r4,r5):=H
     have A7:=Aside0.mk A70;clear A70
     replace H:=Option.bind_eq_some_iff.mp H
     obtain ⟨t286,A80,H⟩:=H
     replace H:(if a1_0=true then (dioramaref19_Draw.l0 k 0 a0_0 a0_1 l0_2 l0_3 a1_0 l1_1 l1_2 a0_0 a0_1 t283 t286) else (dioramaref19_Draw.j1 k a0_0 a0_1 l0_2 l0_3 a1_0 l1_1 l1_2 a0_0 a0_1 t283 t286))=some (r1,r2,r3,r4,r5):=H
     have A8:=Aside0.mk A80;clear A80
     have HC9:=Aside0.mk H;clear H
     go_enter Try.func31,Try.ntmps31
     try go_wp2_with (first|((with_reducible refine gate_dst (N:=2) rfl ?_);refine box_event ?hg (N:=2) ?hd (cs:=#[.int .i64 a0_0,.int .i64 a0_1,.slice A0_2 l0_2.length c0_2,.slice A0_3 l0_3.length c0_3]) (t:=41) ?hr ?_;(case hd=>rfl);(case hg=>rfl);(case hr=>first|(go_simp;done)|(go_simp;rfl));intro gb278 hg w10 hbox hb;have n0_:=Aside0.mk (below_step (belV HB.out) hb);have n1_:=Aside0.mk (hbox);have n2_:=Aside0.mk ((by rw [hg];exact (below_size (belV HB.out)):w.heap.size≤gb278));have n3_:=Aside0.mk ((by rw [hg];exact (below_size (belV HB.out)):w.heap.size≤gb278));clear HB;have HB:=n0_;have BK278:=n1_;have GW278:=n2_;have GE278:=n3_;clear n0_ n1_ n2_ n3_;clear hb hbox hg)|((with_reducible refine gate_dst (N:=3) rfl ?_);refine box_event ?hg (N:=3) ?hd (cs:=#[.bool a1_0,.slice A1_1 l1_1.length c1_1,.slice A1_2 l1_2.length c1_2]) (t:=51) ?hr ?_;(case hd=>rfl);(case hg=>rfl);(case hr=>first|(go_simp;done)|(go_simp;rfl));intro gb279 hg w11 hbox hb;have n0_:=Aside0.mk (blk_below (g:=gb278) (blkV BK278.out) hb);have n1_:=Aside0.mk (below_step (belV1 HB.out GE278.out) hb);have n2_:=Aside0.mk (hbox);have n3_:=Aside0.mk ((by rw [hg];exact (below_size (belV1 HB.out GE278.out)):w.heap.size≤gb279));have n4_:=Aside0.mk ((by rw [hg];exact (below_size (belV1 HB.out GE278.out)):w.heap.size≤gb279));have n5_:=Aside0.mk ((by rw [hg];exact Nat.ne_of_lt (blk_lt (g:=gb278) (blkV BK278.out)):gb278≠gb279));have n6_:=Aside0.mk ((by rw [hg];exact Nat.ne_of_gt (blk_lt (g:=gb278) (blkV BK278.out)):gb279≠gb278));clear BK278;clear HB;have BK278:=n0_;have HB:=n1_;have BK279:=n2_;have GW279:=n3_;have GE279:=n4_;have NB278_279:=n5_;have NB279_278:=n6_;clear n0_ n1_ n2_ n3_ n4_ n5_ n6_;clear hb hbox hg)|((with_reducible refine gate_dst (N:=4) rfl ?_);refine box_event ?hg (N:=4) ?hd (cs:=#[.int .i64 0,.int .i64 0,.slice none 0 0,.slice none 0 0]) (t:=41) ?hr ?_;(case hd=>rfl);(case hg=>rfl);(case hr=>first|(go_simp;done)|(go_simp;rfl));intro gb280 hg w12 hbox hb;have n0_:=Aside0.mk (blk_below (g:=gb278) (blkV BK278.out) hb);have n1_:=Aside0.mk (blk_below (g:=gb279) (blkV BK279.out) hb);have n2_:=Aside0.mk (below_step (belV2 HB.out GE278.out GE279.out) hb);have n3_:=Aside0.mk (hbox);have n4_:=Aside0.mk ((by rw [hg];exact (below_size (belV2 HB.out GE278.out GE279.out)):w.heap.size≤gb280));have n5_:=Aside0.mk ((by rw [hg];exact (below_size (belV2 HB.out GE278.out GE279.out)):w.heap.size≤gb280));have n6_:=Aside0.mk ((by rw [hg];exact Nat.ne_of_lt (blk_lt (g:=gb278) (blkV BK278.out)):gb278≠gb280));have n7_:=Aside0.mk ((by rw [hg];exact Nat.ne_of_gt (blk_lt (g:=gb278) (blkV BK278.out)):gb280≠gb278));have n8_:=Aside0.mk ((by rw [hg];exact Nat.ne_of_lt (blk_lt (g:=gb279) (blkV BK279.out)):gb279≠gb280));have n9_:=Aside0.mk ((by rw [hg];exact Nat.ne_of_gt (blk_lt (g:=gb279) (blkV BK279.out)):gb280≠gb279));clear BK278;clear BK279;clear HB;have BK278:=n0_;have BK279:=n1_;have HB:=n2_;have BK280:=n3_;have GW280:=n4_;have GE280:=n5_;have NB278_280:=n6_;have NB280_278:=n7_;have NB279_280:=n8_;have NB280_279:=n9_;clear n0_ n1_ n2_ n3_ n4_ n5_ n6_ n7_ n8_ n9_;clear hb hbox hg;have hnb13:=NB278_279.out;have hnc13:=NB279_278.out;have hnb14:=NB278_280.out;have hnc14:=NB280_278.out;obtain ⟨hcz15_0,hcz15_1,hcz15_2,hcz15_3,hfz15_0,hfz15_1,hfz15_2,hfz15_3⟩:=bcells4 BK278.out)|((with_reducible refine gate_callee (f:=67) rfl ?_);refine goesL_ (some 15) rfl rfl Try.func67 (by kernel_rfl) rfl #[.agg #[.int .i64 a0_0,.int .i64 a0_1,.slice A0_2 l0_2.length c0_2,.slice A0_3 l0_3.length c0_3]] rfl (by (try simp only [List.map_toArray,List.map_cons,List.map_nil]);first|done|rfl|(simp only [List.length_drop,List.length_take];rfl)) ?_;(with_reducible refine (dioramaref19_Valid.calls k a0_0 a0_1 _ _ l0_2 _ _ l0_3 true _ ?side1 ?side2 ?side3 ?side4 A3.out).mono ?_);(case side1=>exact cV (Kd.C_below HR0_2.out HB.out));(case side2=>exact HC0_2.out);(case side3=>exact cV (Kd.C_below HR0_3.out HB.out));(case side4=>exact HC0_3.out);rintro e w16 ⟨rfl,hb⟩;refine ⟨_,rfl,?_⟩;have n0_:=Aside0.mk (blk_below (g:=gb278) (blkV BK278.out) hb);have n1_:=Aside0.mk (blk_below (g:=gb279) (blkV BK279.out) hb);have n2_:=Aside0.mk (blk_below (g:=gb280) (blkV BK280.out) hb);have n3_:=Aside0.mk (below_step (belV3 HB.out GE278.out GE279.out GE280.out) hb);clear BK278;clear BK279;clear BK280;clear HB;have BK278:=n0_;have BK279:=n1_;have BK280:=n2_;have HB:=n3_;clear n0_ n1_ n2_ n3_;(try clear hb);(try clear hb2);(try clear hk);(try clear hi);have hnb17:=NB279_280.out;have hnc17:=NB280_279.out;obtain ⟨hcz18_0,hcz18_1,hcz18_2,hfz18_0,hfz18_1,hfz18_2⟩:=bcells3 BK279.out)|((with_reducible refine gate_callee (f:=40) rfl ?_);refine goesL_ (some 19) rfl rfl Try.func40 (by kernel_rfl) rfl #[.agg #[.bool a1_0,.slice A1_1 l1_1.length c1_1,.slice A1_2 l1_2.length c1_2]] rfl (by (try simp only [List.map_toArray,List.map_cons,List.map_nil]);first|done|rfl|(simp only [List.length_drop,List.length_take];rfl)) ?_;(with_reducible refine (dioramaref19_Check.calls k a1_0 _ _ l1_1 _ _ l1_2 t282 _ ?side1 ?side2 ?side3 ?side4 A5.out).mono ?_);(case side1=>exact cV (Kd.C_below HR1_1.out HB.out));(case side2=>exact HC1_1.out);(case side3=>exact cV (Kd.C_below HR1_2.out HB.out));(case side4=>exact HC1_2.out);rintro e w19 ⟨rfl,hb⟩;refine ⟨_,rfl,?_⟩;have n0_:=Aside0.mk (blk_below (g:=gb278) (blkV BK278.out) hb);have n1_:=Aside0.mk (blk_below (g:=gb279) (blkV BK279.out) hb);have n2_:=Aside0.mk (blk_below (g:=gb280) (blkV BK280.out) hb);have n3_:=Aside0.mk (below_step (belV3 HB.out GE278.out GE279.out GE280.out) hb);clear BK278;clear BK279;clear BK280;clear HB;have BK278:=n0_;have BK279:=n1_;have BK280:=n2_;have HB:=n3_;clear n0_ n1_ n2_ n3_;(try clear hb);(try clear hb2);(try clear hk);(try clear hi)))
     have n0_:=Aside0.mk (blk_drew BK278.out)
     have n1_:=Aside0.mk (blk_drew BK279.out)
     have n2_:=Aside0.mk (blk_drew BK280.out)
     have n3_:=Aside0.mk (below_drew1 HB.out);clear BK278;clear BK279;clear BK280;clear HB;have BK278:=n0_;have BK279:=n1_;have BK280:=n2_;have HB:=n3_;clear n0_ n1_ n2_ n3_
     refine start_ (n:=13) (S:=fun w'=>w'.cell? ⟨gb278,0,none⟩=some (.int .i64 a0_0)∧w'.cell? ⟨gb278,1,none⟩=some (.int .i64 a0_1)∧w'.cell? ⟨gb278,2,none⟩=some (.slice A0_2 l0_2.length c0_2)∧w'.cell? ⟨gb278,3,none⟩=some (.slice A0_3 l0_3.length c0_3)) (ds:=[]) ((bm false [13]).toArray) (by kernel_rfl) rfl rfl ⟨(blk_cell BK278.out 0).trans rfl,(blk_cell BK278.out 1).trans rfl,(blk_cell BK278.out 2).trans rfl,(blk_cell BK278.out 3).trans rfl⟩ (fun hHeld=>?_);refine with_tabW dioramaref19_Draw.tab6 dioramaref19_Draw.bits6 (fun HT_ HW_=>?_)
     generalize w19.drew=w20 at BK278 BK279 BK280 HB hHeld ⊢
     refine pure_ (i:=0) (N:=some 24) (v:=?_) (a':=?_) ((bm true [1,12]).toArray) rfl rfl (any_of HT_.out (by kernel_rfl)) (fun _ _ _ h=>h) (Or.inl ⟨by rfl,?_⟩) ?_ ?_;rotate_left
     · intro w';go_simp;with_reducible rfl
     rotate_left
     · simp only [Act.put,List.setIfInBounds_toArray,List.set_cons_zero,List.set_cons_succ,i64_w,i32_w];rfl
     refine pure_ (i:=2) (N:=some 26) (v:=?_) (a':=?_) ((bm true [1,1,1,10]).toArray) rfl rfl (any_of HT_.out (by kernel_rfl)) (fun _ _ _ h=>h) (Or.inl ⟨by rfl,?_⟩) ?_ ?_;rotate_left
     · intro w';go_simp;with_reducible rfl
     rotate_left
     · simp only [Act.put,List.setIfInBounds_toArray,List.set_cons_zero,List.set_cons_succ,i64_w,i32_w];rfl
     refine pure_ (i:=4) (N:=some 28) (v:=?_) (a':=?_) ((bm true [1,1,1,1,1,8]).toArray) rfl rfl (any_of HT_.out (by kernel_rfl)) (fun _ _ _ h=>h) (Or.inl ⟨by rfl,?_⟩) ?_ ?_;rotate_left
     · intro w';go_simp;with_reducible rfl
     rotate_left
     · simp only [Act.put,List.setIfInBounds_toArray,List.set_cons_zero,List.set_cons_succ,i64_w,i32_w];rfl
     refine pure_ (i:=7) (N:=some 31) (v:=?_) (a':=?_) ((bm true [1,1,1,1,1,2,1,5]).toArray) rfl rfl (any_of HT_.out (by kernel_rfl)) (fun _ _ _ h=>h) (Or.inl ⟨by rfl,?_⟩) ?_ ?_;rotate_left
     · intro w';go_simp;with_reducible rfl
     rotate_left
     · simp only [Act.put,List.setIfInBounds_toArray,List.set_cons_zero,List.set_cons_succ,i64_w,i32_w];rfl
     refine take_ (i:=1) (N:=some 25) (v:=?_) (a':=?_) ((bm true [3,1,1,2,1,5]).toArray) rfl rfl (take_ofW HT_.out HW_.out (by kernel_rfl)) (fun _ _ _ h=>h) (Or.inl ⟨by rfl,?_⟩) hHeld ?_ ?_;rotate_left
     · rintro w' ⟨s0,s1,s2,s3⟩
       go_simp;with_reducible rfl
     rotate_left
     · simp only [Act.put,List.setIfInBounds_toArray,List.set_cons_zero,List.set_cons_succ,i64_w,i32_w];rfl
     refine take_ (i:=3) (N:=some 27) (v:=?_) (a':=?_) ((bm true [5,2,1,5]).toArray) rfl rfl (take_ofW HT_.out HW_.out (by kernel_rfl)) (fun _ _ _ h=>h) (Or.inl ⟨by rfl,?_⟩) hHeld ?_ ?_;rotate_left
     · rintro w' ⟨s0,s1,s2,s3⟩
       go_simp;with_reducible rfl
     rotate_left
     · simp only [Act.put,List.setIfInBounds_toArray,List.set_cons_zero,List.set_cons_succ,i64_w,i32_w];rfl
     refine take_ (i:=5) (N:=some 29) (v:=?_) (a':=?_) ((bm true [6,1,1,5]).toArray) rfl rfl (take_ofW HT_.out HW_.out (by kernel_rfl)) (fun _ _ _ h=>h) (Or.inl ⟨by rfl,?_⟩) hHeld ?_ ?_;rotate_left
     · rintro w' ⟨s0,s1,s2,s3⟩
       go_simp;with_reducible rfl
     rotate_left
     · simp only [Act.put,List.setIfInBounds_toArray,List.set_cons_zero,List.set_cons_succ,i64_w,i32_w];rfl
     refine take_ (i:=8) (N:=some 32) (v:=?_) (a':=?_) ((bm true [6,1,2,4]).toArray) rfl rfl (take_ofW HT_.out HW_.out (by kernel_rfl)) (fun _ _ _ h=>h) (Or.inl ⟨by rfl,?_⟩) hHeld ?_ ?_;rotate_left
     · rintro w' ⟨s0,s1,s2,s3⟩
       go_simp;with_reducible rfl
     rotate_left
     · simp only [Act.put,List.setIfInBounds_toArray,List.set_cons_zero,List.set_cons_succ,i64_w,i32_w];rfl
     refine join_ (σ:=Value × Value × Nat) 1 ((bm true [12,1]).toArray) (fun s_=>[(30,s_.1),(33,s_.2.1),(7,.pointer (some ⟨s_.2.2,0,none⟩)),(34,.agg #[.int .i64 a0_0,.int .i64 a0_1,s_.1,s_.2.1])]) (fun s_ w'=>(w'.cell? ⟨gb278,0,none⟩=some (.int .i64 a0_0)∧w'.cell? ⟨gb278,1,none⟩=some (.int .i64 a0_1)∧w'.cell? ⟨gb278,2,none⟩=some (.slice A0_2 l0_2.length c0_2)∧w'.cell? ⟨gb278,3,none⟩=some (.slice A0_3 l0_3.length c0_3))∧(Kd.R (Kd.int .i64) 3 w' w.heap.size (fun k_=>some k_≠(s_.2.1:Value).ownBlock) s_.1 t283)∧(Kd.R (Kd.int .i64) 3 w' w.heap.size (fun k_=>some k_≠(s_.1:Value).ownBlock) s_.2.1 t286)∧(w'.heap[gb278]?=some (.cells #[.int .i64 a0_0,.int .i64 a0_1,.slice A0_2 l0_2.length c0_2,.slice A0_3 l0_3.length c0_3] 41 (0,0)))∧(w'.heap[gb279]?=some (.cells #[.bool a1_0,.slice A1_1 l1_1.length c1_1,.slice A1_2 l1_2.length c1_2] 51 (0,0)))∧(w'.heap[gb280]?=some (.cells #[.int .i64 0,.int .i64 0,.slice none 0 0,.slice none 0 0] 41 (0,0)))∧(w'.heap[s_.2.2]?=some (.cells #[.int .i64 0,.int .i64 0,.slice none 0 0,.slice none 0 0] 41 (0,0)))∧(w.heap.size≤s_.2.2)∧(w.heap.size≤s_.2.2)∧(gb278≠s_.2.2)∧(s_.2.2≠gb278)∧(gb279≠s_.2.2)∧(s_.2.2≠gb279)∧(gb280≠s_.2.2)∧(s_.2.2≠gb280)∧(Below w.heap.size w w')) ?_ ?_
     rotate_left
     · intro hCont
       refine two_ (i:=6) (j:=11) (Ni:=some 30) (Nj:=some 7) ((bm true [9,4]).toArray) ((bm true [6,1,2,2,1,1]).toArray) rfl rfl rfl rfl (two_of HT_.out (by kernel_rfl)) (by decide) (by decide) (fun K hK=>?_) (fun K hK=>?_)
       · skip
         refine goes_ Try.func64 (by kernel_rfl) rfl #[.slice A0_2 l0_2.length c0_2] (by rfl) rfl rfl (by (try simp only [List.map_toArray,List.map_cons,List.map_nil]);first|done|rfl|(simp only [List.length_drop,List.length_take];rfl)) ?_
         with_reducible refine (dioramaref00_CopyInts.calls k _ _ l0_2 t283 _ ?side1 ?side2 A7.out).mono ?_
         (case side1=>exact cV (Kd.C_below HR0_2.out HB.out))
         (case side2=>exact HC0_2.out)
         rintro e w21 ⟨v284,rfl,ho0,hb⟩
         refine ⟨_,rfl,?_⟩
         have n0_:=Aside0.mk (Kd.R_lower ho0 (below_size (belV3 HB.out GE278.out GE279.out GE280.out)))
         have n1_:=Aside0.mk (blk_below (g:=gb278) (blkV BK278.out) hb)
         have n2_:=Aside0.mk (blk_below (g:=gb279) (blkV BK279.out) hb)
         have n3_:=Aside0.mk (blk_below (g:=gb280) (blkV BK280.out) hb)
         have n4_:=Aside0.mk (below_step (belV3 HB.out GE278.out GE279.out GE280.out) hb);clear BK278;clear BK279;clear BK280;clear HB;have HO285:=n0_;have BK278:=n1_;have BK279:=n2_;have BK280:=n3_;have HB:=n4_;clear n0_ n1_ n2_ n3_ n4_
         (try clear hb)
         (try clear hb2)
         (try clear hk)
         (try clear hi)
         (try clear ho0)
         refine hK.out _ _ ⟨(blk_cell BK278.out 0).trans rfl,(blk_cell BK278.out 1).trans rfl,(blk_cell BK278.out 2).trans rfl,(blk_cell BK278.out 3).trans rfl⟩ (fun hHeld=>?_);clear hK K
         refine norm_ (a':=?_) ?_ ?_;rotate_left
         · show Act.put _ (some 30) _=_
           simp only [Act.put,List.setIfInBounds_toArray,List.set_cons_zero,List.set_cons_succ,i64_w,i32_w];rfl
         refine two_ (i:=9) (j:=11) (Ni:=some 33) (Nj:=some 7) ((bm true [10,3]).toArray) ((bm true [9,2,1,1]).toArray) rfl rfl rfl rfl (two_of HT_.out (by kernel_rfl)) (by decide) (by decide) (fun K hK=>?_) (fun K hK=>?_)
         · skip
           refine goes_ Try.func64 (by kernel_rfl) rfl #[.slice A0_3 l0_3.length c0_3] (by rfl) rfl rfl (by (try simp only [List.map_toArray,List.map_cons,List.map_nil]);first|done|rfl|(simp only [List.length_drop,List.length_take];rfl)) ?_
           with_reducible refine (dioramaref00_CopyInts.calls k _ _ l0_3 t286 _ ?side1 ?side2 A8.out).mono ?_
           (case side1=>exact cV (Kd.C_below HR0_3.out HB.out))
           (case side2=>exact HC0_3.out)
           rintro e w22 ⟨v287,rfl,ho0,hb⟩
           refine ⟨_,rfl,?_⟩
           have n0_:=Aside0.mk (Kd.R_elder' (rowV HO285.out) (Kd.R_base ho0) hb)
           have n1_:=Aside0.mk (Kd.R_lower (Kd.R_new' ho0 (Kd.R_lt (rowV HO285.out))) (below_size (belV3 HB.out GE278.out GE279.out GE280.out)))
           have n2_:=Aside0.mk (blk_below (g:=gb278) (blkV BK278.out) hb)
           have n3_:=Aside0.mk (blk_below (g:=gb279) (blkV BK279.out) hb)
           have n4_:=Aside0.mk (blk_below (g:=gb280) (blkV BK280.out) hb)
           have n5_:=Aside0.mk (below_step (belV3 HB.out GE278.out GE279.out GE280.out) hb);clear HO285;clear BK278;clear BK279;clear BK280;clear HB;have HO285:=n0_;have HO288:=n1_;have BK278:=n2_;have BK279:=n3_;have BK280:=n4_;have HB:=n5_;clear n0_ n1_ n2_ n3_ n4_ n5_
           (try clear hb)
           (try clear hb2)
           (try clear hk)
           (try clear hi)
           (try clear ho0)
           obtain ⟨Ao23,co23,eo23⟩:=Kd.R_slice HO288.out
           (first|subst eo23|(injection eo23 with f1_ f2_ f3_;have f4_:=f1_.symm;have f5_:=f3_.symm;clear f1_ f2_ f3_;subst f4_;subst f5_))
           obtain ⟨Ao24,co24,eo24⟩:=Kd.R_slice HO285.out
           (first|subst eo24|(injection eo24 with f1_ f2_ f3_;have f4_:=f1_.symm;have f5_:=f3_.symm;clear f1_ f2_ f3_;subst f4_;subst f5_))
           refine hK.out _ _ ⟨(blk_cell BK278.out 0).trans rfl,(blk_cell BK278.out 1).trans rfl,(blk_cell BK278.out 2).trans rfl,(blk_cell BK278.out 3).trans rfl⟩ (fun hHeld=>?_);clear hK K
           refine norm_ (a':=?_) ?_ ?_;rotate_left
           · show Act.put _ (some 33) _=_
             simp only [Act.put,List.setIfInBounds_toArray,List.set_cons_zero,List.set_cons_succ,i64_w,i32_w];rfl
           refine pure_ (i:=10) (N:=some 34) (v:=?_) (a':=?_) ((bm true [11,2]).toArray) rfl rfl (any_of HT_.out (by kernel_rfl)) (fun _ _ _ h=>h) (Or.inl ⟨by rfl,?_⟩) ?_ ?_;rotate_left
           · intro w';go_simp;with_reducible rfl
           rotate_left
           · simp only [Act.put,List.setIfInBounds_toArray,List.set_cons_zero,List.set_cons_succ,i64_w,i32_w];rfl
           refine one_ (i:=11) (N:=some 7) ((bm true [12,1]).toArray) rfl rfl (one_of HT_.out (by kernel_rfl)) (by decide) (fun K hK=>?_)
           refine box_step ?hg (N:=7) ?hd (cs:=#[.int .i64 0,.int .i64 0,.slice none 0 0,.slice none 0 0]) (t:=41) ?hr ?_;(case hd=>rfl);(case hg=>rfl);(case hr=>first|(go_simp;done)|(go_simp;rfl))
           intro gb289 hg w25 hbox hb
           have n0_:=Aside0.mk (Kd.R_below (rowV HO285.out) hb)
           have n1_:=Aside0.mk (Kd.R_below (rowV HO288.out) hb)
           have n2_:=Aside0.mk (blk_below (g:=gb278) (blkV BK278.out) hb)
           have n3_:=Aside0.mk (blk_below (g:=gb279) (blkV BK279.out) hb)
           have n4_:=Aside0.mk (blk_below (g:=gb280) (blkV BK280.out) hb)
           have n5_:=Aside0.mk (below_step (belV3 HB.out GE278.out GE279.out GE280.out) hb)
           have n6_:=Aside0.mk (hbox)
           have n7_:=Aside0.mk ((by rw [hg];exact (below_size (belV3 HB.out GE278.out GE279.out GE280.out)):w.heap.size≤gb289))
           have n8_:=Aside0.mk ((by rw [hg];exact (below_size (belV3 HB.out GE278.out GE279.out GE280.out)):w.heap.size≤gb289))
           have n9_:=Aside0.mk ((by rw [hg];exact Nat.ne_of_lt (blk_lt (g:=gb278) (blkV BK278.out)):gb278≠gb289))
           have n10_:=Aside0.mk ((by rw [hg];exact Nat.ne_of_gt (blk_lt (g:=gb278) (blkV BK278.out)):gb289≠gb278))
           have n11_:=Aside0.mk ((by rw [hg];exact Nat.ne_of_lt (blk_lt (g:=gb279) (blkV BK279.out)):gb279≠gb289))
           have n12_:=Aside0.mk ((by rw [hg];exact Nat.ne_of_gt (blk_lt (g:=gb279) (blkV BK279.out)):gb289≠gb279))
           have n13_:=Aside0.mk ((by rw [hg];exact Nat.ne_of_lt (blk_lt (g:=gb280) (blkV BK280.out)):gb280≠gb289))
           have n14_:=Aside0.mk ((by rw [hg];exact Nat.ne_of_gt (blk_lt (g:=gb280) (blkV BK280.out)):gb289≠gb280));clear HO285;clear HO288;clear BK278;clear BK279;clear BK280;clear HB;have HO285:=n0_;have HO288:=n1_;have BK278:=n2_;have BK279:=n3_;have BK280:=n4_;have HB:=n5_;have BK289:=n6_
           have GW289:=n7_
           have GE289:=n8_
           have NB278_289:=n9_
           have NB289_278:=n10_
           have NB279_289:=n11_
           have NB289_279:=n12_
           have NB280_289:=n13_
           have NB289_280:=n14_;clear n0_ n1_ n2_ n3_ n4_ n5_ n6_ n7_ n8_ n9_ n10_ n11_ n12_ n13_ n14_;clear hb hbox hg
           refine hK.out _ _ ⟨(blk_cell BK278.out 0).trans rfl,(blk_cell BK278.out 1).trans rfl,(blk_cell BK278.out 2).trans rfl,(blk_cell BK278.out 3).trans rfl⟩ (fun hHeld=>?_);clear hK K
           refine norm_ (a':=?_) ?_ ?_;rotate_left
           · show Act.put _ (some 7) _=_
             simp only [Act.put,List.setIfInBounds_toArray,List.set_cons_zero,List.set_cons_succ,i64_w,i32_w];rfl
           exact norm_ (by simp only [putAll,Act.put,List.setIfInBounds_toArray,List.set_cons_zero,List.set_cons_succ]) (hCont (.slice Ao24 t283.length co24,.slice Ao23 t286.length co23,gb289) _ ⟨hHeld,(by (with_reducible repeat (first|apply Kd.R_alloc|apply Kd.R_drewN|apply Kd.R_drew));exact Kd.R_mono HO285.out (fun _ hk=>hk.2)),(by (with_reducible repeat (first|apply Kd.R_alloc|apply Kd.R_drewN|apply Kd.R_drew));exact Kd.R_mono HO288.out (fun _ hk=>hk.2)),(blkV BK278.out),(blkV BK279.out),(blkV BK280.out),(blkV BK289.out),GW289.out,GE289.out,NB278_289.out,NB289_278.out,NB279_289.out,NB289_279.out,NB280_289.out,NB289_280.out,(belV4 HB.out GE278.out GE279.out GE280.out GE289.out)⟩)
         skip
         refine box_step ?hg (N:=7) ?hd (cs:=#[.int .i64 0,.int .i64 0,.slice none 0 0,.slice none 0 0]) (t:=41) ?hr ?_;(case hd=>rfl);(case hg=>rfl);(case hr=>first|(go_simp;done)|(go_simp;rfl))
         intro gb289 hg w22 hbox hb
         have n0_:=Aside0.mk (Kd.R_below (rowV HO285.out) hb)
         have n1_:=Aside0.mk (blk_below (g:=gb278) (blkV BK278.out) hb)
         have n2_:=Aside0.mk (blk_below (g:=gb279) (blkV BK279.out) hb)
         have n3_:=Aside0.mk (blk_below (g:=gb280) (blkV BK280.out) hb)
         have n4_:=Aside0.mk (below_step (belV3 HB.out GE278.out GE279.out GE280.out) hb)
         have n5_:=Aside0.mk (hbox)
         have n6_:=Aside0.mk ((by rw [hg];exact (below_size (belV3 HB.out GE278.out GE279.out GE280.out)):w.heap.size≤gb289))
         have n7_:=Aside0.mk ((by rw [hg];exact (below_size (belV3 HB.out GE278.out GE279.out GE280.out)):w.heap.size≤gb289))
         have n8_:=Aside0.mk ((by rw [hg];exact Nat.ne_of_lt (blk_lt (g:=gb278) (blkV BK278.out)):gb278≠gb289))
         have n9_:=Aside0.mk ((by rw [hg];exact Nat.ne_of_gt (blk_lt (g:=gb278) (blkV BK278.out)):gb289≠gb278))
         have n10_:=Aside0.mk ((by rw [hg];exact Nat.ne_of_lt (blk_lt (g:=gb279) (blkV BK279.out)):gb279≠gb289))
         have n11_:=Aside0.mk ((by rw [hg];exact Nat.ne_of_gt (blk_lt (g:=gb279) (blkV BK279.out)):gb289≠gb279))
         have n12_:=Aside0.mk ((by rw [hg];exact Nat.ne_of_lt (blk_lt (g:=gb280) (blkV BK280.out)):gb280≠gb289))
         have n13_:=Aside0.mk ((by rw [hg];exact Nat.ne_of_gt (blk_lt (g:=gb280) (blkV BK280.out)):gb289≠gb280));clear HO285;clear BK278;clear BK279;clear BK280;clear HB;have HO285:=n0_;have BK278:=n1_;have BK279:=n2_;have BK280:=n3_;have HB:=n4_;have BK289:=n5_
         have GW289:=n6_
         have GE289:=n7_
         have NB278_289:=n8_
         have NB289_278:=n9_
         have NB279_289:=n10_
         have NB289_279:=n11_
         have NB280_289:=n12_
         have NB289_280:=n13_;clear n0_ n1_ n2_ n3_ n4_ n5_ n6_ n7_ n8_ n9_ n10_ n11_ n12_ n13_;clear hb hbox hg
         refine hK.out _ _ ⟨(blk_cell BK278.out 0).trans rfl,(blk_cell BK278.out 1).trans rfl,(blk_cell BK278.out 2).trans rfl,(blk_cell BK278.out 3).trans rfl⟩ (fun hHeld=>?_);clear hK K
         refine norm_ (a':=?_) ?_ ?_;rotate_left
         · show Act.put _ (some 7) _=_
           simp only [Act.put,List.setIfInBounds_toArray,List.set_cons_zero,List.set_cons_succ,i64_w,i32_w];rfl
         refine one_ (i:=9) (N:=some 33) ((bm true [10,1,1,1]).toArray) rfl rfl (one_of HT_.out (by kernel_rfl)) (by decide) (fun K hK=>?_)
         refine goes_ Try.func64 (by kernel_rfl) rfl #[.slice A0_3 l0_3.length c0_3] (by rfl) rfl rfl (by (try simp only [List.map_toArray,List.map_cons,List.map_nil]);first|done|rfl|(simp only [List.length_drop,List.length_take];rfl)) ?_
         with_reducible refine (dioramaref00_CopyInts.calls k _ _ l0_3 t286 _ ?side1 ?side2 A8.out).mono ?_
         (case side1=>exact cV (Kd.C_below HR0_3.out HB.out))
         (case side2=>exact HC0_3.out)
         rintro e w23 ⟨v287,rfl,ho0,hb⟩
         refine ⟨_,rfl,?_⟩
         have n0_:=Aside0.mk (Kd.R_elder' (rowV HO285.out) (Kd.R_base ho0) hb)
         have n1_:=Aside0.mk (Kd.R_lower (Kd.R_new' ho0 (Kd.R_lt (rowV HO285.out))) (below_size (belV4 HB.out GE278.out GE279.out GE280.out GE289.out)))
         have n2_:=Aside0.mk (blk_below (g:=gb278) (blkV BK278.out) hb)
         have n3_:=Aside0.mk (blk_below (g:=gb279) (blkV BK279.out) hb)
         have n4_:=Aside0.mk (blk_below (g:=gb280) (blkV BK280.out) hb)
         have n5_:=Aside0.mk (blk_below (g:=gb289) (blkV BK289.out) hb)
         have n6_:=Aside0.mk (below_step (belV4 HB.out GE278.out GE279.out GE280.out GE289.out) hb);clear HO285;clear BK278;clear BK279;clear BK280;clear BK289;clear HB;have HO285:=n0_;have HO288:=n1_;have BK278:=n2_;have BK279:=n3_;have BK280:=n4_;have BK289:=n5_;have HB:=n6_;clear n0_ n1_ n2_ n3_ n4_ n5_ n6_
         (try clear hb)
         (try clear hb2)
         (try clear hk)
         (try clear hi)
         (try clear ho0)
         obtain ⟨Ao24,co24,eo24⟩:=Kd.R_slice HO288.out
         (first|subst eo24|(injection eo24 with f1_ f2_ f3_;have f4_:=f1_.symm;have f5_:=f3_.symm;clear f1_ f2_ f3_;subst f4_;subst f5_))
         obtain ⟨Ao25,co25,eo25⟩:=Kd.R_slice HO285.out
         (first|subst eo25|(injection eo25 with f1_ f2_ f3_;have f4_:=f1_.symm;have f5_:=f3_.symm;clear f1_ f2_ f3_;subst f4_;subst f5_))
         refine hK.out _ _ ⟨(blk_cell BK278.out 0).trans rfl,(blk_cell BK278.out 1).trans rfl,(blk_cell BK278.out 2).trans rfl,(blk_cell BK278.out 3).trans rfl⟩ (fun hHeld=>?_);clear hK K
         refine norm_ (a':=?_) ?_ ?_;rotate_left
         · show Act.put _ (some 33) _=_
           simp only [Act.put,List.setIfInBounds_toArray,List.set_cons_zero,List.set_cons_succ,i64_w,i32_w];rfl
         refine pure_ (i:=10) (N:=some 34) (v:=?_) (a':=?_) ((bm true [12,1]).toArray) rfl rfl (any_of HT_.out (by kernel_rfl)) (fun _ _ _ h=>h) (Or.inl ⟨by rfl,?_⟩) ?_ ?_;rotate_left
         · intro w';go_simp;with_reducible rfl
         rotate_left
         · simp only [Act.put,List.setIfInBounds_toArray,List.set_cons_zero,List.set_cons_succ,i64_w,i32_w];rfl
         exact norm_ (by simp only [putAll,Act.put,List.setIfInBounds_toArray,List.set_cons_zero,List.set_cons_succ]) (hCont (.slice Ao25 t283.length co25,.slice Ao24 t286.length co24,gb289) _ ⟨hHeld,(by (with_reducible repeat (first|apply Kd.R_alloc|apply Kd.R_drewN|apply Kd.R_drew));exact Kd.R_mono HO285.out (fun _ hk=>hk.2)),(by (with_reducible repeat (first|apply Kd.R_alloc|apply Kd.R_drewN|apply Kd.R_drew));exact Kd.R_mono HO288.out (fun _ hk=>hk.2)),(blkV BK278.out),(blkV BK279.out),(blkV BK280.out),(blkV BK289.out),GW289.out,GE289.out,NB278_289.out,NB289_278.out,NB279_289.out,NB289_279.out,NB280_289.out,NB289_280.out,(belV4 HB.out GE278.out GE279.out GE280.out GE289.out)⟩)
       skip
       refine box_step ?hg (N:=7) ?hd (cs:=#[.int .i64 0,.int .i64 0,.slice none 0 0,.slice none 0 0]) (t:=41) ?hr ?_;(case hd=>rfl);(case hg=>rfl);(case hr=>first|(go_simp;done)|(go_simp;rfl))
       intro gb289 hg w21 hbox hb
       have n0_:=Aside0.mk (blk_below (g:=gb278) (blkV BK278.out) hb)
       have n1_:=Aside0.mk (blk_below (g:=gb279) (blkV BK279.out) hb)
       have n2_:=Aside0.mk (blk_below (g:=gb280) (blkV BK280.out) hb)
       have n3_:=Aside0.mk (below_step (belV3 HB.out GE278.out GE279.out GE280.out) hb)
       have n4_:=Aside0.mk (hbox)
       have n5_:=Aside0.mk ((by rw [hg];exact (below_size (belV3 HB.out GE278.out GE279.out GE280.out)):w.heap.size≤gb289))
       have n6_:=Aside0.mk ((by rw [hg];exact (below_size (belV3 HB.out GE278.out GE279.out GE280.out)):w.heap.size≤gb289))
       have n7_:=Aside0.mk ((by rw [hg];exact Nat.ne_of_lt (blk_lt (g:=gb278) (blkV BK278.out)):gb278≠gb289))
       have n8_:=Aside0.mk ((by rw [hg];exact Nat.ne_of_gt (blk_lt (g:=gb278) (blkV BK278.out)):gb289≠gb278))
       have n9_:=Aside0.mk ((by rw [hg];exact Nat.ne_of_lt (blk_lt (g:=gb279) (blkV BK279.out)):gb279≠gb289))
       have n10_:=Aside0.mk ((by rw [hg];exact Nat.ne_of_gt (blk_lt (g:=gb279) (blkV BK279.out)):gb289≠gb279))
       have n11_:=Aside0.mk ((by rw [hg];exact Nat.ne_of_lt (blk_lt (g:=gb280) (blkV BK280.out)):gb280≠gb289))
       have n12_:=Aside0.mk ((by rw [hg];exact Nat.ne_of_gt (blk_lt (g:=gb280) (blkV BK280.out)):gb289≠gb280));clear BK278;clear BK279;clear BK280;clear HB;have BK278:=n0_;have BK279:=n1_;have BK280:=n2_;have HB:=n3_;have BK289:=n4_
       have GW289:=n5_
       have GE289:=n6_
       have NB278_289:=n7_
       have NB289_278:=n8_
       have NB279_289:=n9_
       have NB289_279:=n10_
       have NB280_289:=n11_
       have NB289_280:=n12_;clear n0_ n1_ n2_ n3_ n4_ n5_ n6_ n7_ n8_ n9_ n10_ n11_ n12_;clear hb hbox hg
       refine hK.out _ _ ⟨(blk_cell BK278.out 0).trans rfl,(blk_cell BK278.out 1).trans rfl,(blk_cell BK278.out 2).trans rfl,(blk_cell BK278.out 3).trans rfl⟩ (fun hHeld=>?_);clear hK K
       refine norm_ (a':=?_) ?_ ?_;rotate_left
       · show Act.put _ (some 7) _=_
         simp only [Act.put,List.setIfInBounds_toArray,List.set_cons_zero,List.set_cons_succ,i64_w,i32_w];rfl
       refine one_ (i:=6) (N:=some 30) ((bm true [9,2,1,1]).toArray) rfl rfl (one_of HT_.out (by kernel_rfl)) (by decide) (fun K hK=>?_)
       refine goes_ Try.func64 (by kernel_rfl) rfl #[.slice A0_2 l0_2.length c0_2] (by rfl) rfl rfl (by (try simp only [List.map_toArray,List.map_cons,List.map_nil]);first|done|rfl|(simp only [List.length_drop,List.length_take];rfl)) ?_
       with_reducible refine (dioramaref00_CopyInts.calls k _ _ l0_2 t283 _ ?side1 ?side2 A7.out).mono ?_
       (case side1=>exact cV (Kd.C_below HR0_2.out HB.out))
       (case side2=>exact HC0_2.out)
       rintro e w22 ⟨v284,rfl,ho0,hb⟩
       refine ⟨_,rfl,?_⟩
       have n0_:=Aside0.mk (Kd.R_lower ho0 (below_size (belV4 HB.out GE278.out GE279.out GE280.out GE289.out)))
       have n1_:=Aside0.mk (blk_below (g:=gb278) (blkV BK278.out) hb)
       have n2_:=Aside0.mk (blk_below (g:=gb279) (blkV BK279.out) hb)
       have n3_:=Aside0.mk (blk_below (g:=gb280) (blkV BK280.out) hb)
       have n4_:=Aside0.mk (blk_below (g:=gb289) (blkV BK289.out) hb)
       have n5_:=Aside0.mk (below_step (belV4 HB.out GE278.out GE279.out GE280.out GE289.out) hb);clear BK278;clear BK279;clear BK280;clear BK289;clear HB;have HO285:=n0_;have BK278:=n1_;have BK279:=n2_;have BK280:=n3_;have BK289:=n4_;have HB:=n5_;clear n0_ n1_ n2_ n3_ n4_ n5_
       (try clear hb)
       (try clear hb2)
       (try clear hk)
       (try clear hi)
       (try clear ho0)
       refine hK.out _ _ ⟨(blk_cell BK278.out 0).trans rfl,(blk_cell BK278.out 1).trans rfl,(blk_cell BK278.out 2).trans rfl,(blk_cell BK278.out 3).trans rfl⟩ (fun hHeld=>?_);clear hK K
       refine norm_ (a':=?_) ?_ ?_;rotate_left
       · show Act.put _ (some 30) _=_
         simp only [Act.put,List.setIfInBounds_toArray,List.set_cons_zero,List.set_cons_succ,i64_w,i32_w];rfl
       refine one_ (i:=9) (N:=some 33) ((bm true [10,1,1,1]).toArray) rfl rfl (one_of HT_.out (by kernel_rfl)) (by decide) (fun K hK=>?_)
       refine goes_ Try.func64 (by kernel_rfl) rfl #[.slice A0_3 l0_3.length c0_3] (by rfl) rfl rfl (by (try simp only [List.map_toArray,List.map_cons,List.map_nil]);first|done|rfl|(simp only [List.length_drop,List.length_take];rfl)) ?_
       with_reducible refine (dioramaref00_CopyInts.calls k _ _ l0_3 t286 _ ?side1 ?side2 A8.out).mono ?_
       (case side1=>exact cV (Kd.C_below HR0_3.out HB.out))
       (case side2=>exact HC0_3.out)
       rintro e w23 ⟨v287,rfl,ho0,hb⟩
       refine ⟨_,rfl,?_⟩
       have n0_:=Aside0.mk (Kd.R_elder' (rowV HO285.out) (Kd.R_base ho0) hb)
       have n1_:=Aside0.mk (Kd.R_lower (Kd.R_new' ho0 (Kd.R_lt (rowV HO285.out))) (below_size (belV4 HB.out GE278.out GE279.out GE280.out GE289.out)))
       have n2_:=Aside0.mk (blk_below (g:=gb278) (blkV BK278.out) hb)
       have n3_:=Aside0.mk (blk_below (g:=gb279) (blkV BK279.out) hb)
       have n4_:=Aside0.mk (blk_below (g:=gb280) (blkV BK280.out) hb)
       have n5_:=Aside0.mk (blk_below (g:=gb289) (blkV BK289.out) hb)
       have n6_:=Aside0.mk (below_step (belV4 HB.out GE278.out GE279.out GE280.out GE289.out) hb);clear HO285;clear BK278;clear BK279;clear BK280;clear BK289;clear HB;have HO285:=n0_;have HO288:=n1_;have BK278:=n2_;have BK279:=n3_;have BK280:=n4_;have BK289:=n5_;have HB:=n6_;clear n0_ n1_ n2_ n3_ n4_ n5_ n6_
       (try clear hb)
       (try clear hb2)
       (try clear hk)
       (try clear hi)
       (try clear ho0)
       obtain ⟨Ao24,co24,eo24⟩:=Kd.R_slice HO288.out
       (first|subst eo24|(injection eo24 with f1_ f2_ f3_;have f4_:=f1_.symm;have f5_:=f3_.symm;clear f1_ f2_ f3_;subst f4_;subst f5_))
       obtain ⟨Ao25,co25,eo25⟩:=Kd.R_slice HO285.out
       (first|subst eo25|(injection eo25 with f1_ f2_ f3_;have f4_:=f1_.symm;have f5_:=f3_.symm;clear f1_ f2_ f3_;subst f4_;subst f5_))
       refine hK.out _ _ ⟨(blk_cell BK278.out 0).trans rfl,(blk_cell BK278.out 1).trans rfl,(blk_cell BK278.out 2).trans rfl,(blk_cell BK278.out 3).trans rfl⟩ (fun hHeld=>?_);clear hK K
       refine norm_ (a':=?_) ?_ ?_;rotate_left
       · show Act.put _ (some 33) _=_
         simp only [Act.put,List.setIfInBounds_toArray,List.set_cons_zero,List.set_cons_succ,i64_w,i32_w];rfl
       refine pure_ (i:=10) (N:=some 34) (v:=?_) (a':=?_) ((bm true [12,1]).toArray) rfl rfl (any_of HT_.out (by kernel_rfl)) (fun _ _ _ h=>h) (Or.inl ⟨by rfl,?_⟩) ?_ ?_;rotate_left
       · intro w';go_simp;with_reducible rfl
       rotate_left
       · simp only [Act.put,List.setIfInBounds_toArray,List.set_cons_zero,List.set_cons_succ,i64_w,i32_w];rfl
       exact norm_ (by simp only [putAll,Act.put,List.setIfInBounds_toArray,List.set_cons_zero,List.set_cons_succ]) (hCont (.slice Ao25 t283.length co25,.slice Ao24 t286.length co24,gb289) _ ⟨hHeld,(by (with_reducible repeat (first|apply Kd.R_alloc|apply Kd.R_drewN|apply Kd.R_drew));exact Kd.R_mono HO285.out (fun _ hk=>hk.2)),(by (with_reducible repeat (first|apply Kd.R_alloc|apply Kd.R_drewN|apply Kd.R_drew));exact Kd.R_mono HO288.out (fun _ hk=>hk.2)),(blkV BK278.out),(blkV BK279.out),(blkV BK280.out),(blkV BK289.out),GW289.out,GE289.out,NB278_289.out,NB289_278.out,NB279_289.out,NB289_279.out,NB280_289.out,NB289_280.out,(belV4 HB.out GE278.out GE279.out GE280.out GE289.out)⟩)
     rintro ⟨v284,v287,gb289⟩ w26 ⟨hS_,h0_,h1_,h2_,h3_,h4_,h5_,h6_,h7_,h8_,h9_,h10_,h11_,h12_,h13_,h14_⟩
     have n0_:Aside0 (Kd.R (Kd.int .i64) 3 w26 w.heap.size (fun k_=>some k_≠(v287:Value).ownBlock) v284 t283):=⟨h0_⟩
     have n1_:Aside0 (Kd.R (Kd.int .i64) 3 w26 w.heap.size (fun k_=>some k_≠(v284:Value).ownBlock) v287 t286):=⟨h1_⟩
     have n2_:Aside0 (w26.heap[gb278]?=some (.cells #[.int .i64 a0_0,.int .i64 a0_1,.slice A0_2 l0_2.length c0_2,.slice A0_3 l0_3.length c0_3] 41 (0,0))):=⟨h2_⟩
     have n3_:Aside0 (w26.heap[gb279]?=some (.cells #[.bool a1_0,.slice A1_1 l1_1.length c1_1,.slice A1_2 l1_2.length c1_2] 51 (0,0))):=⟨h3_⟩
     have n4_:Aside0 (w26.heap[gb280]?=some (.cells #[.int .i64 0,.int .i64 0,.slice none 0 0,.slice none 0 0] 41 (0,0))):=⟨h4_⟩
     have n5_:Aside0 (w26.heap[gb289]?=some (.cells #[.int .i64 0,.int .i64 0,.slice none 0 0,.slice none 0 0] 41 (0,0))):=⟨h5_⟩
     have n6_:Aside0 (w.heap.size≤gb289):=⟨h6_⟩
     have n7_:Aside0 (w.heap.size≤gb289):=⟨h7_⟩
     have n8_:Aside0 (gb278≠gb289):=⟨h8_⟩
     have n9_:Aside0 (gb289≠gb278):=⟨h9_⟩
     have n10_:Aside0 (gb279≠gb289):=⟨h10_⟩
     have n11_:Aside0 (gb289≠gb279):=⟨h11_⟩
     have n12_:Aside0 (gb280≠gb289):=⟨h12_⟩
     have n13_:Aside0 (gb289≠gb280):=⟨h13_⟩
     have n14_:Aside0 (Below w.heap.size w w26):=⟨h14_⟩;clear BK278;clear BK279;clear BK280;clear HB;clear h0_ h1_ h2_ h3_ h4_ h5_ h6_ h7_ h8_ h9_ h10_ h11_ h12_ h13_ h14_;have HO285:=n0_;have HO288:=n1_;have BK278:=n2_;have BK279:=n3_;have BK280:=n4_;have BK289:=n5_
     have GW289:=n6_
     have GE289:=n7_
     have NB278_289:=n8_
     have NB289_278:=n9_
     have NB279_289:=n10_
     have NB289_279:=n11_
     have NB280_289:=n12_
     have NB289_280:=n13_;have HB:=n14_;clear n0_ n1_ n2_ n3_ n4_ n5_ n6_ n7_ n8_ n9_ n10_ n11_ n12_ n13_ n14_
     have hHeld:w26.cell? ⟨gb278,0,none⟩=some (.int .i64 a0_0)∧w26.cell? ⟨gb278,1,none⟩=some (.int .i64 a0_1)∧w26.cell? ⟨gb278,2,none⟩=some (.slice A0_2 l0_2.length c0_2)∧w26.cell? ⟨gb278,3,none⟩=some (.slice A0_3 l0_3.length c0_3):=hS_
     obtain ⟨Ao27,co27,eo27⟩:=Kd.R_slice HO288.out
     (first|subst eo27|(injection eo27 with f1_ f2_ f3_;have f4_:=f1_.symm;have f5_:=f3_.symm;clear f1_ f2_ f3_;subst f4_;subst f5_))
     obtain ⟨Ao28,co28,eo28⟩:=Kd.R_slice HO285.out
     (first|subst eo28|(injection eo28 with f1_ f2_ f3_;have f4_:=f1_.symm;have f5_:=f3_.symm;clear f1_ f2_ f3_;subst f4_;subst f5_))
     refine norm_ (a':=?_) ?_ ?_;rotate_left
     · simp only [putAll,Act.put,List.setIfInBounds_toArray,List.set_cons_zero,List.set_cons_succ];rfl
     refine one_ (i:=12) (N:=none) ((bm true [13]).toArray) rfl rfl (one_of HT_.out (by kernel_rfl)) (by decide) (fun K hK=>?_)
     have hs29:w26.cell? ⟨gb289,0,none⟩=some (.int .i64 0):=(blk_cell BK289.out 0).trans rfl
     have hfs29:=blk_frozen BK289.out 0
     have hns29_0:=NB278_289.out
     have hns29_1:=NB279_289.out
     have hns29_2:=NB280_289.out
     have hms29_0:=NB289_278.out
     have hms29_1:=NB289_279.out
     have hms29_2:=NB289_280.out
     have hs30:w26.cell? ⟨gb289,1,none⟩=some (.int .i64 0):=(blk_cell BK289.out 1).trans rfl
     have hfs30:=blk_frozen BK289.out 1
     have hns30_0:=NB278_289.out
     have hns30_1:=NB279_289.out
     have hns30_2:=NB280_289.out
     have hms30_0:=NB289_278.out
     have hms30_1:=NB289_279.out
     have hms30_2:=NB289_280.out
     have hs31:w26.cell? ⟨gb289,2,none⟩=some (.slice none 0 0):=(blk_cell BK289.out 2).trans rfl
     have hfs31:=blk_frozen BK289.out 2
     have hns31_0:=NB278_289.out
     have hns31_1:=NB279_289.out
     have hns31_2:=NB280_289.out
     have hms31_0:=NB289_278.out
     have hms31_1:=NB289_279.out
     have hms31_2:=NB289_280.out
     have hs32:w26.cell? ⟨gb289,3,none⟩=some (.slice none 0 0):=(blk_cell BK289.out 3).trans rfl
     have hfs32:=blk_frozen BK289.out 3
     have hns32_0:=NB278_289.out
     have hns32_1:=NB279_289.out
     have hns32_2:=NB280_289.out
     have hms32_0:=NB289_278.out
     have hms32_1:=NB289_279.out
     have hms32_2:=NB289_280.out
     refine skip_ (w1:=?_) (by rfl) rfl ?_ ?_;rotate_left
     · go_simp;rfl
     refine hK.out _ _ ⟨((cell_far (p:=⟨gb289,_,none⟩) NB278_289.out _).trans (((cell_far (p:=⟨gb289,_,none⟩) NB278_289.out _).trans (((cell_far (p:=⟨gb289,_,none⟩) NB278_289.out _).trans (((cell_far (p:=⟨gb289,_,none⟩) NB278_289.out _).trans (hHeld.1)))))))),((cell_far (p:=⟨gb289,_,none⟩) NB278_289.out _).trans (((cell_far (p:=⟨gb289,_,none⟩) NB278_289.out _).trans (((cell_far (p:=⟨gb289,_,none⟩) NB278_289.out _).trans (((cell_far (p:=⟨gb289,_,none⟩) NB278_289.out _).trans (hHeld.2.1)))))))),((cell_far (p:=⟨gb289,_,none⟩) NB278_289.out _).trans (((cell_far (p:=⟨gb289,_,none⟩) NB278_289.out _).trans (((cell_far (p:=⟨gb289,_,none⟩) NB278_289.out _).trans (((cell_far (p:=⟨gb289,_,none⟩) NB278_289.out _).trans (hHeld.2.2.1)))))))),((cell_far (p:=⟨gb289,_,none⟩) NB278_289.out _).trans (((cell_far (p:=⟨gb289,_,none⟩) NB278_289.out _).trans (((cell_far (p:=⟨gb289,_,none⟩) NB278_289.out _).trans (((cell_far (p:=⟨gb289,_,none⟩) NB278_289.out _).trans (hHeld.2.2.2))))))))⟩ (fun hHeld=>?_)
     clear hK K
     refine done_ (done_of HT_.out (by kernel_rfl)) ?_
     have hnb33:=NB279_289.out
     have hnc33:=NB289_279.out
     obtain ⟨hcz34_0,hcz34_1,hcz34_2,hfz34_0,hfz34_1,hfz34_2⟩:=bcells3 BK279.out
     go_upto_if 36 with (fail)
     go_cut [] (fun wc=>∃ (kq:Nat) (x290002_8:List Int) (x290003_8:List Int) (u290002:Value) (u290003:Value),Aside0 (dioramaref19_Draw.j1 kq a0_0 a0_1 l0_2 l0_3 a1_0 l1_1 l1_2 a0_0 a0_1 x290002_8 x290003_8=some (r1,r2,r3,r4,r5))∧Aside0 (kq≤k)∧Aside0 (Kd.R (Kd.int .i64) 3 wc w.heap.size (fun k_=>some k_≠(u290003:Value).ownBlock) u290002 x290002_8)∧Aside0 (Kd.R (Kd.int .i64) 3 wc w.heap.size (fun k_=>some k_≠(u290002:Value).ownBlock) u290003 x290003_8)∧Aside0 (wc.heap[gb278]?=some (.cells #[.int .i64 a0_0,.int .i64 a0_1,(.slice A0_2 l0_2.length c0_2),(.slice A0_3 l0_3.length c0_3)] 41 (0,0)))∧Aside0 (wc.heap[gb279]?=some (.cells #[.bool a1_0,(.slice A1_1 l1_1.length c1_1),(.slice A1_2 l1_2.length c1_2)] 51 (0,0)))∧Aside0 (wc.heap[gb280]?=some (.cells #[.int .i64 0,.int .i64 0,(.slice none 0 0),(.slice none 0 0)] 41 (0,0)))∧Aside0 (wc.heap[gb289]?=some (.cells #[.int .i64 a0_0,.int .i64 a0_1,u290002,u290003] 41 (0,0)))∧Aside0 (Below w.heap.size w wc))
     case first =>
      have H:=HC9.out;clear HC9
      by_cases c35:a1_0=true
      · subst c35
        have H1:(dioramaref19_Draw.l0 k 0 a0_0 a0_1 l0_2 l0_3 true l1_1 l1_2 a0_0 a0_1 t283 t286)=some (r1,r2,r3,r4,r5):=by rw [if_pos rfl] at H;exact H
        clear H
        have H:=H1;clear H1
        have H':=Aside0.mk H;clear H
        go_wp2
        go_loopg [8] k (fun kq v8 w'=>∃ (x8_1:Int) (x290002_1:List Int) (x290003_1:List Int) (u290002:Value) (u290003:Value),v8=.int .i64 x8_1∧Aside0 (dioramaref19_Draw.l0 kq x8_1 a0_0 a0_1 l0_2 l0_3 true l1_1 l1_2 a0_0 a0_1 x290002_1 x290003_1=some (r1,r2,r3,r4,r5))∧Aside0 (kq≤k)∧Aside0 (Kd.R (Kd.int .i64) 3 w' w.heap.size (fun k_=>some k_≠(u290003:Value).ownBlock) u290002 x290002_1)∧Aside0 (Kd.R (Kd.int .i64) 3 w' w.heap.size (fun k_=>some k_≠(u290002:Value).ownBlock) u290003 x290003_1)∧Aside0 (w'.heap[gb278]?=some (.cells #[.int .i64 a0_0,.int .i64 a0_1,(.slice A0_2 l0_2.length c0_2),(.slice A0_3 l0_3.length c0_3)] 41 (0,0)))∧Aside0 (w'.heap[gb279]?=some (.cells #[.bool true,(.slice A1_1 l1_1.length c1_1),(.slice A1_2 l1_2.length c1_2)] 51 (0,0)))∧Aside0 (w'.heap[gb280]?=some (.cells #[.int .i64 0,.int .i64 0,(.slice none 0 0),(.slice none 0 0)] 41 (0,0)))∧Aside0 (w'.heap[gb289]?=some (.cells #[.int .i64 a0_0,.int .i64 a0_1,u290002,u290003] 41 (0,0)))∧Aside0 (Below w.heap.size w w'))
        case atStart=>exact ⟨(0),(t283),(t286),(.slice Ao28 t283.length co28),(.slice Ao27 t286.length co27),okV,H',⟨Nat.le_refl _⟩,⟨by (with_reducible repeat (first|apply Kd.R_alloc|apply Kd.R_drewN|apply Kd.R_drew));exact Kd.R_mono (Kd.R_put4 HO285.out BK289.out (by decide)) (fun _ hk=>hk.1)⟩,⟨by (with_reducible repeat (first|apply Kd.R_alloc|apply Kd.R_drewN|apply Kd.R_drew));exact Kd.R_mono (Kd.R_put4 HO288.out BK289.out (by decide)) (fun _ hk=>hk.1)⟩,⟨blkW BK278.out NB278_289.out⟩,⟨blkW BK279.out NB279_289.out⟩,⟨blkW BK280.out NB280_289.out⟩,⟨by (with_reducible repeat (first|refine blk_drewN ?_ _|refine blk_drew ?_|refine blk_alloc ?_ _));refine blk_put (cs:=#[.int .i64 a0_0,.int .i64 a0_1,.slice Ao28 t283.length co28,.slice none 0 0]) ?_ 3 _ rfl;(with_reducible repeat (first|refine blk_drewN ?_ _|refine blk_drew ?_|refine blk_alloc ?_ _));refine blk_put (cs:=#[.int .i64 a0_0,.int .i64 a0_1,.slice none 0 0,.slice none 0 0]) ?_ 2 _ rfl;(with_reducible repeat (first|refine blk_drewN ?_ _|refine blk_drew ?_|refine blk_alloc ?_ _));refine blk_put (cs:=#[.int .i64 a0_0,.int .i64 0,.slice none 0 0,.slice none 0 0]) ?_ 1 _ rfl;(with_reducible repeat (first|refine blk_drewN ?_ _|refine blk_drew ?_|refine blk_alloc ?_ _));refine blk_put (cs:=#[.int .i64 0,.int .i64 0,.slice none 0 0,.slice none 0 0]) ?_ 0 _ rfl;(with_reducible repeat (first|refine blk_drewN ?_ _|refine blk_drew ?_|refine blk_alloc ?_ _));exact BK289.out⟩,⟨belV4 HB.out GE278.out GE279.out GE280.out GE289.out⟩⟩
        case round =>
         clear H'
         try clear c1;try clear p2;try clear c3;try clear c4;try clear c6;try clear c6b0;try clear c6b1;try clear c13;try clear c14;try clear c17;try clear c31;try clear c33;try clear c35;try clear hcz15_0 hcz15_1 hcz15_2 hcz15_3;try clear hcz18_0 hcz18_1 hcz18_2;try clear hcz34_0 hcz34_1 hcz34_2;try clear hfz15_0 hfz15_1 hfz15_2 hfz15_3;try clear hfz18_0 hfz18_1 hfz18_2;try clear hfz34_0 hfz34_1 hfz34_2
         obtain ⟨x8_1,x290002_1,x290003_1,u290002,u290003,rfl,HA,HK1,HO_290002,HO_290003,BK278,BK279,BK280,BK289,HB⟩:=hrel
         cases gk with
         | zero=>exact absurd HA.out (by simp [dioramaref19_Draw.l0])
         | succ k1 =>
          have H:=HA.out;clear HA
          simp only [dioramaref19_Draw.l0] at H
          by_cases c36:x8_1 < (x290003_1.length:Int)
          · rw [if_pos c36] at H
            have c36b0:decide (x8_1 < (x290003_1.length:Int))=true:=decide_eq_true c36;clear c36
            (first|rw [c36b0]|(simp only [i64_w,i32_w];rw [c36b0])|rw [c36b1]|skip)
            by_cases c37:0≤x8_1
            · rw [if_pos c37] at H
              have c37b0:decide (0≤x8_1)=true:=decide_eq_true c37;clear c37
              obtain ⟨y290,hy290⟩:∃ y_:List Int,y_=(x290003_1.set (x8_1:Int).toNat (-1)):=⟨_,rfl⟩
              replace H:(dioramaref19_Draw.l0 k1 (wrap64 (x8_1+1)) a0_0 a0_1 l0_2 l0_3 true l1_1 l1_2 a0_0 a0_1 x290002_1 y290)=some (r1,r2,r3,r4,r5):=by first|(rw [hy290];with_reducible exact H)|(have H2_:=(Option.bind_some _ _).symm.trans H;rw [hy290];with_reducible exact H2_)|(have H2_:=(Option.bind_some _ _).symm.trans H;with_reducible exact H2_)|with_reducible exact H|(rw [hy290];exact H)|exact H
              have Ny290:=Aside0.mk hy290;clear hy290
              have H':=Aside0.mk H;clear H
              have hnb39:=NB289_278.out
              have hnc39:=NB278_289.out
              have hnb40:=NB289_279.out
              have hnc40:=NB279_289.out
              have hnb41:=NB289_280.out
              have hnc41:=NB280_289.out
              obtain ⟨hcz42_0,hcz42_1,hcz42_2,hcz42_3,hfz42_0,hfz42_1,hfz42_2,hfz42_3⟩:=bcells4 BK289.out
              obtain ⟨Ao43,co43,eo43⟩:=Kd.R_slice HO_290003.out;subst eo43
              have p38:0≤(x8_1:Int):=of_decide_eq_true asV
              have q38:(x8_1:Int) < ((x290003_1.length:Int):Int):=of_decide_eq_true asV
              obtain ⟨go38,co38,eo38,gb38,gl38,cl38,HG38⟩:=Kd.R_form HO_290003.out (by omega)
              (first|cases eo38|(injection eo38 with ea_ en_ ec_;(first|subst ea_|(injection ea_ with ea_;subst ea_));subst ec_;clear en_))
              have GB38:=Aside0.mk gb38
              have GG38:=Aside0.mk HG38;clear gb38 gl38 HG38
              obtain ⟨hx38_0,hf38_0⟩:=Kd.R_celln 0 HO_290003.out (x8_1:Int) p38 q38
              replace p38:=eq_true p38
              replace q38:=eq_true q38
              have HP44:=Kd.R_putg HO_290003.out (x8_1:Int) (-1)
              go_wp2_with (first|((with_reducible refine gate_store (t:=3) (p:=47) rfl ?_);refine store_event (t:=3) (p:=47) (v:=?vo_w45) (w1:=(wr.setCell ⟨go38,(x8_1:Int).toNat,none⟩ (.int .i64 (-1)))) ?hg ?ho ?hn ?hr ?_;(case ho=>rfl);(case hg=>rfl);(case hn=>rfl);(case hr=>first|(go_simp;done)|(go_simp;rfl));intro w45 hw;have hg:wr.grownBy w45 (some go38):=(by rw [hw];exact HP44.2);have hp_:Kd.R (Kd.int .i64) 3 w45 w.heap.size (fun k_=>some k_≠(u290002:Value).ownBlock) (.slice (some ⟨go38,0,none⟩) x290003_1.length co43) y290:=(by rw [hw,Ny290.out];exact HP44.1);clear HP44;have n0_:=Aside0.mk (Kd.R_after (v:=(.slice (some ⟨go38,0,none⟩) x290003_1.length co43)) (v1:=(.slice (some ⟨go38,0,none⟩) x290003_1.length co43)) (ok:=(fun _=>True)) (by (with_reducible repeat (first|apply Kd.R_alloc|apply Kd.R_drewN|apply Kd.R_drew));exact Kd.R_mono HO_290002.out (fun _ hk=>⟨trivial,hk⟩)) hg (.inl rfl));have n1_:=Aside0.mk (hp_);have n2_:=Aside0.mk (blk_grown (g:=gb278) (blkV BK278.out) hg (Kd.R_ne HO_290003.out BK278.out (by decide)));have n3_:=Aside0.mk (blk_grown (g:=gb279) (blkV BK279.out) hg (Kd.R_ne HO_290003.out BK279.out (by decide)));have n4_:=Aside0.mk (blk_grown (g:=gb280) (blkV BK280.out) hg (Kd.R_ne HO_290003.out BK280.out (by decide)));have n5_:=Aside0.mk (blk_grown (g:=gb289) (blkV BK289.out) hg (Kd.R_ne HO_290003.out BK289.out (by decide)));have n6_:=Aside0.mk ((by rw [hw];exact below_set (HB.out) GB38.out:Below w.heap.size w w45));clear HO_290002;clear HO_290003;clear BK278;clear BK279;clear BK280;clear BK289;clear HB;have HO_290002:=n0_;have HO_290003:=n1_;have BK278:=n2_;have BK279:=n3_;have BK280:=n4_;have BK289:=n5_;have HB:=n6_;clear n0_ n1_ n2_ n3_ n4_ n5_ n6_;clear hg hw hp_))
              go_roundg k1
              case measure=>have:=HK1.out;omega
              case rel=>exact ⟨(wrap64 (x8_1+1)),(x290002_1),(y290),(u290002),(.slice (some ⟨go38,0,none⟩) x290003_1.length co43),okV,H',⟨by have:=HK1.out;omega⟩,⟨by (with_reducible repeat (first|apply Kd.R_alloc|apply Kd.R_drewN|apply Kd.R_drew));exact Kd.R_mono HO_290002.out (fun _ hk=>hk.2)⟩,⟨rowV HO_290003.out⟩,⟨blkV BK278.out⟩,⟨blkV BK279.out⟩,⟨blkV BK280.out⟩,⟨blkV BK289.out⟩,⟨belV4 HB.out GE278.out GE279.out GE280.out GE289.out⟩⟩
            rw [if_neg c37] at H
            exact absurd H (by simp)
          rw [if_neg c36] at H
          have c36b0:decide (x8_1 < (x290003_1.length:Int))=false:=decide_eq_false c36;clear c36
          (first|rw [c36b0]|(simp only [i64_w,i32_w];rw [c36b0])|rw [c36b1]|skip)
          have H':=Aside0.mk H;clear H
          have hnb46:=NB289_278.out
          have hnc46:=NB278_289.out
          have hnb47:=NB289_279.out
          have hnc47:=NB279_289.out
          have hnb48:=NB289_280.out
          have hnc48:=NB280_289.out
          obtain ⟨hcz49_0,hcz49_1,hcz49_2,hcz49_3,hfz49_0,hfz49_1,hfz49_2,hfz49_3⟩:=bcells4 BK289.out
          obtain ⟨Ao50,co50,eo50⟩:=Kd.R_slice HO_290003.out;subst eo50
          go_wp2
          go_meet
          case rel=>exact ⟨_,(x290002_1),(x290003_1),(u290002),(.slice Ao50 x290003_1.length co50),H',⟨by have:=HK1.out;first|omega|exact Nat.le_refl _⟩,⟨rowV HO_290002.out⟩,⟨rowV HO_290003.out⟩,⟨blkV BK278.out⟩,⟨blkV BK279.out⟩,⟨blkV BK280.out⟩,⟨blkV BK289.out⟩,⟨belV4 HB.out GE278.out GE279.out GE280.out GE289.out⟩⟩
      replace c35:=Bool.eq_false_iff.mpr c35;subst c35
      have H1:(dioramaref19_Draw.j1 k a0_0 a0_1 l0_2 l0_3 false l1_1 l1_2 a0_0 a0_1 t283 t286)=some (r1,r2,r3,r4,r5):=by rw [if_neg (show ¬ (false=true) by decide)] at H;exact H
      clear H
      have H:=H1;clear H1
      have H':=Aside0.mk H;clear H
      go_wp2
      go_meet
      case rel=>exact ⟨_,(t283),(t286),(.slice Ao28 t283.length co28),(.slice Ao27 t286.length co27),H',⟨by first|omega|exact Nat.le_refl _⟩,⟨by (with_reducible repeat (first|apply Kd.R_alloc|apply Kd.R_drewN|apply Kd.R_drew));exact Kd.R_mono (Kd.R_put4 HO285.out BK289.out (by decide)) (fun _ hk=>hk.1)⟩,⟨by (with_reducible repeat (first|apply Kd.R_alloc|apply Kd.R_drewN|apply Kd.R_drew));exact Kd.R_mono (Kd.R_put4 HO288.out BK289.out (by decide)) (fun _ hk=>hk.1)⟩,⟨blkW BK278.out NB278_289.out⟩,⟨blkW BK279.out NB279_289.out⟩,⟨blkW BK280.out NB280_289.out⟩,⟨by (with_reducible repeat (first|refine blk_drewN ?_ _|refine blk_drew ?_|refine blk_alloc ?_ _));refine blk_put (cs:=#[.int .i64 a0_0,.int .i64 a0_1,.slice Ao28 t283.length co28,.slice none 0 0]) ?_ 3 _ rfl;(with_reducible repeat (first|refine blk_drewN ?_ _|refine blk_drew ?_|refine blk_alloc ?_ _));refine blk_put (cs:=#[.int .i64 a0_0,.int .i64 a0_1,.slice none 0 0,.slice none 0 0]) ?_ 2 _ rfl;(with_reducible repeat (first|refine blk_drewN ?_ _|refine blk_drew ?_|refine blk_alloc ?_ _));refine blk_put (cs:=#[.int .i64 a0_0,.int .i64 0,.slice none 0 0,.slice none 0 0]) ?_ 1 _ rfl;(with_reducible repeat (first|refine blk_drewN ?_ _|refine blk_drew ?_|refine blk_alloc ?_ _));refine blk_put (cs:=#[.int .i64 0,.int .i64 0,.slice none 0 0,.slice none 0 0]) ?_ 0 _ rfl;(with_reducible repeat (first|refine blk_drewN ?_ _|refine blk_drew ?_|refine blk_alloc ?_ _));exact BK289.out⟩,⟨belV4 HB.out GE278.out GE279.out GE280.out GE289.out⟩⟩
     case rest =>
      clear HC9
      try clear c1;try clear p2 p2;try clear c3;try clear p3;try clear q3;try clear hx3;try clear hf3;try clear c4;try clear c6;try clear c6b0;try clear c6b1;try clear p6;try clear c13;try clear c14;try clear c17;try clear c31;try clear c33;try clear c35;try clear c36;try clear c36b0;try clear c36b1;try clear c37;try clear c37b0;try clear p38 p38;try clear q38 q38;try clear hx38;try clear hf38;try clear c39;try clear c40;try clear c41;try clear c46;try clear c47;try clear c48;try clear hcz15_0 hcz15_1 hcz15_2 hcz15_3;try clear hcz18_0 hcz18_1 hcz18_2;try clear hcz34_0 hcz34_1 hcz34_2;try clear hcz42_0 hcz42_1 hcz42_2 hcz42_3;try clear hcz49_0 hcz49_1 hcz49_2 hcz49_3;try clear hfz15_0 hfz15_1 hfz15_2 hfz15_3;try clear hfz18_0 hfz18_1 hfz18_2;try clear hfz34_0 hfz34_1 hfz34_2;try clear hfz42_0 hfz42_1 hfz42_2 hfz42_3;try clear hfz49_0 hfz49_1 hfz49_2 hfz49_3;try clear hx38_0
      obtain ⟨kq,x290002_8,x290003_8,u290002,u290003,HA,HJ8,HO_290002,HO_290003,BK278,BK279,BK280,BK289,HB⟩:=hcut
      cases kq with
      | zero=>exact absurd HA.out (by simp [dioramaref19_Draw.j1])
      | succ kj8 =>
       have H:=HA.out;clear HA
       simp only [dioramaref19_Draw.j1] at H
       have HC51:=Aside0.mk H;clear H
       have hnb52:=NB279_278.out
       have hnc52:=NB278_279.out
       have hnb53:=NB279_280.out
       have hnc53:=NB280_279.out
       have hnb54:=NB279_289.out
       have hnc54:=NB289_279.out
       obtain ⟨hcz55_0,hcz55_1,hcz55_2,hfz55_0,hfz55_1,hfz55_2⟩:=bcells3 BK279.out
       go_upto_if 51 with (fail)
       go_cut [] (fun wc=>∃ (kq:Nat) (x290002_50:List Int) (u290002:Value),Aside0 (dioramaref19_Draw.j2 kq a0_0 a0_1 l0_2 l0_3 a1_0 l1_1 l1_2 a0_0 a0_1 x290002_50 x290003_8=some (r1,r2,r3,r4,r5))∧Aside0 (kq≤kj8)∧Aside0 (Kd.R (Kd.int .i64) 3 wc w.heap.size (fun k_=>some k_≠(u290003:Value).ownBlock) u290002 x290002_50)∧Aside0 (Kd.R (Kd.int .i64) 3 wc w.heap.size (fun k_=>some k_≠(u290002:Value).ownBlock) u290003 x290003_8)∧Aside0 (wc.heap[gb278]?=some (.cells #[.int .i64 a0_0,.int .i64 a0_1,(.slice A0_2 l0_2.length c0_2),(.slice A0_3 l0_3.length c0_3)] 41 (0,0)))∧Aside0 (wc.heap[gb279]?=some (.cells #[.bool a1_0,(.slice A1_1 l1_1.length c1_1),(.slice A1_2 l1_2.length c1_2)] 51 (0,0)))∧Aside0 (wc.heap[gb280]?=some (.cells #[.int .i64 0,.int .i64 0,(.slice none 0 0),(.slice none 0 0)] 41 (0,0)))∧Aside0 (wc.heap[gb289]?=some (.cells #[.int .i64 a0_0,.int .i64 a0_1,u290002,u290003] 41 (0,0)))∧Aside0 (Below w.heap.size w wc))
       case first =>
        have H:=HC51.out;clear HC51
        by_cases c56:(l1_1.length:Int) > 0
        · rw [if_pos c56] at H
          have c56b0:decide (0 < (l1_1.length:Int))=true:=decide_eq_true c56
          have c56b1:decide (0 < l1_1.length)=true:=decide_eq_true (by omega);clear c56
          (first|rw [c56b0]|(simp only [i64_w,i32_w];rw [c56b0])|rw [c56b1]|skip)
          replace H:=Option.bind_eq_some_iff.mp H
          obtain ⟨t291,A570,H⟩:=H
          replace H:(dioramaref19_Draw.j2 kj8 a0_0 a0_1 l0_2 l0_3 a1_0 l1_1 l1_2 a0_0 a0_1 t291 x290003_8)=some (r1,r2,r3,r4,r5):=H
          have A57:=Aside0.mk A570;clear A570
          have H':=Aside0.mk H;clear H
          have hnb58:=NB279_278.out
          have hnc58:=NB278_279.out
          have hnb59:=NB279_280.out
          have hnc59:=NB280_279.out
          have hnb60:=NB279_289.out
          have hnc60:=NB289_279.out
          obtain ⟨hcz61_0,hcz61_1,hcz61_2,hfz61_0,hfz61_1,hfz61_2⟩:=bcells3 BK279.out
          go_wp2_with (first|((with_reducible refine gate_callee (f:=64) rfl ?_);refine goesL_ (some 54) rfl rfl Try.func64 (by kernel_rfl) rfl #[.slice A1_1 l1_1.length c1_1] rfl (by (try simp only [List.map_toArray,List.map_cons,List.map_nil]);first|done|rfl|(simp only [List.length_drop,List.length_take];rfl)) ?_;(with_reducible refine (dioramaref00_CopyInts.calls kj8 _ _ l1_1 t291 _ ?side1 ?side2 A57.out).mono ?_);(case side1=>exact cV (Kd.C_below HR1_1.out HB.out));(case side2=>exact HC1_1.out);rintro e w62 ⟨v292,rfl,ho0,hb⟩;refine ⟨_,rfl,?_⟩;have n0_:=Aside0.mk (Kd.R_elder' (rowV HO_290002.out) (Kd.R_base ho0) hb);have n1_:=Aside0.mk (Kd.R_elder' (rowV HO_290003.out) (Kd.R_base ho0) hb);have n2_:=Aside0.mk (Kd.R_lower (Kd.R_new' (Kd.R_new' ho0 (Kd.R_lt (rowV HO_290002.out))) (Kd.R_lt (rowV HO_290003.out))) (below_size (belV4 HB.out GE278.out GE279.out GE280.out GE289.out)));have n3_:=Aside0.mk (blk_below (g:=gb278) (blkV BK278.out) hb);have n4_:=Aside0.mk (blk_below (g:=gb279) (blkV BK279.out) hb);have n5_:=Aside0.mk (blk_below (g:=gb280) (blkV BK280.out) hb);have n6_:=Aside0.mk (blk_below (g:=gb289) (blkV BK289.out) hb);have n7_:=Aside0.mk (below_step (belV4 HB.out GE278.out GE279.out GE280.out GE289.out) hb);clear HO_290002;clear HO_290003;clear BK278;clear BK279;clear BK280;clear BK289;clear HB;have HO_290002:=n0_;have HO_290003:=n1_;have HO293:=n2_;have BK278:=n3_;have BK279:=n4_;have BK280:=n5_;have BK289:=n6_;have HB:=n7_;clear n0_ n1_ n2_ n3_ n4_ n5_ n6_ n7_;(try clear hb);(try clear hb2);(try clear hk);(try clear hi);(try clear ho0);obtain ⟨Ao63,co63,eo63⟩:=Kd.R_slice HO293.out;subst eo63;have hnb64:=NB289_278.out;have hnc64:=NB278_289.out;have hnb65:=NB289_280.out;have hnc65:=NB280_289.out;obtain ⟨hcz66_0,hcz66_1,hcz66_2,hcz66_3,hfz66_0,hfz66_1,hfz66_2,hfz66_3⟩:=bcells4 BK289.out))
          go_meet
          case rel=>exact ⟨_,(t291),(.slice Ao63 t291.length co63),H',⟨by have:=HJ8.out;first|omega|exact Nat.le_refl _⟩,⟨by (with_reducible repeat (first|apply Kd.R_alloc|apply Kd.R_drewN|apply Kd.R_drew));exact Kd.R_mono (Kd.R_put1 HO293.out BK289.out (by decide)) (fun _ hk=>hk.1.2)⟩,⟨by (with_reducible repeat (first|apply Kd.R_alloc|apply Kd.R_drewN|apply Kd.R_drew));exact Kd.R_mono (Kd.R_put1 HO_290003.out BK289.out (by decide)) (fun _ hk=>hk.1.2)⟩,⟨blkW BK278.out NB278_289.out⟩,⟨blkW BK279.out NB279_289.out⟩,⟨blkW BK280.out NB280_289.out⟩,⟨by (with_reducible repeat (first|refine blk_drewN ?_ _|refine blk_drew ?_|refine blk_alloc ?_ _));refine blk_put (cs:=#[.int .i64 a0_0,.int .i64 a0_1,u290002,u290003]) ?_ 2 _ rfl;(with_reducible repeat (first|refine blk_drewN ?_ _|refine blk_drew ?_|refine blk_alloc ?_ _));exact BK289.out⟩,⟨belV4 HB.out GE278.out GE279.out GE280.out GE289.out⟩⟩
        rw [if_neg c56] at H
        have c56b0:decide (0 < (l1_1.length:Int))=false:=decide_eq_false c56
        have c56b1:decide (0 < l1_1.length)=false:=decide_eq_false (by omega);clear c56
        (first|rw [c56b0]|(simp only [i64_w,i32_w];rw [c56b0])|rw [c56b1]|skip)
        have H':=Aside0.mk H;clear H
        go_wp2
        go_meet
        case rel=>exact ⟨_,(x290002_8),(u290002),H',⟨by have:=HJ8.out;first|omega|exact Nat.le_refl _⟩,⟨rowV HO_290002.out⟩,⟨rowV HO_290003.out⟩,⟨blkV BK278.out⟩,⟨blkV BK279.out⟩,⟨blkV BK280.out⟩,⟨blkV BK289.out⟩,⟨belV4 HB.out GE278.out GE279.out GE280.out GE289.out⟩⟩
       case rest =>
        clear HC51
        try clear c1;try clear p2 p2;try clear c3;try clear p3 p3;try clear q3 q3;try clear hx3;try clear hf3;try clear c4;try clear c5;try clear c6;try clear c6b0;try clear c6b1;try clear p6 p6;try clear c13;try clear c14;try clear c17;try clear c31;try clear c33;try clear c35;try clear c36;try clear c36b0;try clear c36b1;try clear c37;try clear c37b0;try clear p38 p38;try clear q38 q38;try clear hx38;try clear hf38;try clear c39;try clear c40;try clear c41;try clear c46;try clear c47;try clear c48;try clear c52;try clear c53;try clear c54;try clear c56;try clear c56b0;try clear c56b1;try clear c58;try clear c59;try clear c60;try clear c64;try clear p64;try clear c65;try clear hcz15_0 hcz15_1 hcz15_2 hcz15_3;try clear hcz18_0 hcz18_1 hcz18_2;try clear hcz34_0 hcz34_1 hcz34_2;try clear hcz42_0 hcz42_1 hcz42_2 hcz42_3;try clear hcz49_0 hcz49_1 hcz49_2 hcz49_3;try clear hcz55_0 hcz55_1 hcz55_2;try clear hcz61_0 hcz61_1 hcz61_2;try clear hcz66_0 hcz66_1 hcz66_2 hcz66_3;try clear hfz15_0 hfz15_1 hfz15_2 hfz15_3;try clear hfz18_0 hfz18_1 hfz18_2;try clear hfz34_0 hfz34_1 hfz34_2;try clear hfz42_0 hfz42_1 hfz42_2 hfz42_3;try clear hfz49_0 hfz49_1 hfz49_2 hfz49_3;try clear hfz55_0 hfz55_1 hfz55_2;try clear hfz61_0 hfz61_1 hfz61_2;try clear hfz66_0 hfz66_1 hfz66_2 hfz66_3;try clear hx38_0
        obtain ⟨kq,x290002_50,u290002,HA,HJ50,HO_290002,HO_290003,BK278,BK279,BK280,BK289,HB⟩:=hcut
        cases kq with
        | zero=>exact absurd HA.out (by simp [dioramaref19_Draw.j2])
        | succ kj50 =>
         have H:=HA.out;clear HA
         simp only [dioramaref19_Draw.j2] at H
         have H':=Aside0.mk H;clear H
         go_wp2
         go_loopg [9] kj50 (fun kq v9 w'=>∃ (x9_3:Int) (x290002_3:List Int) (x290003_3:List Int) (u290002:Value) (u290003:Value),v9=.int .i64 x9_3∧Aside0 (dioramaref19_Draw.l1 kq x9_3 a0_0 a0_1 l0_2 l0_3 a1_0 l1_1 l1_2 a0_0 a0_1 x290002_3 x290003_3=some (r1,r2,r3,r4,r5))∧Aside0 (kq≤kj50)∧Aside0 (Kd.R (Kd.int .i64) 3 w' w.heap.size (fun k_=>some k_≠(u290003:Value).ownBlock) u290002 x290002_3)∧Aside0 (Kd.R (Kd.int .i64) 3 w' w.heap.size (fun k_=>some k_≠(u290002:Value).ownBlock) u290003 x290003_3)∧Aside0 (w'.heap[gb278]?=some (.cells #[.int .i64 a0_0,.int .i64 a0_1,(.slice A0_2 l0_2.length c0_2),(.slice A0_3 l0_3.length c0_3)] 41 (0,0)))∧Aside0 (w'.heap[gb279]?=some (.cells #[.bool a1_0,(.slice A1_1 l1_1.length c1_1),(.slice A1_2 l1_2.length c1_2)] 51 (0,0)))∧Aside0 (w'.heap[gb280]?=some (.cells #[.int .i64 0,.int .i64 0,(.slice none 0 0),(.slice none 0 0)] 41 (0,0)))∧Aside0 (w'.heap[gb289]?=some (.cells #[.int .i64 a0_0,.int .i64 a0_1,u290002,u290003] 41 (0,0)))∧Aside0 (Below w.heap.size w w'))
         case atStart=>exact ⟨(0),(x290002_50),(x290003_8),(u290002),(u290003),okV,H',⟨Nat.le_refl _⟩,⟨rowV HO_290002.out⟩,⟨rowV HO_290003.out⟩,⟨blkV BK278.out⟩,⟨blkV BK279.out⟩,⟨blkV BK280.out⟩,⟨blkV BK289.out⟩,⟨belV4 HB.out GE278.out GE279.out GE280.out GE289.out⟩⟩
         case round =>
          clear H'
          try clear c1;try clear p2 p2;try clear c3;try clear p3 p3;try clear q3 q3;try clear hx3;try clear hf3;try clear c4;try clear c5;try clear c6;try clear c6b0;try clear c6b1;try clear p6 p6;try clear c13;try clear c14;try clear c17;try clear c31;try clear c33;try clear c35;try clear c36;try clear c36b0;try clear c36b1;try clear c37;try clear c37b0;try clear p38 p38;try clear q38 q38;try clear hx38;try clear hf38;try clear c39;try clear c40;try clear c41;try clear c46;try clear c47;try clear c48;try clear c52;try clear c53;try clear c54;try clear c56;try clear c56b0;try clear c56b1;try clear c58;try clear c59;try clear c60;try clear c64;try clear p64 p64;try clear c65;try clear hcz15_0 hcz15_1 hcz15_2 hcz15_3;try clear hcz18_0 hcz18_1 hcz18_2;try clear hcz34_0 hcz34_1 hcz34_2;try clear hcz42_0 hcz42_1 hcz42_2 hcz42_3;try clear hcz49_0 hcz49_1 hcz49_2 hcz49_3;try clear hcz55_0 hcz55_1 hcz55_2;try clear hcz61_0 hcz61_1 hcz61_2;try clear hcz66_0 hcz66_1 hcz66_2 hcz66_3;try clear hfz15_0 hfz15_1 hfz15_2 hfz15_3;try clear hfz18_0 hfz18_1 hfz18_2;try clear hfz34_0 hfz34_1 hfz34_2;try clear hfz42_0 hfz42_1 hfz42_2 hfz42_3;try clear hfz49_0 hfz49_1 hfz49_2 hfz49_3;try clear hfz55_0 hfz55_1 hfz55_2;try clear hfz61_0 hfz61_1 hfz61_2;try clear hfz66_0 hfz66_1 hfz66_2 hfz66_3;try clear hx38_0
          obtain ⟨x9_3,x290002_3,x290003_3,u290002,u290003,rfl,HA,HK3,HO_290002,HO_290003,BK278,BK279,BK280,BK289,HB⟩:=hrel
          cases gk with
          | zero=>exact absurd HA.out (by simp [dioramaref19_Draw.l1])
          | succ k3 =>
           have H:=HA.out;clear HA
           simp only [dioramaref19_Draw.l1] at H
           by_cases c67:x9_3 < (l1_2.length:Int)
           · rw [if_pos c67] at H
             have c67b0:decide (x9_3 < (l1_2.length:Int))=true:=decide_eq_true c67;clear c67
             by_cases c68:0≤x9_3
             · rw [if_pos c68] at H
               have c68b0:decide (0≤x9_3)=true:=decide_eq_true c68;clear c68
               have H':=Aside0.mk H;clear H
               have hnb69:=NB279_278.out
               have hnc69:=NB278_279.out
               have hnb70:=NB279_280.out
               have hnc70:=NB280_279.out
               have hnb71:=NB279_289.out
               have hnc71:=NB289_279.out
               obtain ⟨hcz72_0,hcz72_1,hcz72_2,hfz72_0,hfz72_1,hfz72_2⟩:=bcells3 BK279.out
               have p294:0≤(x9_3:Int):=of_decide_eq_true asV
               have q294:x9_3 < (l1_2.length:Int):=of_decide_eq_true asV
               obtain ⟨ad294,A294_4,c294_4,e294,hx294_0,hx294_1,hx294_2,hx294_3,hx294_4,hl294_4,hi294_4⟩:=at_T91 HR1_2.out x9_3 p294 q294
               cases e294
               replace hx294_0:=(HB.out.cell (World.block_lt_of_cell? w _ hx294_0)).trans hx294_0
               replace hx294_1:=(HB.out.cell (World.block_lt_of_cell? w _ hx294_1)).trans hx294_1
               replace hx294_2:=(HB.out.cell (World.block_lt_of_cell? w _ hx294_2)).trans hx294_2
               replace hx294_3:=(HB.out.cell (World.block_lt_of_cell? w _ hx294_3)).trans hx294_3
               replace hx294_4:=(HB.out.cell (World.block_lt_of_cell? w _ hx294_4)).trans hx294_4
               have HR294_4:=Aside0.mk hi294_4
               have HC294_4:=Aside0.mk hl294_4;clear hi294_4 hl294_4
               replace p294:=eq_true p294
               replace q294:=eq_true q294
               go_wp2_with (first|((with_reducible refine gate_dst (N:=10) rfl ?_);refine box_event ?hg (N:=10) ?hd (cs:=#[.int .i64 0,.int .i64 0,.int .i64 0,.int .i64 0,.slice none 0 0]) (t:=91) ?hr ?_;(case hd=>rfl);(case hg=>rfl);(case hr=>first|(go_simp;done)|(go_simp;rfl));intro gb295 hg w73 hbox hb;have n0_:=Aside0.mk (Kd.R_below (rowV HO_290002.out) hb);have n1_:=Aside0.mk (Kd.R_below (rowV HO_290003.out) hb);have n2_:=Aside0.mk (blk_below (g:=gb278) (blkV BK278.out) hb);have n3_:=Aside0.mk (blk_below (g:=gb279) (blkV BK279.out) hb);have n4_:=Aside0.mk (blk_below (g:=gb280) (blkV BK280.out) hb);have n5_:=Aside0.mk (blk_below (g:=gb289) (blkV BK289.out) hb);have n6_:=Aside0.mk (below_step (belV4 HB.out GE278.out GE279.out GE280.out GE289.out) hb);have n7_:=Aside0.mk (hbox);have n8_:=Aside0.mk ((by rw [hg];exact (below_size (belV4 HB.out GE278.out GE279.out GE280.out GE289.out)):w.heap.size≤gb295));have n9_:=Aside0.mk ((by rw [hg];exact (below_size (belV4 HB.out GE278.out GE279.out GE280.out GE289.out)):w.heap.size≤gb295));have n10_:=Aside0.mk ((by rw [hg];exact Nat.ne_of_lt (blk_lt (g:=gb278) (blkV BK278.out)):gb278≠gb295));have n11_:=Aside0.mk ((by rw [hg];exact Nat.ne_of_gt (blk_lt (g:=gb278) (blkV BK278.out)):gb295≠gb278));have n12_:=Aside0.mk ((by rw [hg];exact Nat.ne_of_lt (blk_lt (g:=gb279) (blkV BK279.out)):gb279≠gb295));have n13_:=Aside0.mk ((by rw [hg];exact Nat.ne_of_gt (blk_lt (g:=gb279) (blkV BK279.out)):gb295≠gb279));have n14_:=Aside0.mk ((by rw [hg];exact Nat.ne_of_lt (blk_lt (g:=gb280) (blkV BK280.out)):gb280≠gb295));have n15_:=Aside0.mk ((by rw [hg];exact Nat.ne_of_gt (blk_lt (g:=gb280) (blkV BK280.out)):gb295≠gb280));have n16_:=Aside0.mk ((by rw [hg];exact Nat.ne_of_lt (blk_lt (g:=gb289) (blkV BK289.out)):gb289≠gb295));have n17_:=Aside0.mk ((by rw [hg];exact Nat.ne_of_gt (blk_lt (g:=gb289) (blkV BK289.out)):gb295≠gb289));clear HO_290002;clear HO_290003;clear BK278;clear BK279;clear BK280;clear BK289;clear HB;have HO_290002:=n0_;have HO_290003:=n1_;have BK278:=n2_;have BK279:=n3_;have BK280:=n4_;have BK289:=n5_;have HB:=n6_;have BK295:=n7_;have GW295:=n8_;have GE295:=n9_;have NB278_295:=n10_;have NB295_278:=n11_;have NB279_295:=n12_;have NB295_279:=n13_;have NB280_295:=n14_;have NB295_280:=n15_;have NB289_295:=n16_;have NB295_289:=n17_;clear n0_ n1_ n2_ n3_ n4_ n5_ n6_ n7_ n8_ n9_ n10_ n11_ n12_ n13_ n14_ n15_ n16_ n17_;clear hb hbox hg;have hnb74:=NB295_278.out;have hnc74:=NB278_295.out;have hnb75:=NB295_279.out;have hnc75:=NB279_295.out;have hnb76:=NB295_280.out;have hnc76:=NB280_295.out;have hnb77:=NB295_289.out;have hnc77:=NB289_295.out;obtain ⟨hcz78_0,hcz78_1,hcz78_2,hcz78_3,hcz78_4,hfz78_0,hfz78_1,hfz78_2,hfz78_3,hfz78_4⟩:=bcells5 BK295.out))
               go_loopg [11] k3 (fun kq v11 w'=>∃ (x11_4:Int) (x290002_4:List Int) (x290003_4:List Int) (u290002:Value) (u290003:Value),v11=.int .i64 x11_4∧Aside0 (dioramaref19_Draw.l2 kq x9_3 x11_4 a0_0 a0_1 l0_2 l0_3 a1_0 l1_1 l1_2 a0_0 a0_1 x290002_4 x290003_4 ((rd_T91 l1_2 x9_3).f0) ((rd_T91 l1_2 x9_3).f1) ((rd_T91 l1_2 x9_3).f2) ((rd_T91 l1_2 x9_3).f3) ((rd_T91 l1_2 x9_3).f4)=some (r1,r2,r3,r4,r5))∧Aside0 (kq≤k3)∧Aside0 (Kd.R (Kd.int .i64) 3 w' w.heap.size (fun k_=>some k_≠(u290003:Value).ownBlock) u290002 x290002_4)∧Aside0 (Kd.R (Kd.int .i64) 3 w' w.heap.size (fun k_=>some k_≠(u290002:Value).ownBlock) u290003 x290003_4)∧Aside0 (w'.heap[gb278]?=some (.cells #[.int .i64 a0_0,.int .i64 a0_1,(.slice A0_2 l0_2.length c0_2),(.slice A0_3 l0_3.length c0_3)] 41 (0,0)))∧Aside0 (w'.heap[gb279]?=some (.cells #[.bool a1_0,(.slice A1_1 l1_1.length c1_1),(.slice (some ad294) l1_2.length c1_2)] 51 (0,0)))∧Aside0 (w'.heap[gb280]?=some (.cells #[.int .i64 0,.int .i64 0,(.slice none 0 0),(.slice none 0 0)] 41 (0,0)))∧Aside0 (w'.heap[gb289]?=some (.cells #[.int .i64 a0_0,.int .i64 a0_1,u290002,u290003] 41 (0,0)))∧Aside0 (w'.heap[gb295]?=some (.cells #[.int .i64 ((rd_T91 l1_2 x9_3).f0),.int .i64 ((rd_T91 l1_2 x9_3).f1),.int .i64 ((rd_T91 l1_2 x9_3).f2),.int .i64 ((rd_T91 l1_2 x9_3).f3),(.slice A294_4 ((rd_T91 l1_2 x9_3).f4).length c294_4)] 91 (0,0)))∧Aside0 (Below w.heap.size w w'))
               case atStart=>exact ⟨(0),(x290002_3),(x290003_3),(u290002),(u290003),okV,H',⟨Nat.le_refl _⟩,⟨by (with_reducible repeat (first|apply Kd.R_alloc|apply Kd.R_drewN|apply Kd.R_drew));exact Kd.R_mono (Kd.R_far (p:=⟨gb295,4,none⟩) (Kd.R_far (p:=⟨gb295,3,none⟩) (Kd.R_far (p:=⟨gb295,2,none⟩) (Kd.R_far (p:=⟨gb295,1,none⟩) (Kd.R_far (p:=⟨gb295,0,none⟩) (Kd.R_types HO_290002.out BK295.out (by decide)) (fun _ hk=>hk.2) (.int .i64 ((rd_T91 l1_2 x9_3).f0))) (fun _ hk=>hk.2) (.int .i64 ((rd_T91 l1_2 x9_3).f1))) (fun _ hk=>hk.2) (.int .i64 ((rd_T91 l1_2 x9_3).f2))) (fun _ hk=>hk.2) (.int .i64 ((rd_T91 l1_2 x9_3).f3))) (fun _ hk=>hk.2) (.slice A294_4 ((rd_T91 l1_2 x9_3).f4).length c294_4)) (fun _ hk=>hk.1)⟩,⟨by (with_reducible repeat (first|apply Kd.R_alloc|apply Kd.R_drewN|apply Kd.R_drew));exact Kd.R_mono (Kd.R_far (p:=⟨gb295,4,none⟩) (Kd.R_far (p:=⟨gb295,3,none⟩) (Kd.R_far (p:=⟨gb295,2,none⟩) (Kd.R_far (p:=⟨gb295,1,none⟩) (Kd.R_far (p:=⟨gb295,0,none⟩) (Kd.R_types HO_290003.out BK295.out (by decide)) (fun _ hk=>hk.2) (.int .i64 ((rd_T91 l1_2 x9_3).f0))) (fun _ hk=>hk.2) (.int .i64 ((rd_T91 l1_2 x9_3).f1))) (fun _ hk=>hk.2) (.int .i64 ((rd_T91 l1_2 x9_3).f2))) (fun _ hk=>hk.2) (.int .i64 ((rd_T91 l1_2 x9_3).f3))) (fun _ hk=>hk.2) (.slice A294_4 ((rd_T91 l1_2 x9_3).f4).length c294_4)) (fun _ hk=>hk.1)⟩,⟨blkW BK278.out NB278_295.out⟩,⟨blkW BK279.out NB279_295.out⟩,⟨blkW BK280.out NB280_295.out⟩,⟨blkW BK289.out NB289_295.out⟩,⟨by (with_reducible repeat (first|refine blk_drewN ?_ _|refine blk_drew ?_|refine blk_alloc ?_ _));refine blk_put (cs:=#[.int .i64 ((rd_T91 l1_2 x9_3).f0),.int .i64 ((rd_T91 l1_2 x9_3).f1),.int .i64 ((rd_T91 l1_2 x9_3).f2),.int .i64 ((rd_T91 l1_2 x9_3).f3),.slice none 0 0]) ?_ 4 _ rfl;(with_reducible repeat (first|refine blk_drewN ?_ _|refine blk_drew ?_|refine blk_alloc ?_ _));refine blk_put (cs:=#[.int .i64 ((rd_T91 l1_2 x9_3).f0),.int .i64 ((rd_T91 l1_2 x9_3).f1),.int .i64 ((rd_T91 l1_2 x9_3).f2),.int .i64 0,.slice none 0 0]) ?_ 3 _ rfl;(with_reducible repeat (first|refine blk_drewN ?_ _|refine blk_drew ?_|refine blk_alloc ?_ _));refine blk_put (cs:=#[.int .i64 ((rd_T91 l1_2 x9_3).f0),.int .i64 ((rd_T91 l1_2 x9_3).f1),.int .i64 0,.int .i64 0,.slice none 0 0]) ?_ 2 _ rfl;(with_reducible repeat (first|refine blk_drewN ?_ _|refine blk_drew ?_|refine blk_alloc ?_ _));refine blk_put (cs:=#[.int .i64 ((rd_T91 l1_2 x9_3).f0),.int .i64 0,.int .i64 0,.int .i64 0,.slice none 0 0]) ?_ 1 _ rfl;(with_reducible repeat (first|refine blk_drewN ?_ _|refine blk_drew ?_|refine blk_alloc ?_ _));refine blk_put (cs:=#[.int .i64 0,.int .i64 0,.int .i64 0,.int .i64 0,.slice none 0 0]) ?_ 0 _ rfl;(with_reducible repeat (first|refine blk_drewN ?_ _|refine blk_drew ?_|refine blk_alloc ?_ _));exact BK295.out⟩,⟨belV5 HB.out GE278.out GE279.out GE280.out GE289.out GE295.out⟩⟩
               case round =>
                clear H'
                try clear c1;try clear c2;try clear p2 p2;try clear q2;try clear hx2;try clear c3;try clear p3 p3;try clear q3 q3;try clear hx3;try clear hf3;try clear c4;try clear c5;try clear c6;try clear c6b0;try clear c6b1;try clear p6 p6;try clear c7;try clear c13;try clear c14;try clear c17;try clear c29;try clear p29;try clear q29;try clear hx29;try clear c31;try clear c33;try clear c35;try clear c36;try clear c36b0;try clear c36b1;try clear c37;try clear c37b0;try clear p38 p38;try clear q38 q38;try clear hx38;try clear hf38;try clear c39;try clear c40;try clear c41;try clear c46;try clear c47;try clear c48;try clear c52;try clear c53;try clear c54;try clear c56;try clear c56b0;try clear c56b1;try clear c58;try clear c59;try clear c60;try clear c64;try clear p64 p64;try clear c65;try clear c67;try clear c67b0;try clear c68;try clear c68b0;try clear c69;try clear c70;try clear c71;try clear c74;try clear c75;try clear c76;try clear c77;try clear hcz15_0 hcz15_1 hcz15_2 hcz15_3;try clear hcz18_0 hcz18_1 hcz18_2;try clear hcz34_0 hcz34_1 hcz34_2;try clear hcz42_0 hcz42_1 hcz42_2 hcz42_3;try clear hcz49_0 hcz49_1 hcz49_2 hcz49_3;try clear hcz55_0 hcz55_1 hcz55_2;try clear hcz61_0 hcz61_1 hcz61_2;try clear hcz66_0 hcz66_1 hcz66_2 hcz66_3;try clear hcz72_0 hcz72_1 hcz72_2;try clear hcz78_0 hcz78_1 hcz78_2 hcz78_3 hcz78_4;try clear hfz15_0 hfz15_1 hfz15_2 hfz15_3;try clear hfz18_0 hfz18_1 hfz18_2;try clear hfz34_0 hfz34_1 hfz34_2;try clear hfz42_0 hfz42_1 hfz42_2 hfz42_3;try clear hfz49_0 hfz49_1 hfz49_2 hfz49_3;try clear hfz55_0 hfz55_1 hfz55_2;try clear hfz61_0 hfz61_1 hfz61_2;try clear hfz66_0 hfz66_1 hfz66_2 hfz66_3;try clear hfz72_0 hfz72_1 hfz72_2;try clear hfz78_0 hfz78_1 hfz78_2 hfz78_3 hfz78_4;try clear hx294_0;try clear hx294_1;try clear hx294_2;try clear hx294_3;try clear hx294_4;try clear hx38_0;try clear p294;try clear q294
                obtain ⟨x11_4,x290002_4,x290003_4,u290002,u290003,rfl,HA,HK4,HO_290002,HO_290003,BK278,BK279,BK280,BK289,BK295,HB⟩:=hrel
                cases gk with
                | zero=>exact absurd HA.out (by simp [dioramaref19_Draw.l2])
                | succ k4 =>
                 have H:=HA.out;clear HA
                 simp only [dioramaref19_Draw.l2] at H
                 by_cases c79:x11_4 < (((rd_T91 l1_2 x9_3).f4).length:Int)
                 · rw [if_pos c79] at H
                   have c79b0:decide (x11_4 < (((rd_T91 l1_2 x9_3).f4).length:Int))=true:=decide_eq_true c79;clear c79
                   by_cases c80:((rd_T91 l1_2 x9_3).f2)=0
                   · rw [if_pos c80] at H
                     exact absurd H (by simp)
                   rw [if_neg c80] at H
                   have c80b0:(((rd_T91 l1_2 x9_3).f2) == 0)=false:=beq_eq_false_iff_ne.mpr c80
                   have c80b1:(((rd_T91 l1_2 x9_3).f2) != 0)=true:=bne_iff_ne.mpr c80
                   by_cases c81:(wrap64 (((rd_T91 l1_2 x9_3).f0)+(Int.tmod x11_4 ((rd_T91 l1_2 x9_3).f2)))) < a0_0
                   · rw [if_pos c81] at H
                     have c81b0:decide ((wrap64 (((rd_T91 l1_2 x9_3).f0)+(Int.tmod x11_4 ((rd_T91 l1_2 x9_3).f2)))) < a0_0)=true:=decide_eq_true c81;clear c81
                     by_cases c82:(wrap64 (((rd_T91 l1_2 x9_3).f1)+(wrap64 (Int.tdiv x11_4 ((rd_T91 l1_2 x9_3).f2))))) < a0_1
                     · rw [if_pos c82] at H
                       have c82b0:decide ((wrap64 (((rd_T91 l1_2 x9_3).f1)+(wrap64 (Int.tdiv x11_4 ((rd_T91 l1_2 x9_3).f2))))) < a0_1)=true:=decide_eq_true c82;clear c82
                       by_cases c83:0≤x11_4
                       · rw [if_pos c83] at H
                         have c83b0:decide (0≤x11_4)=true:=decide_eq_true c83;clear c83
                         obtain ⟨ji84,hji84⟩:∃ j_:Int,(wrap64 ((wrap64 ((wrap64 (((rd_T91 l1_2 x9_3).f1)+(wrap64 (Int.tdiv x11_4 ((rd_T91 l1_2 x9_3).f2)))))*a0_0))+(wrap64 (((rd_T91 l1_2 x9_3).f0)+(Int.tmod x11_4 ((rd_T91 l1_2 x9_3).f2))))))=j_:=⟨_,rfl⟩
                         replace H:(if 0≤(ji84) then (if (ji84) < (x290003_4.length:Int) then (dioramaref19_Draw.l2 k4 x9_3 (wrap64 (x11_4+1)) a0_0 a0_1 l0_2 l0_3 a1_0 l1_1 l1_2 a0_0 a0_1 x290002_4 (x290003_4.set ((ji84):Int).toNat (rd ((rd_T91 l1_2 x9_3).f4) x11_4)) ((rd_T91 l1_2 x9_3).f0) ((rd_T91 l1_2 x9_3).f1) ((rd_T91 l1_2 x9_3).f2) ((rd_T91 l1_2 x9_3).f3) ((rd_T91 l1_2 x9_3).f4)) else (none)) else (none))=some (r1,r2,r3,r4,r5):=by first|(rw [hji84] at H;exact H)|(simp only [hji84] at H ⊢;exact H)
                         have hji84w:(IntKind.i64.wrap ((wrap64 ((wrap64 (((rd_T91 l1_2 x9_3).f1)+(wrap64 (Int.tdiv x11_4 ((rd_T91 l1_2 x9_3).f2)))))*a0_0))+(wrap64 (((rd_T91 l1_2 x9_3).f0)+(Int.tmod x11_4 ((rd_T91 l1_2 x9_3).f2))))))=ji84:=(i64_w _).trans hji84
                         by_cases c85:0≤(ji84)
                         · rw [if_pos c85] at H
                           have c85b0:decide (0≤(ji84))=true:=decide_eq_true c85;clear c85
                           by_cases c86:(ji84) < (x290003_4.length:Int)
                           · rw [if_pos c86] at H
                             have c86b0:decide ((ji84) < (x290003_4.length:Int))=true:=decide_eq_true c86;clear c86
                             obtain ⟨y297,hy297⟩:∃ y_:List Int,y_=(x290003_4.set ((ji84):Int).toNat (rd ((rd_T91 l1_2 x9_3).f4) x11_4)):=⟨_,rfl⟩
                             replace H:(dioramaref19_Draw.l2 k4 x9_3 (wrap64 (x11_4+1)) a0_0 a0_1 l0_2 l0_3 a1_0 l1_1 l1_2 a0_0 a0_1 x290002_4 y297 ((rd_T91 l1_2 x9_3).f0) ((rd_T91 l1_2 x9_3).f1) ((rd_T91 l1_2 x9_3).f2) ((rd_T91 l1_2 x9_3).f3) ((rd_T91 l1_2 x9_3).f4))=some (r1,r2,r3,r4,r5):=by first|(rw [hy297];with_reducible exact H)|(have H2_:=(Option.bind_some _ _).symm.trans H;rw [hy297];with_reducible exact H2_)|(have H2_:=(Option.bind_some _ _).symm.trans H;with_reducible exact H2_)|with_reducible exact H|(rw [hy297];exact H)|exact H
                             have Ny297:=Aside0.mk hy297;clear hy297
                             have H':=Aside0.mk H;clear H
                             have hnb88:=NB295_278.out
                             have hnc88:=NB278_295.out
                             have hnb89:=NB295_279.out
                             have hnc89:=NB279_295.out
                             have hnb90:=NB295_280.out
                             have hnc90:=NB280_295.out
                             have hnb91:=NB295_289.out
                             have hnc91:=NB289_295.out
                             obtain ⟨hcz92_0,hcz92_1,hcz92_2,hcz92_3,hcz92_4,hfz92_0,hfz92_1,hfz92_2,hfz92_3,hfz92_4⟩:=bcells5 BK295.out
                             try go_wp2
                             have n0_:=Aside0.mk (Kd.R_drew HO_290002.out)
                             have n1_:=Aside0.mk (Kd.R_drew HO_290003.out)
                             have n2_:=Aside0.mk (blk_drew BK278.out)
                             have n3_:=Aside0.mk (blk_drew BK279.out)
                             have n4_:=Aside0.mk (blk_drew BK280.out)
                             have n5_:=Aside0.mk (blk_drew BK289.out)
                             have n6_:=Aside0.mk (blk_drew BK295.out)
                             have n7_:=Aside0.mk (below_drew1 HB.out);clear HO_290002;clear HO_290003;clear BK278;clear BK279;clear BK280;clear BK289;clear BK295;clear HB;have HO_290002:=n0_;have HO_290003:=n1_;have BK278:=n2_;have BK279:=n3_;have BK280:=n4_;have BK289:=n5_;have BK295:=n6_;have HB:=n7_;clear n0_ n1_ n2_ n3_ n4_ n5_ n6_ n7_
                             refine start_ (n:=16) (S:=fun w'=>w'.cell? ⟨gb295,0,none⟩=some (.int .i64 ((rd_T91 l1_2 x9_3).f0))∧w'.cell? ⟨gb295,1,none⟩=some (.int .i64 ((rd_T91 l1_2 x9_3).f1))∧w'.cell? ⟨gb295,2,none⟩=some (.int .i64 ((rd_T91 l1_2 x9_3).f2))∧w'.cell? ⟨gb295,3,none⟩=some (.int .i64 ((rd_T91 l1_2 x9_3).f3))∧w'.cell? ⟨gb295,4,none⟩=some (.slice A294_4 ((rd_T91 l1_2 x9_3).f4).length c294_4)) (ds:=[]) ((bm false [16]).toArray) (by kernel_rfl) rfl rfl ⟨(blk_cell BK295.out 0).trans rfl,(blk_cell BK295.out 1).trans rfl,(blk_cell BK295.out 2).trans rfl,(blk_cell BK295.out 3).trans rfl,(blk_cell BK295.out 4).trans rfl⟩ (fun hHeld=>?_);refine with_tabW dioramaref19_Draw.tab21 dioramaref19_Draw.bits21 (fun HT_ HW_=>?_)
                             generalize wr.drew=w93 at HO_290002 HO_290003 BK278 BK279 BK280 BK289 BK295 HB hHeld ⊢
                             refine pure_ (i:=0) (N:=some 75) (v:=?_) (a':=?_) ((bm true [1,15]).toArray) rfl rfl (any_of HT_.out (by kernel_rfl)) (fun _ _ _ h=>h) (Or.inl ⟨by rfl,?_⟩) ?_ ?_;rotate_left
                             · intro w';go_simp;with_reducible rfl
                             rotate_left
                             · simp only [Act.put,List.setIfInBounds_toArray,List.set_cons_zero,List.set_cons_succ,i64_w,i32_w];rfl
                             refine pure_ (i:=2) (N:=some 77) (v:=?_) (a':=?_) ((bm true [1,1,1,13]).toArray) rfl rfl (any_of HT_.out (by kernel_rfl)) (fun _ _ _ h=>h) (Or.inl ⟨by rfl,?_⟩) ?_ ?_;rotate_left
                             · intro w';go_simp;with_reducible rfl
                             rotate_left
                             · simp only [Act.put,List.setIfInBounds_toArray,List.set_cons_zero,List.set_cons_succ,i64_w,i32_w];rfl
                             refine pure_ (i:=3) (N:=some 78) (v:=?_) (a':=?_) ((bm true [1,1,2,12]).toArray) rfl rfl (any_of HT_.out (by kernel_rfl)) (fun _ _ _ h=>h) (Or.inl ⟨by rfl,?_⟩) ?_ ?_;rotate_left
                             · intro w';go_simp;with_reducible rfl
                             rotate_left
                             · simp only [Act.put,List.setIfInBounds_toArray,List.set_cons_zero,List.set_cons_succ,i64_w,i32_w];rfl
                             refine pure_ (i:=7) (N:=some 82) (v:=?_) (a':=?_) ((bm true [1,1,2,3,1,8]).toArray) rfl rfl (any_of HT_.out (by kernel_rfl)) (fun _ _ _ h=>h) (Or.inl ⟨by rfl,?_⟩) ?_ ?_;rotate_left
                             · intro w';go_simp;with_reducible rfl
                             rotate_left
                             · simp only [Act.put,List.setIfInBounds_toArray,List.set_cons_zero,List.set_cons_succ,i64_w,i32_w];rfl
                             refine pure_ (i:=9) (N:=some 84) (v:=?_) (a':=?_) ((bm true [1,1,2,3,1,1,1,6]).toArray) rfl rfl (any_of HT_.out (by kernel_rfl)) (fun _ _ _ h=>h) (Or.inl ⟨by rfl,?_⟩) ?_ ?_;rotate_left
                             · intro w';go_simp;with_reducible rfl
                             rotate_left
                             · simp only [Act.put,List.setIfInBounds_toArray,List.set_cons_zero,List.set_cons_succ,i64_w,i32_w];rfl
                             refine pure_ (i:=10) (N:=some 85) (v:=?_) (a':=?_) ((bm true [1,1,2,3,1,1,2,5]).toArray) rfl rfl (any_of HT_.out (by kernel_rfl)) (fun _ _ _ h=>h) (Or.inl ⟨by rfl,?_⟩) ?_ ?_;rotate_left
                             · intro w';go_simp;with_reducible rfl
                             rotate_left
                             · simp only [Act.put,List.setIfInBounds_toArray,List.set_cons_zero,List.set_cons_succ,i64_w,i32_w];rfl
                             refine take_ (i:=1) (N:=some 76) (v:=?_) (a':=?_) ((bm true [4,3,1,1,2,5]).toArray) rfl rfl (take_ofW HT_.out HW_.out (by kernel_rfl)) (fun _ _ _ h=>h) (Or.inl ⟨by rfl,?_⟩) hHeld ?_ ?_;rotate_left
                             · rintro w' ⟨s0,s1,s2,s3,s4⟩
                               go_simp;with_reducible rfl
                             rotate_left
                             · simp only [Act.put,List.setIfInBounds_toArray,List.set_cons_zero,List.set_cons_succ,i64_w,i32_w];rfl
                             refine take_ (i:=4) (N:=some 79) (v:=?_) (a':=?_) ((bm true [5,2,1,1,2,5]).toArray) rfl rfl (take_ofW HT_.out HW_.out (by kernel_rfl)) (fun _ _ _ h=>h) (Or.inl ⟨by rfl,?_⟩) hHeld ?_ ?_;rotate_left
                             · rintro w' ⟨s0,s1,s2,s3,s4⟩
                               go_simp;with_reducible rfl
                             rotate_left
                             · simp only [Act.put,List.setIfInBounds_toArray,List.set_cons_zero,List.set_cons_succ,i64_w,i32_w];rfl
                             refine pure_ (i:=5) (N:=some 80) (v:=?_) (a':=?_) ((bm true [6,1,1,1,2,5]).toArray) rfl rfl (any_of HT_.out (by kernel_rfl)) (fun _ _ _ h=>h) (Or.inl ⟨by rfl,?_⟩) ?_ ?_;rotate_left
                             · intro w';go_simp;with_reducible rfl
                             rotate_left
                             · simp only [Act.put,List.setIfInBounds_toArray,List.set_cons_zero,List.set_cons_succ,i64_w,i32_w];rfl
                             refine pure_ (i:=6) (N:=some 81) (v:=?_) (a':=?_) ((bm true [8,1,2,5]).toArray) rfl rfl (any_of HT_.out (by kernel_rfl)) (fun _ _ _ h=>h) (Or.inl ⟨by rfl,?_⟩) ?_ ?_;rotate_left
                             · intro w';go_simp;with_reducible rfl
                             rotate_left
                             · simp only [Act.put,List.setIfInBounds_toArray,List.set_cons_zero,List.set_cons_succ,i64_w,i32_w];rfl
                             refine pure_ (i:=14) (N:=some 12) (v:=?_) (a':=?_) ((bm true [8,1,2,3,1,1]).toArray) rfl rfl (any_of HT_.out (by kernel_rfl)) (fun _ _ _ h=>h) (Or.inl ⟨by rfl,?_⟩) ?_ ?_;rotate_left
                             · intro w';go_simp;with_reducible rfl
                             rotate_left
                             · simp only [Act.put,List.setIfInBounds_toArray,List.set_cons_zero,List.set_cons_succ,i64_w,i32_w];rfl
                             refine take_ (i:=8) (N:=some 83) (v:=?_) (a':=?_) ((bm true [11,3,1,1]).toArray) rfl rfl (take_ofW HT_.out HW_.out (by kernel_rfl)) (fun _ _ _ h=>h) (Or.inl ⟨by rfl,?_⟩) hHeld ?_ ?_;rotate_left
                             · rintro w' ⟨s0,s1,s2,s3,s4⟩
                               go_simp;with_reducible rfl
                             rotate_left
                             · simp only [Act.put,List.setIfInBounds_toArray,List.set_cons_zero,List.set_cons_succ,i64_w,i32_w];rfl
                             refine take_ (i:=11) (N:=some 86) (v:=?_) (a':=?_) ((bm true [12,2,1,1]).toArray) rfl rfl (take_ofW HT_.out HW_.out (by kernel_rfl)) (fun _ _ _ h=>h) (Or.inl ⟨by rfl,?_⟩) hHeld ?_ ?_;rotate_left
                             · rintro w' ⟨s0,s1,s2,s3,s4⟩
                               go_simp;with_reducible rfl
                             rotate_left
                             · simp only [Act.put,List.setIfInBounds_toArray,List.set_cons_zero,List.set_cons_succ,i64_w,i32_w];rfl
                             refine pure_ (i:=12) (N:=some 87) (v:=?_) (a':=?_) ((bm true [13,1,1,1]).toArray) rfl rfl (any_of HT_.out (by kernel_rfl)) (fun _ _ _ h=>h) (Or.inl ⟨by rfl,?_⟩) ?_ ?_;rotate_left
                             · intro w';go_simp;with_reducible rfl
                             rotate_left
                             · simp only [Act.put,List.setIfInBounds_toArray,List.set_cons_zero,List.set_cons_succ,i64_w,i32_w];rfl
                             refine pure_ (i:=13) (N:=some 88) (v:=?_) (a':=?_) ((bm true [15,1]).toArray) rfl rfl (any_of HT_.out (by kernel_rfl)) (fun _ _ _ h=>h) (Or.inl ⟨by rfl,?_⟩) ?_ ?_;rotate_left
                             · intro w';go_simp;with_reducible rfl
                             rotate_left
                             · simp only [Act.put,List.setIfInBounds_toArray,List.set_cons_zero,List.set_cons_succ,i64_w,i32_w];rfl
                             refine pure_ (i:=15) (N:=some 13) (v:=?_) (a':=?_) ((bm true [16]).toArray) rfl rfl (any_of HT_.out (by kernel_rfl)) (fun _ _ _ h=>h) (Or.inl ⟨by rfl,?_⟩) ?_ ?_;rotate_left
                             · intro w';go_simp;with_reducible rfl
                             rotate_left
                             · simp only [Act.put,List.setIfInBounds_toArray,List.set_cons_zero,List.set_cons_succ,i64_w,i32_w];rfl
                             refine done_ (done_of HT_.out (by kernel_rfl)) ?_
                             have hnb94:=NB278_279.out
                             have hnc94:=NB279_278.out
                             have hnb95:=NB278_280.out
                             have hnc95:=NB280_278.out
                             have hnb96:=NB278_289.out
                             have hnc96:=NB289_278.out
                             obtain ⟨hcz97_0,hcz97_1,hcz97_2,hcz97_3,hfz97_0,hfz97_1,hfz97_2,hfz97_3⟩:=bcells4 BK278.out
                             try go_wp2
                             have n0_:=Aside0.mk (Kd.R_drew HO_290002.out)
                             have n1_:=Aside0.mk (Kd.R_drew HO_290003.out)
                             have n2_:=Aside0.mk (blk_drew BK278.out)
                             have n3_:=Aside0.mk (blk_drew BK279.out)
                             have n4_:=Aside0.mk (blk_drew BK280.out)
                             have n5_:=Aside0.mk (blk_drew BK289.out)
                             have n6_:=Aside0.mk (blk_drew BK295.out)
                             have n7_:=Aside0.mk (below_drew1 HB.out);clear HO_290002;clear HO_290003;clear BK278;clear BK279;clear BK280;clear BK289;clear BK295;clear HB;have HO_290002:=n0_;have HO_290003:=n1_;have BK278:=n2_;have BK279:=n3_;have BK280:=n4_;have BK289:=n5_;have BK295:=n6_;have HB:=n7_;clear n0_ n1_ n2_ n3_ n4_ n5_ n6_ n7_
                             have p296:0≤(x11_4:Int):=of_decide_eq_true asV
                             have q296:x11_4 < (((rd_T91 l1_2 x9_3).f4).length:Int):=of_decide_eq_true asV
                             obtain ⟨ad296,e296,hx296_0⟩:=Kd.at_int HR294_4.out x11_4 p296 q296
                             have hw296_0:=hx296_0
                             cases e296
                             replace hx296_0:=(HB.out.cell (World.block_lt_of_cell? w _ hx296_0)).trans hx296_0
                             replace p296:=eq_true p296
                             replace q296:=eq_true q296
                             have p87:0≤((ji84):Int):=of_decide_eq_true asV
                             have q87:((ji84):Int) < ((x290003_4.length:Int):Int):=of_decide_eq_true asV
                             obtain ⟨go87,co87,eo87,gb87,gl87,cl87,HG87⟩:=Kd.R_form HO_290003.out (by omega)
                             (first|cases eo87|(injection eo87 with ea_ en_ ec_;(first|subst ea_|(injection ea_ with ea_;subst ea_));subst ec_;clear en_))
                             have GB87:=Aside0.mk gb87
                             have GG87:=Aside0.mk HG87;clear gb87 gl87 HG87
                             obtain ⟨hx87_0,hf87_0⟩:=Kd.R_celln 0 HO_290003.out ((ji84):Int) p87 q87
                             replace p87:=eq_true p87
                             replace q87:=eq_true q87
                             have HP99:=Kd.R_putn HO_290003.out ((ji84):Int) (rd ((rd_T91 l1_2 x9_3).f4) x11_4)
                             rw [← Ny297.out] at HP99
                             have HQ99:=Aside0.mk HP99;clear HP99
                             refine start_ (n:=15) (S:=fun w'=>w'.cell? ⟨gb289,0,none⟩=some (.int .i64 a0_0)∧w'.cell? ⟨gb289,1,none⟩=some (.int .i64 a0_1)∧w'.cell? ⟨gb289,2,none⟩=some (u290002)∧w'.cell? ⟨gb289,3,none⟩=some (.slice (some ⟨go87,0,none⟩) x290003_4.length co87)∧w'.cell? ⟨gb278,0,none⟩=some (.int .i64 a0_0)∧w'.cell? ⟨gb278,1,none⟩=some (.int .i64 a0_1)∧w'.cell? ⟨gb278,2,none⟩=some (.slice A0_2 l0_2.length c0_2)∧w'.cell? ⟨gb278,3,none⟩=some (.slice A0_3 l0_3.length c0_3)∧w'.cell? ⟨gb295,0,none⟩=some (.int .i64 ((rd_T91 l1_2 x9_3).f0))∧w'.cell? ⟨gb295,1,none⟩=some (.int .i64 ((rd_T91 l1_2 x9_3).f1))∧w'.cell? ⟨gb295,2,none⟩=some (.int .i64 ((rd_T91 l1_2 x9_3).f2))∧w'.cell? ⟨gb295,3,none⟩=some (.int .i64 ((rd_T91 l1_2 x9_3).f3))∧w'.cell? ⟨gb295,4,none⟩=some (.slice (some ad296) ((rd_T91 l1_2 x9_3).f4).length c294_4)∧w'.cell? (ad296.add (x11_4).toNat)=some (.int .i64 (rd ((rd_T91 l1_2 x9_3).f4) x11_4))) (ds:=[14]) ((bm false [15]).toArray) (by kernel_rfl) rfl rfl ⟨(blk_cell BK289.out 0).trans rfl,(blk_cell BK289.out 1).trans rfl,(blk_cell BK289.out 2).trans rfl,(blk_cell BK289.out 3).trans rfl,(blk_cell BK278.out 0).trans rfl,(blk_cell BK278.out 1).trans rfl,(blk_cell BK278.out 2).trans rfl,(blk_cell BK278.out 3).trans rfl,(blk_cell BK295.out 0).trans rfl,(blk_cell BK295.out 1).trans rfl,(blk_cell BK295.out 2).trans rfl,(blk_cell BK295.out 3).trans rfl,(blk_cell BK295.out 4).trans rfl,((HB.out.cell (World.block_lt_of_cell? w _ hw296_0)).trans hw296_0)⟩ (fun hHeld=>?_);refine with_tabW dioramaref19_Draw.tab23 dioramaref19_Draw.bits23 (fun HT_ HW_=>?_)
                             generalize w93.drew=w98 at HO_290002 HO_290003 BK278 BK279 BK280 BK289 BK295 HB GG87 HQ99 hf87_0 hx296_0 hx87_0 hHeld ⊢
                             refine pure_ (i:=0) (N:=some 99) (v:=?_) (a':=?_) ((bm true [1,14]).toArray) rfl rfl (any_of HT_.out (by kernel_rfl)) (fun _ _ _ h=>h) (Or.inl ⟨by rfl,?_⟩) ?_ ?_;rotate_left
                             · intro w';go_simp;with_reducible rfl
                             rotate_left
                             · simp only [Act.put,List.setIfInBounds_toArray,List.set_cons_zero,List.set_cons_succ,i64_w,i32_w];rfl
                             refine pure_ (i:=2) (N:=some 101) (v:=?_) (a':=?_) ((bm true [1,1,1,12]).toArray) rfl rfl (any_of HT_.out (by kernel_rfl)) (fun _ _ _ h=>h) (Or.inl ⟨by rfl,?_⟩) ?_ ?_;rotate_left
                             · intro w';go_simp;with_reducible rfl
                             rotate_left
                             · simp only [Act.put,List.setIfInBounds_toArray,List.set_cons_zero,List.set_cons_succ,i64_w,i32_w];rfl
                             refine pure_ (i:=3) (N:=some 102) (v:=?_) (a':=?_) ((bm true [1,1,2,11]).toArray) rfl rfl (any_of HT_.out (by kernel_rfl)) (fun _ _ _ h=>h) (Or.inl ⟨by rfl,?_⟩) ?_ ?_;rotate_left
                             · intro w';go_simp;with_reducible rfl
                             rotate_left
                             · simp only [Act.put,List.setIfInBounds_toArray,List.set_cons_zero,List.set_cons_succ,i64_w,i32_w];rfl
                             refine pure_ (i:=6) (N:=some 105) (v:=?_) (a':=?_) ((bm true [1,1,2,2,1,8]).toArray) rfl rfl (any_of HT_.out (by kernel_rfl)) (fun _ _ _ h=>h) (Or.inl ⟨by rfl,?_⟩) ?_ ?_;rotate_left
                             · intro w';go_simp;with_reducible rfl
                             rotate_left
                             · simp only [Act.put,List.setIfInBounds_toArray,List.set_cons_zero,List.set_cons_succ,i64_w,i32_w];rfl
                             refine pure_ (i:=8) (N:=some 107) (v:=?_) (a':=?_) ((bm true [1,1,2,2,1,1,1,6]).toArray) rfl rfl (any_of HT_.out (by kernel_rfl)) (fun _ _ _ h=>h) (Or.inl ⟨by rfl,?_⟩) ?_ ?_;rotate_left
                             · intro w';go_simp;with_reducible rfl
                             rotate_left
                             · simp only [Act.put,List.setIfInBounds_toArray,List.set_cons_zero,List.set_cons_succ,i64_w,i32_w];rfl
                             refine pure_ (i:=10) (N:=some 109) (v:=?_) (a':=?_) ((bm true [1,1,2,2,1,1,1,1,1,4]).toArray) rfl rfl (any_of HT_.out (by kernel_rfl)) (fun _ _ _ h=>h) (Or.inl ⟨by rfl,?_⟩) ?_ ?_;rotate_left
                             · intro w';go_simp;with_reducible rfl
                             rotate_left
                             · simp only [Act.put,List.setIfInBounds_toArray,List.set_cons_zero,List.set_cons_succ,i64_w,i32_w];rfl
                             refine take_ (i:=1) (N:=some 100) (v:=?_) (a':=?_) ((bm true [4,2,1,1,1,1,1,4]).toArray) rfl rfl (take_ofW HT_.out HW_.out (by kernel_rfl)) (fun _ _ _ h=>h) (Or.inl ⟨by rfl,?_⟩) hHeld ?_ ?_;rotate_left
                             · rintro w' ⟨s0,s1,s2,s3,s4,s5,s6,s7,s8,s9,s10,s11,s12,s13⟩
                               go_simp;with_reducible rfl
                             rotate_left
                             · simp only [Act.put,List.setIfInBounds_toArray,List.set_cons_zero,List.set_cons_succ,i64_w,i32_w];rfl
                             refine take_ (i:=4) (N:=some 103) (v:=?_) (a':=?_) ((bm true [5,1,1,1,1,1,1,4]).toArray) rfl rfl (take_ofW HT_.out HW_.out (by kernel_rfl)) (fun _ _ _ h=>h) (Or.inl ⟨by rfl,?_⟩) hHeld ?_ ?_;rotate_left
                             · rintro w' ⟨s0,s1,s2,s3,s4,s5,s6,s7,s8,s9,s10,s11,s12,s13⟩
                               go_simp;with_reducible rfl
                             rotate_left
                             · simp only [Act.put,List.setIfInBounds_toArray,List.set_cons_zero,List.set_cons_succ,i64_w,i32_w];rfl
                             refine pure_ (i:=5) (N:=some 104) (v:=?_) (a':=?_) ((bm true [7,1,1,1,1,4]).toArray) rfl rfl (any_of HT_.out (by kernel_rfl)) (fun _ _ _ h=>h) (Or.inl ⟨by rfl,?_⟩) ?_ ?_;rotate_left
                             · intro w';go_simp;with_reducible rfl
                             rotate_left
                             · simp only [Act.put,List.setIfInBounds_toArray,List.set_cons_zero,List.set_cons_succ,i64_w,i32_w];rfl
                             refine pure_ (i:=7) (N:=some 106) (v:=?_) (a':=?_) ((bm true [9,1,1,4]).toArray) rfl rfl (any_of HT_.out (by kernel_rfl)) (fun _ _ _ h=>h) (Or.inl ⟨by rfl,?_⟩) ?_ ?_;rotate_left
                             · intro w';go_simp;with_reducible rfl
                             rotate_left
                             · simp only [Act.put,List.setIfInBounds_toArray,List.set_cons_zero,List.set_cons_succ,i64_w,i32_w];rfl
                             refine take_ (i:=9) (N:=some 108) (v:=?_) (a':=?_) ((bm true [11,4]).toArray) rfl rfl (take_ofW HT_.out HW_.out (by kernel_rfl)) (fun _ _ _ h=>h) (Or.inl ⟨by rfl,?_⟩) hHeld ?_ ?_;rotate_left
                             · rintro w' ⟨s0,s1,s2,s3,s4,s5,s6,s7,s8,s9,s10,s11,s12,s13⟩
                               go_simp;with_reducible rfl
                             rotate_left
                             · simp only [Act.put,List.setIfInBounds_toArray,List.set_cons_zero,List.set_cons_succ,i64_w,i32_w];rfl
                             refine pure_ (i:=11) (N:=some 110) (v:=?_) (a':=?_) ((bm true [12,3]).toArray) rfl rfl (any_of HT_.out (by kernel_rfl)) (fun _ _ _ h=>h) (Or.inl ⟨by rfl,?_⟩) ?_ ?_;rotate_left
                             · intro w';go_simp;with_reducible rfl
                             rotate_left
                             · simp only [Act.put,List.setIfInBounds_toArray,List.set_cons_zero,List.set_cons_succ,i64_w,i32_w];rfl
                             refine take_ (i:=12) (N:=some 111) (v:=?_) (a':=?_) ((bm true [13,2]).toArray) rfl rfl (take_ofW HT_.out HW_.out (by kernel_rfl)) (fun _ _ _ h=>h) (Or.inl ⟨by rfl,?_⟩) hHeld ?_ ?_;rotate_left
                             · rintro w' ⟨s0,s1,s2,s3,s4,s5,s6,s7,s8,s9,s10,s11,s12,s13⟩
                               go_simp;with_reducible rfl
                             rotate_left
                             · simp only [Act.put,List.setIfInBounds_toArray,List.set_cons_zero,List.set_cons_succ,i64_w,i32_w];rfl
                             refine pure_ (i:=13) (N:=some 112) (v:=?_) (a':=?_) ((bm true [14,1]).toArray) rfl rfl (any_of HT_.out (by kernel_rfl)) (fun _ _ _ h=>h) (Or.inl ⟨by rfl,?_⟩) ?_ ?_;rotate_left
                             · intro w';go_simp;with_reducible rfl
                             rotate_left
                             · simp only [Act.put,List.setIfInBounds_toArray,List.set_cons_zero,List.set_cons_succ,i64_w,i32_w];rfl
                             refine last_ (i:=14) (N:=none) ((bm true [15]).toArray) rfl rfl (one_of HT_.out (by kernel_rfl)) (by decide) (fun K hK=>?_)
                             refine skip_ (w1:=?_) (by rfl) rfl ?_ ?_;rotate_left
                             · go_simp;rfl
                             refine hK.out _ _ ?_;clear hK K
                             refine done_ (done_of HT_.out (by kernel_rfl)) ?_
                             try go_wp2
                             go_roundg k4
                             case measure=>have:=HJ8.out;have:=HJ50.out;have:=HK3.out;have:=HK4.out;omega
                             case rel=>exact ⟨(wrap64 (x11_4+1)),(x290002_4),(y297),(u290002),(.slice (some ⟨go87,0,none⟩) x290003_4.length co87),okV,H',⟨by have:=HJ8.out;have:=HJ50.out;have:=HK3.out;have:=HK4.out;omega⟩,⟨by (with_reducible repeat (first|apply Kd.R_alloc|apply Kd.R_drewN|apply Kd.R_drew));exact Kd.R_mono (Kd.R_far (p:=⟨go87,((ji84):Int).toNat,none⟩) (Kd.R_mono HO_290002.out (fun k_ hk=>(⟨hk,fun e_=>hk (by rw [e_];rfl)⟩:_∧k_≠go87))) (fun _ hk=>hk.2) (.int .i64 (rd ((rd_T91 l1_2 x9_3).f4) x11_4))) (fun _ hk=>hk.1)⟩,⟨by (with_reducible repeat (first|apply Kd.R_alloc|apply Kd.R_drewN|apply Kd.R_drew));exact HQ99.out⟩,⟨by (with_reducible repeat (first|refine blk_drewN ?_ _|refine blk_drew ?_|refine blk_alloc ?_ _));refine blk_far ?_ (by have h_:=Kd.R_ne HO_290003.out BK278.out (by decide);intro e_;exact h_ (by rw [e_];rfl)) _;(with_reducible repeat (first|refine blk_drewN ?_ _|refine blk_drew ?_|refine blk_alloc ?_ _));exact BK278.out⟩,⟨by (with_reducible repeat (first|refine blk_drewN ?_ _|refine blk_drew ?_|refine blk_alloc ?_ _));refine blk_far ?_ (by have h_:=Kd.R_ne HO_290003.out BK279.out (by decide);intro e_;exact h_ (by rw [e_];rfl)) _;(with_reducible repeat (first|refine blk_drewN ?_ _|refine blk_drew ?_|refine blk_alloc ?_ _));exact BK279.out⟩,⟨by (with_reducible repeat (first|refine blk_drewN ?_ _|refine blk_drew ?_|refine blk_alloc ?_ _));refine blk_far ?_ (by have h_:=Kd.R_ne HO_290003.out BK280.out (by decide);intro e_;exact h_ (by rw [e_];rfl)) _;(with_reducible repeat (first|refine blk_drewN ?_ _|refine blk_drew ?_|refine blk_alloc ?_ _));exact BK280.out⟩,⟨by (with_reducible repeat (first|refine blk_drewN ?_ _|refine blk_drew ?_|refine blk_alloc ?_ _));refine blk_far ?_ (by have h_:=Kd.R_ne HO_290003.out BK289.out (by decide);intro e_;exact h_ (by rw [e_];rfl)) _;(with_reducible repeat (first|refine blk_drewN ?_ _|refine blk_drew ?_|refine blk_alloc ?_ _));exact BK289.out⟩,⟨by (with_reducible repeat (first|refine blk_drewN ?_ _|refine blk_drew ?_|refine blk_alloc ?_ _));refine blk_far ?_ (by have h_:=Kd.R_ne HO_290003.out BK295.out (by decide);intro e_;exact h_ (by rw [e_];rfl)) _;(with_reducible repeat (first|refine blk_drewN ?_ _|refine blk_drew ?_|refine blk_alloc ?_ _));exact BK295.out⟩,⟨by repeat (first|(with_reducible first|exact HB.out|apply below_alloc|apply pw_below_drewN|apply below_drew1|refine below_set ?_ GB87.out|refine below_set ?_ GE278.out|refine below_set ?_ GE279.out|refine below_set ?_ GE280.out|refine below_set ?_ GE289.out|refine below_set ?_ GE295.out)|exact HB.out)⟩⟩
                           rw [if_neg c86] at H
                           exact absurd H (by simp)
                         rw [if_neg c85] at H
                         exact absurd H (by simp)
                       rw [if_neg c83] at H
                       exact absurd H (by simp)
                     rw [if_neg c82] at H
                     have c82b0:decide ((wrap64 (((rd_T91 l1_2 x9_3).f1)+(wrap64 (Int.tdiv x11_4 ((rd_T91 l1_2 x9_3).f2))))) < a0_1)=false:=decide_eq_false c82;clear c82
                     have H':=Aside0.mk H;clear H
                     have hnb100:=NB295_278.out
                     have hnc100:=NB278_295.out
                     have hnb101:=NB295_279.out
                     have hnc101:=NB279_295.out
                     have hnb102:=NB295_280.out
                     have hnc102:=NB280_295.out
                     have hnb103:=NB295_289.out
                     have hnc103:=NB289_295.out
                     obtain ⟨hcz104_0,hcz104_1,hcz104_2,hcz104_3,hcz104_4,hfz104_0,hfz104_1,hfz104_2,hfz104_3,hfz104_4⟩:=bcells5 BK295.out
                     try go_wp2
                     have n0_:=Aside0.mk (Kd.R_drew HO_290002.out)
                     have n1_:=Aside0.mk (Kd.R_drew HO_290003.out)
                     have n2_:=Aside0.mk (blk_drew BK278.out)
                     have n3_:=Aside0.mk (blk_drew BK279.out)
                     have n4_:=Aside0.mk (blk_drew BK280.out)
                     have n5_:=Aside0.mk (blk_drew BK289.out)
                     have n6_:=Aside0.mk (blk_drew BK295.out)
                     have n7_:=Aside0.mk (below_drew1 HB.out);clear HO_290002;clear HO_290003;clear BK278;clear BK279;clear BK280;clear BK289;clear BK295;clear HB;have HO_290002:=n0_;have HO_290003:=n1_;have BK278:=n2_;have BK279:=n3_;have BK280:=n4_;have BK289:=n5_;have BK295:=n6_;have HB:=n7_;clear n0_ n1_ n2_ n3_ n4_ n5_ n6_ n7_
                     refine start_ (n:=16) (S:=fun w'=>w'.cell? ⟨gb295,0,none⟩=some (.int .i64 ((rd_T91 l1_2 x9_3).f0))∧w'.cell? ⟨gb295,1,none⟩=some (.int .i64 ((rd_T91 l1_2 x9_3).f1))∧w'.cell? ⟨gb295,2,none⟩=some (.int .i64 ((rd_T91 l1_2 x9_3).f2))∧w'.cell? ⟨gb295,3,none⟩=some (.int .i64 ((rd_T91 l1_2 x9_3).f3))∧w'.cell? ⟨gb295,4,none⟩=some (.slice A294_4 ((rd_T91 l1_2 x9_3).f4).length c294_4)) (ds:=[]) ((bm false [16]).toArray) (by kernel_rfl) rfl rfl ⟨(blk_cell BK295.out 0).trans rfl,(blk_cell BK295.out 1).trans rfl,(blk_cell BK295.out 2).trans rfl,(blk_cell BK295.out 3).trans rfl,(blk_cell BK295.out 4).trans rfl⟩ (fun hHeld=>?_);refine with_tabW dioramaref19_Draw.tab21 dioramaref19_Draw.bits21 (fun HT_ HW_=>?_)
                     generalize wr.drew=w105 at HO_290002 HO_290003 BK278 BK279 BK280 BK289 BK295 HB hHeld ⊢
                     refine pure_ (i:=0) (N:=some 75) (v:=?_) (a':=?_) ((bm true [1,15]).toArray) rfl rfl (any_of HT_.out (by kernel_rfl)) (fun _ _ _ h=>h) (Or.inl ⟨by rfl,?_⟩) ?_ ?_;rotate_left
                     · intro w';go_simp;with_reducible rfl
                     rotate_left
                     · simp only [Act.put,List.setIfInBounds_toArray,List.set_cons_zero,List.set_cons_succ,i64_w,i32_w];rfl
                     refine pure_ (i:=2) (N:=some 77) (v:=?_) (a':=?_) ((bm true [1,1,1,13]).toArray) rfl rfl (any_of HT_.out (by kernel_rfl)) (fun _ _ _ h=>h) (Or.inl ⟨by rfl,?_⟩) ?_ ?_;rotate_left
                     · intro w';go_simp;with_reducible rfl
                     rotate_left
                     · simp only [Act.put,List.setIfInBounds_toArray,List.set_cons_zero,List.set_cons_succ,i64_w,i32_w];rfl
                     refine pure_ (i:=3) (N:=some 78) (v:=?_) (a':=?_) ((bm true [1,1,2,12]).toArray) rfl rfl (any_of HT_.out (by kernel_rfl)) (fun _ _ _ h=>h) (Or.inl ⟨by rfl,?_⟩) ?_ ?_;rotate_left
                     · intro w';go_simp;with_reducible rfl
                     rotate_left
                     · simp only [Act.put,List.setIfInBounds_toArray,List.set_cons_zero,List.set_cons_succ,i64_w,i32_w];rfl
                     refine pure_ (i:=7) (N:=some 82) (v:=?_) (a':=?_) ((bm true [1,1,2,3,1,8]).toArray) rfl rfl (any_of HT_.out (by kernel_rfl)) (fun _ _ _ h=>h) (Or.inl ⟨by rfl,?_⟩) ?_ ?_;rotate_left
                     · intro w';go_simp;with_reducible rfl
                     rotate_left
                     · simp only [Act.put,List.setIfInBounds_toArray,List.set_cons_zero,List.set_cons_succ,i64_w,i32_w];rfl
                     refine pure_ (i:=9) (N:=some 84) (v:=?_) (a':=?_) ((bm true [1,1,2,3,1,1,1,6]).toArray) rfl rfl (any_of HT_.out (by kernel_rfl)) (fun _ _ _ h=>h) (Or.inl ⟨by rfl,?_⟩) ?_ ?_;rotate_left
                     · intro w';go_simp;with_reducible rfl
                     rotate_left
                     · simp only [Act.put,List.setIfInBounds_toArray,List.set_cons_zero,List.set_cons_succ,i64_w,i32_w];rfl
                     refine pure_ (i:=10) (N:=some 85) (v:=?_) (a':=?_) ((bm true [1,1,2,3,1,1,2,5]).toArray) rfl rfl (any_of HT_.out (by kernel_rfl)) (fun _ _ _ h=>h) (Or.inl ⟨by rfl,?_⟩) ?_ ?_;rotate_left
                     · intro w';go_simp;with_reducible rfl
                     rotate_left
                     · simp only [Act.put,List.setIfInBounds_toArray,List.set_cons_zero,List.set_cons_succ,i64_w,i32_w];rfl
                     refine take_ (i:=1) (N:=some 76) (v:=?_) (a':=?_) ((bm true [4,3,1,1,2,5]).toArray) rfl rfl (take_ofW HT_.out HW_.out (by kernel_rfl)) (fun _ _ _ h=>h) (Or.inl ⟨by rfl,?_⟩) hHeld ?_ ?_;rotate_left
                     · rintro w' ⟨s0,s1,s2,s3,s4⟩
                       go_simp;with_reducible rfl
                     rotate_left
                     · simp only [Act.put,List.setIfInBounds_toArray,List.set_cons_zero,List.set_cons_succ,i64_w,i32_w];rfl
                     refine take_ (i:=4) (N:=some 79) (v:=?_) (a':=?_) ((bm true [5,2,1,1,2,5]).toArray) rfl rfl (take_ofW HT_.out HW_.out (by kernel_rfl)) (fun _ _ _ h=>h) (Or.inl ⟨by rfl,?_⟩) hHeld ?_ ?_;rotate_left
                     · rintro w' ⟨s0,s1,s2,s3,s4⟩
                       go_simp;with_reducible rfl
                     rotate_left
                     · simp only [Act.put,List.setIfInBounds_toArray,List.set_cons_zero,List.set_cons_succ,i64_w,i32_w];rfl
                     refine pure_ (i:=5) (N:=some 80) (v:=?_) (a':=?_) ((bm true [6,1,1,1,2,5]).toArray) rfl rfl (any_of HT_.out (by kernel_rfl)) (fun _ _ _ h=>h) (Or.inl ⟨by rfl,?_⟩) ?_ ?_;rotate_left
                     · intro w';go_simp;with_reducible rfl
                     rotate_left
                     · simp only [Act.put,List.setIfInBounds_toArray,List.set_cons_zero,List.set_cons_succ,i64_w,i32_w];rfl
                     refine pure_ (i:=6) (N:=some 81) (v:=?_) (a':=?_) ((bm true [8,1,2,5]).toArray) rfl rfl (any_of HT_.out (by kernel_rfl)) (fun _ _ _ h=>h) (Or.inl ⟨by rfl,?_⟩) ?_ ?_;rotate_left
                     · intro w';go_simp;with_reducible rfl
                     rotate_left
                     · simp only [Act.put,List.setIfInBounds_toArray,List.set_cons_zero,List.set_cons_succ,i64_w,i32_w];rfl
                     refine pure_ (i:=14) (N:=some 12) (v:=?_) (a':=?_) ((bm true [8,1,2,3,1,1]).toArray) rfl rfl (any_of HT_.out (by kernel_rfl)) (fun _ _ _ h=>h) (Or.inl ⟨by rfl,?_⟩) ?_ ?_;rotate_left
                     · intro w';go_simp;with_reducible rfl
                     rotate_left
                     · simp only [Act.put,List.setIfInBounds_toArray,List.set_cons_zero,List.set_cons_succ,i64_w,i32_w];rfl
                     refine take_ (i:=8) (N:=some 83) (v:=?_) (a':=?_) ((bm true [11,3,1,1]).toArray) rfl rfl (take_ofW HT_.out HW_.out (by kernel_rfl)) (fun _ _ _ h=>h) (Or.inl ⟨by rfl,?_⟩) hHeld ?_ ?_;rotate_left
                     · rintro w' ⟨s0,s1,s2,s3,s4⟩
                       go_simp;with_reducible rfl
                     rotate_left
                     · simp only [Act.put,List.setIfInBounds_toArray,List.set_cons_zero,List.set_cons_succ,i64_w,i32_w];rfl
                     refine take_ (i:=11) (N:=some 86) (v:=?_) (a':=?_) ((bm true [12,2,1,1]).toArray) rfl rfl (take_ofW HT_.out HW_.out (by kernel_rfl)) (fun _ _ _ h=>h) (Or.inl ⟨by rfl,?_⟩) hHeld ?_ ?_;rotate_left
                     · rintro w' ⟨s0,s1,s2,s3,s4⟩
                       go_simp;with_reducible rfl
                     rotate_left
                     · simp only [Act.put,List.setIfInBounds_toArray,List.set_cons_zero,List.set_cons_succ,i64_w,i32_w];rfl
                     refine pure_ (i:=12) (N:=some 87) (v:=?_) (a':=?_) ((bm true [13,1,1,1]).toArray) rfl rfl (any_of HT_.out (by kernel_rfl)) (fun _ _ _ h=>h) (Or.inl ⟨by rfl,?_⟩) ?_ ?_;rotate_left
                     · intro w';go_simp;with_reducible rfl
                     rotate_left
                     · simp only [Act.put,List.setIfInBounds_toArray,List.set_cons_zero,List.set_cons_succ,i64_w,i32_w];rfl
                     refine pure_ (i:=13) (N:=some 88) (v:=?_) (a':=?_) ((bm true [15,1]).toArray) rfl rfl (any_of HT_.out (by kernel_rfl)) (fun _ _ _ h=>h) (Or.inl ⟨by rfl,?_⟩) ?_ ?_;rotate_left
                     · intro w';go_simp;with_reducible rfl
                     rotate_left
                     · simp only [Act.put,List.setIfInBounds_toArray,List.set_cons_zero,List.set_cons_succ,i64_w,i32_w];rfl
                     refine pure_ (i:=15) (N:=some 13) (v:=?_) (a':=?_) ((bm true [16]).toArray) rfl rfl (any_of HT_.out (by kernel_rfl)) (fun _ _ _ h=>h) (Or.inl ⟨by rfl,?_⟩) ?_ ?_;rotate_left
                     · intro w';go_simp;with_reducible rfl
                     rotate_left
                     · simp only [Act.put,List.setIfInBounds_toArray,List.set_cons_zero,List.set_cons_succ,i64_w,i32_w];rfl
                     refine done_ (done_of HT_.out (by kernel_rfl)) ?_
                     have hnb106:=NB278_279.out
                     have hnc106:=NB279_278.out
                     have hnb107:=NB278_280.out
                     have hnc107:=NB280_278.out
                     have hnb108:=NB278_289.out
                     have hnc108:=NB289_278.out
                     obtain ⟨hcz109_0,hcz109_1,hcz109_2,hcz109_3,hfz109_0,hfz109_1,hfz109_2,hfz109_3⟩:=bcells4 BK278.out
                     try go_wp2
                     go_roundg k4
                     case measure=>have:=HJ8.out;have:=HJ50.out;have:=HK3.out;have:=HK4.out;omega
                     case rel=>exact ⟨(wrap64 (x11_4+1)),(x290002_4),(x290003_4),(u290002),(u290003),okV,H',⟨by have:=HJ8.out;have:=HJ50.out;have:=HK3.out;have:=HK4.out;omega⟩,⟨rowV HO_290002.out⟩,⟨rowV HO_290003.out⟩,⟨blkV BK278.out⟩,⟨blkV BK279.out⟩,⟨blkV BK280.out⟩,⟨blkV BK289.out⟩,⟨blkV BK295.out⟩,⟨belV5 HB.out GE278.out GE279.out GE280.out GE289.out GE295.out⟩⟩
                   rw [if_neg c81] at H
                   have c81b0:decide ((wrap64 (((rd_T91 l1_2 x9_3).f0)+(Int.tmod x11_4 ((rd_T91 l1_2 x9_3).f2)))) < a0_0)=false:=decide_eq_false c81;clear c81
                   have H':=Aside0.mk H;clear H
                   have hnb110:=NB295_278.out
                   have hnc110:=NB278_295.out
                   have hnb111:=NB295_279.out
                   have hnc111:=NB279_295.out
                   have hnb112:=NB295_280.out
                   have hnc112:=NB280_295.out
                   have hnb113:=NB295_289.out
                   have hnc113:=NB289_295.out
                   obtain ⟨hcz114_0,hcz114_1,hcz114_2,hcz114_3,hcz114_4,hfz114_0,hfz114_1,hfz114_2,hfz114_3,hfz114_4⟩:=bcells5 BK295.out
                   try go_wp2
                   have n0_:=Aside0.mk (Kd.R_drew HO_290002.out)
                   have n1_:=Aside0.mk (Kd.R_drew HO_290003.out)
                   have n2_:=Aside0.mk (blk_drew BK278.out)
                   have n3_:=Aside0.mk (blk_drew BK279.out)
                   have n4_:=Aside0.mk (blk_drew BK280.out)
                   have n5_:=Aside0.mk (blk_drew BK289.out)
                   have n6_:=Aside0.mk (blk_drew BK295.out)
                   have n7_:=Aside0.mk (below_drew1 HB.out);clear HO_290002;clear HO_290003;clear BK278;clear BK279;clear BK280;clear BK289;clear BK295;clear HB;have HO_290002:=n0_;have HO_290003:=n1_;have BK278:=n2_;have BK279:=n3_;have BK280:=n4_;have BK289:=n5_;have BK295:=n6_;have HB:=n7_;clear n0_ n1_ n2_ n3_ n4_ n5_ n6_ n7_
                   refine start_ (n:=16) (S:=fun w'=>w'.cell? ⟨gb295,0,none⟩=some (.int .i64 ((rd_T91 l1_2 x9_3).f0))∧w'.cell? ⟨gb295,1,none⟩=some (.int .i64 ((rd_T91 l1_2 x9_3).f1))∧w'.cell? ⟨gb295,2,none⟩=some (.int .i64 ((rd_T91 l1_2 x9_3).f2))∧w'.cell? ⟨gb295,3,none⟩=some (.int .i64 ((rd_T91 l1_2 x9_3).f3))∧w'.cell? ⟨gb295,4,none⟩=some (.slice A294_4 ((rd_T91 l1_2 x9_3).f4).length c294_4)) (ds:=[]) ((bm false [16]).toArray) (by kernel_rfl) rfl rfl ⟨(blk_cell BK295.out 0).trans rfl,(blk_cell BK295.out 1).trans rfl,(blk_cell BK295.out 2).trans rfl,(blk_cell BK295.out 3).trans rfl,(blk_cell BK295.out 4).trans rfl⟩ (fun hHeld=>?_);refine with_tabW dioramaref19_Draw.tab21 dioramaref19_Draw.bits21 (fun HT_ HW_=>?_)
                   generalize wr.drew=w115 at HO_290002 HO_290003 BK278 BK279 BK280 BK289 BK295 HB hHeld ⊢
                   refine pure_ (i:=0) (N:=some 75) (v:=?_) (a':=?_) ((bm true [1,15]).toArray) rfl rfl (any_of HT_.out (by kernel_rfl)) (fun _ _ _ h=>h) (Or.inl ⟨by rfl,?_⟩) ?_ ?_;rotate_left
                   · intro w';go_simp;with_reducible rfl
                   rotate_left
                   · simp only [Act.put,List.setIfInBounds_toArray,List.set_cons_zero,List.set_cons_succ,i64_w,i32_w];rfl
                   refine pure_ (i:=2) (N:=some 77) (v:=?_) (a':=?_) ((bm true [1,1,1,13]).toArray) rfl rfl (any_of HT_.out (by kernel_rfl)) (fun _ _ _ h=>h) (Or.inl ⟨by rfl,?_⟩) ?_ ?_;rotate_left
                   · intro w';go_simp;with_reducible rfl
                   rotate_left
                   · simp only [Act.put,List.setIfInBounds_toArray,List.set_cons_zero,List.set_cons_succ,i64_w,i32_w];rfl
                   refine pure_ (i:=3) (N:=some 78) (v:=?_) (a':=?_) ((bm true [1,1,2,12]).toArray) rfl rfl (any_of HT_.out (by kernel_rfl)) (fun _ _ _ h=>h) (Or.inl ⟨by rfl,?_⟩) ?_ ?_;rotate_left
                   · intro w';go_simp;with_reducible rfl
                   rotate_left
                   · simp only [Act.put,List.setIfInBounds_toArray,List.set_cons_zero,List.set_cons_succ,i64_w,i32_w];rfl
                   refine pure_ (i:=7) (N:=some 82) (v:=?_) (a':=?_) ((bm true [1,1,2,3,1,8]).toArray) rfl rfl (any_of HT_.out (by kernel_rfl)) (fun _ _ _ h=>h) (Or.inl ⟨by rfl,?_⟩) ?_ ?_;rotate_left
                   · intro w';go_simp;with_reducible rfl
                   rotate_left
                   · simp only [Act.put,List.setIfInBounds_toArray,List.set_cons_zero,List.set_cons_succ,i64_w,i32_w];rfl
                   refine pure_ (i:=9) (N:=some 84) (v:=?_) (a':=?_) ((bm true [1,1,2,3,1,1,1,6]).toArray) rfl rfl (any_of HT_.out (by kernel_rfl)) (fun _ _ _ h=>h) (Or.inl ⟨by rfl,?_⟩) ?_ ?_;rotate_left
                   · intro w';go_simp;with_reducible rfl
                   rotate_left
                   · simp only [Act.put,List.setIfInBounds_toArray,List.set_cons_zero,List.set_cons_succ,i64_w,i32_w];rfl
                   refine pure_ (i:=10) (N:=some 85) (v:=?_) (a':=?_) ((bm true [1,1,2,3,1,1,2,5]).toArray) rfl rfl (any_of HT_.out (by kernel_rfl)) (fun _ _ _ h=>h) (Or.inl ⟨by rfl,?_⟩) ?_ ?_;rotate_left
                   · intro w';go_simp;with_reducible rfl
                   rotate_left
                   · simp only [Act.put,List.setIfInBounds_toArray,List.set_cons_zero,List.set_cons_succ,i64_w,i32_w];rfl
                   refine take_ (i:=1) (N:=some 76) (v:=?_) (a':=?_) ((bm true [4,3,1,1,2,5]).toArray) rfl rfl (take_ofW HT_.out HW_.out (by kernel_rfl)) (fun _ _ _ h=>h) (Or.inl ⟨by rfl,?_⟩) hHeld ?_ ?_;rotate_left
                   · rintro w' ⟨s0,s1,s2,s3,s4⟩
                     go_simp;with_reducible rfl
                   rotate_left
                   · simp only [Act.put,List.setIfInBounds_toArray,List.set_cons_zero,List.set_cons_succ,i64_w,i32_w];rfl
                   refine take_ (i:=4) (N:=some 79) (v:=?_) (a':=?_) ((bm true [5,2,1,1,2,5]).toArray) rfl rfl (take_ofW HT_.out HW_.out (by kernel_rfl)) (fun _ _ _ h=>h) (Or.inl ⟨by rfl,?_⟩) hHeld ?_ ?_;rotate_left
                   · rintro w' ⟨s0,s1,s2,s3,s4⟩
                     go_simp;with_reducible rfl
                   rotate_left
                   · simp only [Act.put,List.setIfInBounds_toArray,List.set_cons_zero,List.set_cons_succ,i64_w,i32_w];rfl
                   refine pure_ (i:=5) (N:=some 80) (v:=?_) (a':=?_) ((bm true [6,1,1,1,2,5]).toArray) rfl rfl (any_of HT_.out (by kernel_rfl)) (fun _ _ _ h=>h) (Or.inl ⟨by rfl,?_⟩) ?_ ?_;rotate_left
                   · intro w';go_simp;with_reducible rfl
                   rotate_left
                   · simp only [Act.put,List.setIfInBounds_toArray,List.set_cons_zero,List.set_cons_succ,i64_w,i32_w];rfl
                   refine pure_ (i:=6) (N:=some 81) (v:=?_) (a':=?_) ((bm true [8,1,2,5]).toArray) rfl rfl (any_of HT_.out (by kernel_rfl)) (fun _ _ _ h=>h) (Or.inl ⟨by rfl,?_⟩) ?_ ?_;rotate_left
                   · intro w';go_simp;with_reducible rfl
                   rotate_left
                   · simp only [Act.put,List.setIfInBounds_toArray,List.set_cons_zero,List.set_cons_succ,i64_w,i32_w];rfl
                   refine pure_ (i:=14) (N:=some 12) (v:=?_) (a':=?_) ((bm true [8,1,2,3,1,1]).toArray) rfl rfl (any_of HT_.out (by kernel_rfl)) (fun _ _ _ h=>h) (Or.inl ⟨by rfl,?_⟩) ?_ ?_;rotate_left
                   · intro w';go_simp;with_reducible rfl
                   rotate_left
                   · simp only [Act.put,List.setIfInBounds_toArray,List.set_cons_zero,List.set_cons_succ,i64_w,i32_w];rfl
                   refine take_ (i:=8) (N:=some 83) (v:=?_) (a':=?_) ((bm true [11,3,1,1]).toArray) rfl rfl (take_ofW HT_.out HW_.out (by kernel_rfl)) (fun _ _ _ h=>h) (Or.inl ⟨by rfl,?_⟩) hHeld ?_ ?_;rotate_left
                   · rintro w' ⟨s0,s1,s2,s3,s4⟩
                     go_simp;with_reducible rfl
                   rotate_left
                   · simp only [Act.put,List.setIfInBounds_toArray,List.set_cons_zero,List.set_cons_succ,i64_w,i32_w];rfl
                   refine take_ (i:=11) (N:=some 86) (v:=?_) (a':=?_) ((bm true [12,2,1,1]).toArray) rfl rfl (take_ofW HT_.out HW_.out (by kernel_rfl)) (fun _ _ _ h=>h) (Or.inl ⟨by rfl,?_⟩) hHeld ?_ ?_;rotate_left
                   · rintro w' ⟨s0,s1,s2,s3,s4⟩
                     go_simp;with_reducible rfl
                   rotate_left
                   · simp only [Act.put,List.setIfInBounds_toArray,List.set_cons_zero,List.set_cons_succ,i64_w,i32_w];rfl
                   refine pure_ (i:=12) (N:=some 87) (v:=?_) (a':=?_) ((bm true [13,1,1,1]).toArray) rfl rfl (any_of HT_.out (by kernel_rfl)) (fun _ _ _ h=>h) (Or.inl ⟨by rfl,?_⟩) ?_ ?_;rotate_left
                   · intro w';go_simp;with_reducible rfl
                   rotate_left
                   · simp only [Act.put,List.setIfInBounds_toArray,List.set_cons_zero,List.set_cons_succ,i64_w,i32_w];rfl
                   refine pure_ (i:=13) (N:=some 88) (v:=?_) (a':=?_) ((bm true [15,1]).toArray) rfl rfl (any_of HT_.out (by kernel_rfl)) (fun _ _ _ h=>h) (Or.inl ⟨by rfl,?_⟩) ?_ ?_;rotate_left
                   · intro w';go_simp;with_reducible rfl
                   rotate_left
                   · simp only [Act.put,List.setIfInBounds_toArray,List.set_cons_zero,List.set_cons_succ,i64_w,i32_w];rfl
                   refine pure_ (i:=15) (N:=some 13) (v:=?_) (a':=?_) ((bm true [16]).toArray) rfl rfl (any_of HT_.out (by kernel_rfl)) (fun _ _ _ h=>h) (Or.inl ⟨by rfl,?_⟩) ?_ ?_;rotate_left
                   · intro w';go_simp;with_reducible rfl
                   rotate_left
                   · simp only [Act.put,List.setIfInBounds_toArray,List.set_cons_zero,List.set_cons_succ,i64_w,i32_w];rfl
                   refine done_ (done_of HT_.out (by kernel_rfl)) ?_
                   have hnb116:=NB278_279.out
                   have hnc116:=NB279_278.out
                   have hnb117:=NB278_280.out
                   have hnc117:=NB280_278.out
                   have hnb118:=NB278_289.out
                   have hnc118:=NB289_278.out
                   obtain ⟨hcz119_0,hcz119_1,hcz119_2,hcz119_3,hfz119_0,hfz119_1,hfz119_2,hfz119_3⟩:=bcells4 BK278.out
                   try go_wp2
                   go_roundg k4
                   case measure=>have:=HJ8.out;have:=HJ50.out;have:=HK3.out;have:=HK4.out;omega
                   case rel=>exact ⟨(wrap64 (x11_4+1)),(x290002_4),(x290003_4),(u290002),(u290003),okV,H',⟨by have:=HJ8.out;have:=HJ50.out;have:=HK3.out;have:=HK4.out;omega⟩,⟨rowV HO_290002.out⟩,⟨rowV HO_290003.out⟩,⟨blkV BK278.out⟩,⟨blkV BK279.out⟩,⟨blkV BK280.out⟩,⟨blkV BK289.out⟩,⟨blkV BK295.out⟩,⟨belV5 HB.out GE278.out GE279.out GE280.out GE289.out GE295.out⟩⟩
                 rw [if_neg c79] at H
                 have c79b0:decide (x11_4 < (((rd_T91 l1_2 x9_3).f4).length:Int))=false:=decide_eq_false c79;clear c79
                 have H':=Aside0.mk H;clear H
                 have hnb120:=NB295_278.out
                 have hnc120:=NB278_295.out
                 have hnb121:=NB295_279.out
                 have hnc121:=NB279_295.out
                 have hnb122:=NB295_280.out
                 have hnc122:=NB280_295.out
                 have hnb123:=NB295_289.out
                 have hnc123:=NB289_295.out
                 obtain ⟨hcz124_0,hcz124_1,hcz124_2,hcz124_3,hcz124_4,hfz124_0,hfz124_1,hfz124_2,hfz124_3,hfz124_4⟩:=bcells5 BK295.out
                 go_wp2
                 go_roundg k4
                 case measure=>have:=HJ8.out;have:=HJ50.out;have:=HK3.out;have:=HK4.out;omega
                 case rel=>exact ⟨(wrap64 (x9_3+1)),(x290002_4),(x290003_4),(u290002),(u290003),okV,H',⟨by have:=HJ8.out;have:=HJ50.out;have:=HK3.out;have:=HK4.out;omega⟩,⟨rowV HO_290002.out⟩,⟨rowV HO_290003.out⟩,⟨blkV BK278.out⟩,⟨blkV BK279.out⟩,⟨blkV BK280.out⟩,⟨blkV BK289.out⟩,⟨belV5 HB.out GE278.out GE279.out GE280.out GE289.out GE295.out⟩⟩
             rw [if_neg c68] at H
             exact absurd H (by simp)
           rw [if_neg c67] at H
           have c67b0:decide (x9_3 < (l1_2.length:Int))=false:=decide_eq_false c67;clear c67
           simp only [Option.some.injEq,Prod.mk.injEq] at H
           obtain ⟨rfl,rfl,rfl,rfl,rfl⟩:=H
           have hnb125:=NB279_278.out
           have hnc125:=NB278_279.out
           have hnb126:=NB279_280.out
           have hnc126:=NB280_279.out
           have hnb127:=NB279_289.out
           have hnc127:=NB289_279.out
           obtain ⟨hcz128_0,hcz128_1,hcz128_2,hfz128_0,hfz128_1,hfz128_2⟩:=bcells3 BK279.out
           have hnb129:=NB289_278.out
           have hnc129:=NB278_289.out
           have hnb130:=NB289_280.out
           have hnc130:=NB280_289.out
           obtain ⟨hcz131_0,hcz131_1,hcz131_2,hcz131_3,hfz131_0,hfz131_1,hfz131_2,hfz131_3⟩:=bcells4 BK289.out
           have hnb132:=NB280_278.out
           have hnc132:=NB278_280.out
           obtain ⟨hcz133_0,hcz133_1,hcz133_2,hcz133_3,hfz133_0,hfz133_1,hfz133_2,hfz133_3⟩:=bcells4 BK280.out
           obtain ⟨Ao134,co134,eo134⟩:=Kd.R_slice HO_290002.out;subst eo134
           obtain ⟨Ao135,co135,eo135⟩:=Kd.R_slice HO_290003.out;subst eo135
           go_wp2
           refine bodyPost_ret (results_ct rfl _ _ gb280 41 #[.int .i64 a0_0,.int .i64 a0_1,.slice Ao134 x290002_3.length co134,.slice Ao135 x290003_3.length co135] (0,0) _ rfl (by (with_reducible repeat (first|refine blk_drewN ?_ _|refine blk_drew ?_|refine blk_alloc ?_ _));refine blk_put (cs:=#[.int .i64 a0_0,.int .i64 a0_1,.slice Ao134 x290002_3.length co134,.slice none 0 0]) ?_ 3 _ rfl;(with_reducible repeat (first|refine blk_drewN ?_ _|refine blk_drew ?_|refine blk_alloc ?_ _));refine blk_put (cs:=#[.int .i64 a0_0,.int .i64 a0_1,.slice none 0 0,.slice none 0 0]) ?_ 2 _ rfl;(with_reducible repeat (first|refine blk_drewN ?_ _|refine blk_drew ?_|refine blk_alloc ?_ _));refine blk_put (cs:=#[.int .i64 a0_0,.int .i64 0,.slice none 0 0,.slice none 0 0]) ?_ 1 _ rfl;(with_reducible repeat (first|refine blk_drewN ?_ _|refine blk_drew ?_|refine blk_alloc ?_ _));refine blk_put (cs:=#[.int .i64 0,.int .i64 0,.slice none 0 0,.slice none 0 0]) ?_ 0 _ rfl;(with_reducible repeat (first|refine blk_drewN ?_ _|refine blk_drew ?_|refine blk_alloc ?_ _));exact BK280.out) Try.underlying41 rfl (by kernel_rfl)) rfl ?_
           exact ⟨_,_,by first|rfl|(simp [errW_none,errW_some] <;> rfl)|(simp [*,errW_none,errW_some] <;> rfl),by (with_reducible repeat (first|apply Kd.R_alloc|apply Kd.R_drewN|apply Kd.R_drew));exact Kd.R_mono (Kd.R_put4 HO_290002.out BK280.out (by decide)) (fun _ hk=>hk.1),by (with_reducible repeat (first|apply Kd.R_alloc|apply Kd.R_drewN|apply Kd.R_drew));exact Kd.R_mono (Kd.R_put4 HO_290003.out BK280.out (by decide)) (fun _ hk=>hk.1),by repeat (first|(with_reducible first|exact HB.out|apply below_alloc|apply pw_below_drewN|apply below_drew1|refine below_set ?_ GE278.out|refine below_set ?_ GE279.out|refine below_set ?_ GE280.out|refine below_set ?_ GE289.out)|exact HB.out)⟩
   rw [if_neg c6] at H
   have c6b0:(t282 == 0)=false:=beq_eq_false_iff_ne.mpr c6
   have c6b1:(t282 != 0)=true:=bne_iff_ne.mpr c6
   simp only [Option.some.injEq,Prod.mk.injEq] at H
   obtain ⟨rfl,rfl,rfl,rfl,rfl⟩:=H
   go_enter Try.func31,Try.ntmps31
   go_wp2_with (first|((with_reducible refine gate_dst (N:=2) rfl ?_);refine box_event ?hg (N:=2) ?hd (cs:=#[.int .i64 a0_0,.int .i64 a0_1,.slice A0_2 l0_2.length c0_2,.slice A0_3 l0_3.length c0_3]) (t:=41) ?hr ?_;(case hd=>rfl);(case hg=>rfl);(case hr=>first|(go_simp;done)|(go_simp;rfl));intro gb278 hg w136 hbox hb;have n0_:=Aside0.mk (below_step (belV HB.out) hb);have n1_:=Aside0.mk (hbox);have n2_:=Aside0.mk ((by rw [hg];exact (below_size (belV HB.out)):w.heap.size≤gb278));have n3_:=Aside0.mk ((by rw [hg];exact (below_size (belV HB.out)):w.heap.size≤gb278));clear HB;have HB:=n0_;have BK278:=n1_;have GW278:=n2_;have GE278:=n3_;clear n0_ n1_ n2_ n3_;clear hb hbox hg)|((with_reducible refine gate_dst (N:=3) rfl ?_);refine box_event ?hg (N:=3) ?hd (cs:=#[.bool a1_0,.slice A1_1 l1_1.length c1_1,.slice A1_2 l1_2.length c1_2]) (t:=51) ?hr ?_;(case hd=>rfl);(case hg=>rfl);(case hr=>first|(go_simp;done)|(go_simp;rfl));intro gb279 hg w137 hbox hb;have n0_:=Aside0.mk (blk_below (g:=gb278) (blkV BK278.out) hb);have n1_:=Aside0.mk (below_step (belV1 HB.out GE278.out) hb);have n2_:=Aside0.mk (hbox);have n3_:=Aside0.mk ((by rw [hg];exact (below_size (belV1 HB.out GE278.out)):w.heap.size≤gb279));have n4_:=Aside0.mk ((by rw [hg];exact (below_size (belV1 HB.out GE278.out)):w.heap.size≤gb279));have n5_:=Aside0.mk ((by rw [hg];exact Nat.ne_of_lt (blk_lt (g:=gb278) (blkV BK278.out)):gb278≠gb279));have n6_:=Aside0.mk ((by rw [hg];exact Nat.ne_of_gt (blk_lt (g:=gb278) (blkV BK278.out)):gb279≠gb278));clear BK278;clear HB;have BK278:=n0_;have HB:=n1_;have BK279:=n2_;have GW279:=n3_;have GE279:=n4_;have NB278_279:=n5_;have NB279_278:=n6_;clear n0_ n1_ n2_ n3_ n4_ n5_ n6_;clear hb hbox hg)|((with_reducible refine gate_dst (N:=4) rfl ?_);refine box_event ?hg (N:=4) ?hd (cs:=#[.int .i64 0,.int .i64 0,.slice none 0 0,.slice none 0 0]) (t:=41) ?hr ?_;(case hd=>rfl);(case hg=>rfl);(case hr=>first|(go_simp;done)|(go_simp;rfl));intro gb280 hg w138 hbox hb;have n0_:=Aside0.mk (blk_below (g:=gb278) (blkV BK278.out) hb);have n1_:=Aside0.mk (blk_below (g:=gb279) (blkV BK279.out) hb);have n2_:=Aside0.mk (below_step (belV2 HB.out GE278.out GE279.out) hb);have n3_:=Aside0.mk (hbox);have n4_:=Aside0.mk ((by rw [hg];exact (below_size (belV2 HB.out GE278.out GE279.out)):w.heap.size≤gb280));have n5_:=Aside0.mk ((by rw [hg];exact (below_size (belV2 HB.out GE278.out GE279.out)):w.heap.size≤gb280));have n6_:=Aside0.mk ((by rw [hg];exact Nat.ne_of_lt (blk_lt (g:=gb278) (blkV BK278.out)):gb278≠gb280));have n7_:=Aside0.mk ((by rw [hg];exact Nat.ne_of_gt (blk_lt (g:=gb278) (blkV BK278.out)):gb280≠gb278));have n8_:=Aside0.mk ((by rw [hg];exact Nat.ne_of_lt (blk_lt (g:=gb279) (blkV BK279.out)):gb279≠gb280));have n9_:=Aside0.mk ((by rw [hg];exact Nat.ne_of_gt (blk_lt (g:=gb279) (blkV BK279.out)):gb280≠gb279));clear BK278;clear BK279;clear HB;have BK278:=n0_;have BK279:=n1_;have HB:=n2_;have BK280:=n3_;have GW280:=n4_;have GE280:=n5_;have NB278_280:=n6_;have NB280_278:=n7_;have NB279_280:=n8_;have NB280_279:=n9_;clear n0_ n1_ n2_ n3_ n4_ n5_ n6_ n7_ n8_ n9_;clear hb hbox hg;have hnb139:=NB278_279.out;have hnc139:=NB279_278.out;have hnb140:=NB278_280.out;have hnc140:=NB280_278.out;obtain ⟨hcz141_0,hcz141_1,hcz141_2,hcz141_3,hfz141_0,hfz141_1,hfz141_2,hfz141_3⟩:=bcells4 BK278.out)|((with_reducible refine gate_callee (f:=67) rfl ?_);refine goesL_ (some 15) rfl rfl Try.func67 (by kernel_rfl) rfl #[.agg #[.int .i64 a0_0,.int .i64 a0_1,.slice A0_2 l0_2.length c0_2,.slice A0_3 l0_3.length c0_3]] rfl (by (try simp only [List.map_toArray,List.map_cons,List.map_nil]);first|done|rfl|(simp only [List.length_drop,List.length_take];rfl)) ?_;(with_reducible refine (dioramaref19_Valid.calls k a0_0 a0_1 _ _ l0_2 _ _ l0_3 true _ ?side1 ?side2 ?side3 ?side4 A3.out).mono ?_);(case side1=>exact cV (Kd.C_below HR0_2.out HB.out));(case side2=>exact HC0_2.out);(case side3=>exact cV (Kd.C_below HR0_3.out HB.out));(case side4=>exact HC0_3.out);rintro e w142 ⟨rfl,hb⟩;refine ⟨_,rfl,?_⟩;have n0_:=Aside0.mk (blk_below (g:=gb278) (blkV BK278.out) hb);have n1_:=Aside0.mk (blk_below (g:=gb279) (blkV BK279.out) hb);have n2_:=Aside0.mk (blk_below (g:=gb280) (blkV BK280.out) hb);have n3_:=Aside0.mk (below_step (belV3 HB.out GE278.out GE279.out GE280.out) hb);clear BK278;clear BK279;clear BK280;clear HB;have BK278:=n0_;have BK279:=n1_;have BK280:=n2_;have HB:=n3_;clear n0_ n1_ n2_ n3_;(try clear hb);(try clear hb2);(try clear hk);(try clear hi);have hnb143:=NB279_280.out;have hnc143:=NB280_279.out;obtain ⟨hcz144_0,hcz144_1,hcz144_2,hfz144_0,hfz144_1,hfz144_2⟩:=bcells3 BK279.out)|((with_reducible refine gate_callee (f:=40) rfl ?_);refine goesL_ (some 19) rfl rfl Try.func40 (by kernel_rfl) rfl #[.agg #[.bool a1_0,.slice A1_1 l1_1.length c1_1,.slice A1_2 l1_2.length c1_2]] rfl (by (try simp only [List.map_toArray,List.map_cons,List.map_nil]);first|done|rfl|(simp only [List.length_drop,List.length_take];rfl)) ?_;(with_reducible refine (dioramaref19_Check.calls k a1_0 _ _ l1_1 _ _ l1_2 t282 _ ?side1 ?side2 ?side3 ?side4 A5.out).mono ?_);(case side1=>exact cV (Kd.C_below HR1_1.out HB.out));(case side2=>exact HC1_1.out);(case side3=>exact cV (Kd.C_below HR1_2.out HB.out));(case side4=>exact HC1_2.out);rintro e w145 ⟨rfl,hb⟩;refine ⟨_,rfl,?_⟩;have n0_:=Aside0.mk (blk_below (g:=gb278) (blkV BK278.out) hb);have n1_:=Aside0.mk (blk_below (g:=gb279) (blkV BK279.out) hb);have n2_:=Aside0.mk (blk_below (g:=gb280) (blkV BK280.out) hb);have n3_:=Aside0.mk (below_step (belV3 HB.out GE278.out GE279.out GE280.out) hb);clear BK278;clear BK279;clear BK280;clear HB;have BK278:=n0_;have BK279:=n1_;have BK280:=n2_;have HB:=n3_;clear n0_ n1_ n2_ n3_;(try clear hb);(try clear hb2);(try clear hk);(try clear hi);obtain ⟨hcz146_0,hcz146_1,hcz146_2,hcz146_3,hfz146_0,hfz146_1,hfz146_2,hfz146_3⟩:=bcells4 BK280.out))
   refine bodyPost_ret (results_ct rfl _ _ gb280 41 #[.int .i64 0,.int .i64 0,.slice none 0 0,.slice none 0 0] (0,0) _ rfl (by (with_reducible repeat (first|refine blk_drewN ?_ _|refine blk_drew ?_|refine blk_alloc ?_ _));refine blk_put (cs:=#[.int .i64 0,.int .i64 0,.slice none 0 0,.slice none 0 0]) ?_ 3 _ rfl;(with_reducible repeat (first|refine blk_drewN ?_ _|refine blk_drew ?_|refine blk_alloc ?_ _));refine blk_put (cs:=#[.int .i64 0,.int .i64 0,.slice none 0 0,.slice none 0 0]) ?_ 2 _ rfl;(with_reducible repeat (first|refine blk_drewN ?_ _|refine blk_drew ?_|refine blk_alloc ?_ _));refine blk_put (cs:=#[.int .i64 0,.int .i64 0,.slice none 0 0,.slice none 0 0]) ?_ 1 _ rfl;(with_reducible repeat (first|refine blk_drewN ?_ _|refine blk_drew ?_|refine blk_alloc ?_ _));refine blk_put (cs:=#[.int .i64 0,.int .i64 0,.slice none 0 0,.slice none 0 0]) ?_ 0 _ rfl;(with_reducible repeat (first|refine blk_drewN ?_ _|refine blk_drew ?_|refine blk_alloc ?_ _));exact BK280.out) Try.underlying41 rfl (by kernel_rfl)) rfl ?_
   exact ⟨_,_,by first|rfl|(simp [errW_none,errW_some] <;> rfl)|(simp [*,errW_none,errW_some] <;> rfl),by first|exact Kd.R_nil _ _ _ _ _|exact Kd.N_nil _ _ _ _ _|exact Kd.V_nil _ _ _ _ _|exact Kd.Q_nil _ _ _ _ _|exact Kd.S_nil _ _ _ _ _,by first|exact Kd.R_nil _ _ _ _ _|exact Kd.N_nil _ _ _ _ _|exact Kd.V_nil _ _ _ _ _|exact Kd.Q_nil _ _ _ _ _|exact Kd.S_nil _ _ _ _ _,by repeat (first|(with_reducible first|exact HB.out|apply below_alloc|apply pw_below_drewN|apply below_drew1|refine below_set ?_ GE278.out|refine below_set ?_ GE279.out|refine below_set ?_ GE280.out)|exact HB.out)⟩
 replace c4:=Bool.eq_false_iff.mpr c4;subst c4
 have H1:(some (0,0,([]:List Int),([]:List Int),4))=some (r1,r2,r3,r4,r5):=by rw [if_neg (show ¬ (false=true) by decide)] at H;exact H
 clear H
 have H:=H1;clear H1
 simp only [Option.some.injEq,Prod.mk.injEq] at H
 obtain ⟨rfl,rfl,rfl,rfl,rfl⟩:=H
 go_enter Try.func31,Try.ntmps31
 go_wp2_with (first|((with_reducible refine gate_dst (N:=2) rfl ?_);refine box_event ?hg (N:=2) ?hd (cs:=#[.int .i64 a0_0,.int .i64 a0_1,.slice A0_2 l0_2.length c0_2,.slice A0_3 l0_3.length c0_3]) (t:=41) ?hr ?_;(case hd=>rfl);(case hg=>rfl);(case hr=>first|(go_simp;done)|(go_simp;rfl));intro gb278 hg w147 hbox hb;have n0_:=Aside0.mk (below_step (belV HB.out) hb);have n1_:=Aside0.mk (hbox);have n2_:=Aside0.mk ((by rw [hg];exact (below_size (belV HB.out)):w.heap.size≤gb278));have n3_:=Aside0.mk ((by rw [hg];exact (below_size (belV HB.out)):w.heap.size≤gb278));clear HB;have HB:=n0_;have BK278:=n1_;have GW278:=n2_;have GE278:=n3_;clear n0_ n1_ n2_ n3_;clear hb hbox hg)|((with_reducible refine gate_dst (N:=3) rfl ?_);refine box_event ?hg (N:=3) ?hd (cs:=#[.bool a1_0,.slice A1_1 l1_1.length c1_1,.slice A1_2 l1_2.length c1_2]) (t:=51) ?hr ?_;(case hd=>rfl);(case hg=>rfl);(case hr=>first|(go_simp;done)|(go_simp;rfl));intro gb279 hg w148 hbox hb;have n0_:=Aside0.mk (blk_below (g:=gb278) (blkV BK278.out) hb);have n1_:=Aside0.mk (below_step (belV1 HB.out GE278.out) hb);have n2_:=Aside0.mk (hbox);have n3_:=Aside0.mk ((by rw [hg];exact (below_size (belV1 HB.out GE278.out)):w.heap.size≤gb279));have n4_:=Aside0.mk ((by rw [hg];exact (below_size (belV1 HB.out GE278.out)):w.heap.size≤gb279));have n5_:=Aside0.mk ((by rw [hg];exact Nat.ne_of_lt (blk_lt (g:=gb278) (blkV BK278.out)):gb278≠gb279));have n6_:=Aside0.mk ((by rw [hg];exact Nat.ne_of_gt (blk_lt (g:=gb278) (blkV BK278.out)):gb279≠gb278));clear BK278;clear HB;have BK278:=n0_;have HB:=n1_;have BK279:=n2_;have GW279:=n3_;have GE279:=n4_;have NB278_279:=n5_;have NB279_278:=n6_;clear n0_ n1_ n2_ n3_ n4_ n5_ n6_;clear hb hbox hg)|((with_reducible refine gate_dst (N:=4) rfl ?_);refine box_event ?hg (N:=4) ?hd (cs:=#[.int .i64 0,.int .i64 0,.slice none 0 0,.slice none 0 0]) (t:=41) ?hr ?_;(case hd=>rfl);(case hg=>rfl);(case hr=>first|(go_simp;done)|(go_simp;rfl));intro gb280 hg w149 hbox hb;have n0_:=Aside0.mk (blk_below (g:=gb278) (blkV BK278.out) hb);have n1_:=Aside0.mk (blk_below (g:=gb279) (blkV BK279.out) hb);have n2_:=Aside0.mk (below_step (belV2 HB.out GE278.out GE279.out) hb);have n3_:=Aside0.mk (hbox);have n4_:=Aside0.mk ((by rw [hg];exact (below_size (belV2 HB.out GE278.out GE279.out)):w.heap.size≤gb280));have n5_:=Aside0.mk ((by rw [hg];exact (below_size (belV2 HB.out GE278.out GE279.out)):w.heap.size≤gb280));have n6_:=Aside0.mk ((by rw [hg];exact Nat.ne_of_lt (blk_lt (g:=gb278) (blkV BK278.out)):gb278≠gb280));have n7_:=Aside0.mk ((by rw [hg];exact Nat.ne_of_gt (blk_lt (g:=gb278) (blkV BK278.out)):gb280≠gb278));have n8_:=Aside0.mk ((by rw [hg];exact Nat.ne_of_lt (blk_lt (g:=gb279) (blkV BK279.out)):gb279≠gb280));have n9_:=Aside0.mk ((by rw [hg];exact Nat.ne_of_gt (blk_lt (g:=gb279) (blkV BK279.out)):gb280≠gb279));clear BK278;clear BK279;clear HB;have BK278:=n0_;have BK279:=n1_;have HB:=n2_;have BK280:=n3_;have GW280:=n4_;have GE280:=n5_;have NB278_280:=n6_;have NB280_278:=n7_;have NB279_280:=n8_;have NB280_279:=n9_;clear n0_ n1_ n2_ n3_ n4_ n5_ n6_ n7_ n8_ n9_;clear hb hbox hg;have hnb150:=NB278_279.out;have hnc150:=NB279_278.out;have hnb151:=NB278_280.out;have hnc151:=NB280_278.out;obtain ⟨hcz152_0,hcz152_1,hcz152_2,hcz152_3,hfz152_0,hfz152_1,hfz152_2,hfz152_3⟩:=bcells4 BK278.out)|((with_reducible refine gate_callee (f:=67) rfl ?_);refine goesL_ (some 15) rfl rfl Try.func67 (by kernel_rfl) rfl #[.agg #[.int .i64 a0_0,.int .i64 a0_1,.slice A0_2 l0_2.length c0_2,.slice A0_3 l0_3.length c0_3]] rfl (by (try simp only [List.map_toArray,List.map_cons,List.map_nil]);first|done|rfl|(simp only [List.length_drop,List.length_take];rfl)) ?_;(with_reducible refine (dioramaref19_Valid.calls k a0_0 a0_1 _ _ l0_2 _ _ l0_3 false _ ?side1 ?side2 ?side3 ?side4 A3.out).mono ?_);(case side1=>exact cV (Kd.C_below HR0_2.out HB.out));(case side2=>exact HC0_2.out);(case side3=>exact cV (Kd.C_below HR0_3.out HB.out));(case side4=>exact HC0_3.out);rintro e w153 ⟨rfl,hb⟩;refine ⟨_,rfl,?_⟩;have n0_:=Aside0.mk (blk_below (g:=gb278) (blkV BK278.out) hb);have n1_:=Aside0.mk (blk_below (g:=gb279) (blkV BK279.out) hb);have n2_:=Aside0.mk (blk_below (g:=gb280) (blkV BK280.out) hb);have n3_:=Aside0.mk (below_step (belV3 HB.out GE278.out GE279.out GE280.out) hb);clear BK278;clear BK279;clear BK280;clear HB;have BK278:=n0_;have BK279:=n1_;have BK280:=n2_;have HB:=n3_;clear n0_ n1_ n2_ n3_;(try clear hb);(try clear hb2);(try clear hk);(try clear hi);have hnb154:=NB280_279.out;have hnc154:=NB279_280.out;obtain ⟨hcz155_0,hcz155_1,hcz155_2,hcz155_3,hfz155_0,hfz155_1,hfz155_2,hfz155_3⟩:=bcells4 BK280.out))
 refine bodyPost_ret (results_ct rfl _ _ gb280 41 #[.int .i64 0,.int .i64 0,.slice none 0 0,.slice none 0 0] (0,0) _ rfl (by (with_reducible repeat (first|refine blk_drewN ?_ _|refine blk_drew ?_|refine blk_alloc ?_ _));refine blk_put (cs:=#[.int .i64 0,.int .i64 0,.slice none 0 0,.slice none 0 0]) ?_ 3 _ rfl;(with_reducible repeat (first|refine blk_drewN ?_ _|refine blk_drew ?_|refine blk_alloc ?_ _));refine blk_put (cs:=#[.int .i64 0,.int .i64 0,.slice none 0 0,.slice none 0 0]) ?_ 2 _ rfl;(with_reducible repeat (first|refine blk_drewN ?_ _|refine blk_drew ?_|refine blk_alloc ?_ _));refine blk_put (cs:=#[.int .i64 0,.int .i64 0,.slice none 0 0,.slice none 0 0]) ?_ 1 _ rfl;(with_reducible repeat (first|refine blk_drewN ?_ _|refine blk_drew ?_|refine blk_alloc ?_ _));refine blk_put (cs:=#[.int .i64 0,.int .i64 0,.slice none 0 0,.slice none 0 0]) ?_ 0 _ rfl;(with_reducible repeat (first|refine blk_drewN ?_ _|refine blk_drew ?_|refine blk_alloc ?_ _));exact BK280.out) Try.underlying41 rfl (by kernel_rfl)) rfl ?_
 exact ⟨_,_,by first|rfl|(simp [errW_none,errW_some] <;> rfl)|(simp [*,errW_none,errW_some] <;> rfl),by first|exact Kd.R_nil _ _ _ _ _|exact Kd.N_nil _ _ _ _ _|exact Kd.V_nil _ _ _ _ _|exact Kd.Q_nil _ _ _ _ _|exact Kd.S_nil _ _ _ _ _,by first|exact Kd.R_nil _ _ _ _ _|exact Kd.N_nil _ _ _ _ _|exact Kd.V_nil _ _ _ _ _|exact Kd.Q_nil _ _ _ _ _|exact Kd.S_nil _ _ _ _ _,by repeat (first|(with_reducible first|exact HB.out|apply below_alloc|apply pw_below_drewN|apply below_drew1|refine below_set ?_ GE278.out|refine below_set ?_ GE279.out|refine below_set ?_ GE280.out)|exact HB.out)⟩

end Go.Proofs.Ytaebgjdaoloceaa.QBmpD
