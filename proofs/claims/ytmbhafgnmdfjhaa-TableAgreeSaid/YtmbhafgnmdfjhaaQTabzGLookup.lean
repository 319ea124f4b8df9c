/- Part of a proof: functions of the program as Lean functions, and that the machine's calls come to them. Made by a program of this session (wip/mp). -/
import Derived.Test.YtmbhafgnmdfjhaaQTaby0
import Derived.Test.YtmbhafgnmdfjhaaGME
import Derived.Test.YtmbhafgnmdfjhaaQTabx22
import Derived.Test.YtmbhafgnmdfjhaaQTabx3
import Derived.Test.YtmbhafgnmdfjhaaQTabx5
import Derived.Test.YtmbhafgnmdfjhaaQTabx8
namespace Go.Proofs.Ytmbhafgnmdfjhaa.QTab
open Go.RowKit Go.Proofs.YtmbhafgnmdfjhaaV Go.Proofs.YtmbhafgnmdfjhaaW.PrintWords Go.Proofs.YtmbhafgnmdfjhaaW.PrintLast Go.Proofs.YtmbhafgnmdfjhaaW.PrintMore
attribute [local go_sem] max2_int min2_int max_two min_two max_three min_three max_four min_four   -- for this text's walks alone
set_option linter.unusedVariables false
set_option linter.unusedSimpArgs false

/-! ### table_Lookup: function 28 -/
mutual
def table_Lookup.j0 : Nat → Int → Bool → Int → List (S83) → List (S83) → List Int → Bool → Int → List Int → List (S86) → List Int → List (S83) → List (List Int) → Option (Int × Int × Int × Int × Int × Int × Bool × List Int × Int)
 | 0,_,_,_,_,_,_,_,_,_,_,_,_,_=>none
 | k+1,x1,x27,x243000,x243001,x243002,x243003,x243004,x243005,x243006,x243007,x243008,x243009,x243010=>if x27=true then (some (0,0,0,0,0,0,false,([]:List Int),1)) else ((table_before.f k x243001 x1).bind fun t246=>((table_value.f k x243001 x1).bind fun t247=>((table_size.f x243000 x243001 x243002 x243003 x243004 x243005 x243006 x243007 x243008 x243009 x243010 x1).bind fun t248=>((table_value.f k x243002 x1).bind fun t250=>(if (x243009.length:Int) > 0 then ((table_value.f k x243009 x1).bind fun t251=>(table_Lookup.j1 k x1 x243000 x243001 x243002 x243003 x243004 x243005 x243006 x243007 x243008 x243009 x243010 (wrap64 (x243000+t246)) (wrap64 ((wrap64 (x243000+t246))+t250)) t251 t248 0 0 x243004)) else (table_Lookup.j1 k x1 x243000 x243001 x243002 x243003 x243004 x243005 x243006 x243007 x243008 x243009 x243010 (wrap64 (x243000+t246)) (wrap64 ((wrap64 (x243000+t246))+t250)) t247 t248 0 0 x243004))))))
def table_Lookup.j1 : Nat → Int → Int → List (S83) → List (S83) → List Int → Bool → Int → List Int → List (S86) → List Int → List (S83) → List (List Int) → Int → Int → Int → Int → Int → Int → Bool → Option (Int × Int × Int × Int × Int × Int × Bool × List Int × Int)
 | 0,_,_,_,_,_,_,_,_,_,_,_,_,_,_,_,_,_,_,_=>none
 | k+1,x1,x243000,x243001,x243002,x243003,x243004,x243005,x243006,x243007,x243008,x243009,x243010,x250000,x250001,x250002,x250003,x250004,x250005,x250006=>(slices_BinarySearch_int_int.f k x243003 (wrap64 (x1+1))).bind fun bt252=>(if bt252.2=true then (table_Lookup.j2 k x1 x243000 x243001 x243002 x243003 x243004 x243005 x243006 x243007 x243008 x243009 x243010 x250000 x250001 x250002 x250003 x250004 x250005 true) else (table_Lookup.j2 k x1 x243000 x243001 x243002 x243003 x243004 x243005 x243006 x243007 x243008 x243009 x243010 x250000 x250001 x250002 x250003 x250004 x250005 x250006))
def table_Lookup.j2 : Nat → Int → Int → List (S83) → List (S83) → List Int → Bool → Int → List Int → List (S86) → List Int → List (S83) → List (List Int) → Int → Int → Int → Int → Int → Int → Bool → Option (Int × Int × Int × Int × Int × Int × Bool × List Int × Int)
 | 0,_,_,_,_,_,_,_,_,_,_,_,_,_,_,_,_,_,_,_=>none
 | k+1,x1,x243000,x243001,x243002,x243003,x243004,x243005,x243006,x243007,x243008,x243009,x243010,x250000,x250001,x250002,x250003,x250004,x250005,x250006=>if (x243010.length:Int) > 0 then (if 0≤x1 then (if x1 < (x243010.length:Int) then (table_Lookup.l0 k x1 (rd_L3 x243010 x1) ((rd_L3 x243010 x1).length:Int) 0 x243000 x243001 x243002 x243003 x243004 x243005 x243006 x243007 x243008 x243009 x243010 x250000 x250001 x250002 x250003 x250004 x250005 x250006 ([]:List Int)) else (none)) else (none)) else (table_Lookup.j4 k x1 x243000 x243001 x243002 x243003 x243004 x243005 x243006 x243007 x243008 x243009 x243010 x250000 x250001 x250002 x250003 x250004 x250005 x250006 ([]:List Int))
def table_Lookup.j4 : Nat → Int → Int → List (S83) → List (S83) → List Int → Bool → Int → List Int → List (S86) → List Int → List (S83) → List (List Int) → Int → Int → Int → Int → Int → Int → Bool → List Int → Option (Int × Int × Int × Int × Int × Int × Bool × List Int × Int)
 | 0,_,_,_,_,_,_,_,_,_,_,_,_,_,_,_,_,_,_,_,_=>none
 | k+1,x1,x243000,x243001,x243002,x243003,x243004,x243005,x243006,x243007,x243008,x243009,x243010,x250000,x250001,x250002,x250003,x250004,x250005,x250006,x250007=>table_Lookup.l1 k x1 0 x243000 x243001 x243002 x243003 x243004 x243005 x243006 x243007 x243008 x243009 x243010 x250000 x250001 x250002 x250003 x250004 x250005 x250006 x250007
def table_Lookup.l1 : Nat → Int → Int → Int → List (S83) → List (S83) → List Int → Bool → Int → List Int → List (S86) → List Int → List (S83) → List (List Int) → Int → Int → Int → Int → Int → Int → Bool → List Int → Option (Int × Int × Int × Int × Int × Int × Bool × List Int × Int)
 | 0,_,_,_,_,_,_,_,_,_,_,_,_,_,_,_,_,_,_,_,_,_=>none
 | k+1,x1,x12,x243000,x243001,x243002,x243003,x243004,x243005,x243006,x243007,x243008,x243009,x243010,x250000,x250001,x250002,x250003,x250004,x250005,x250006,x250007=>(table_inChunk.f k x243000 x243001 x243002 x243003 x243004 x243005 x243006 x243007 x243008 x243009 x243010 x250005).bind fun t259=>(if (wrap64 (x12+t259))≤x1 then ((table_inChunk.f k x243000 x243001 x243002 x243003 x243004 x243005 x243006 x243007 x243008 x243009 x243010 x250005).bind fun t260=>(table_Lookup.l1 k x1 (wrap64 (x12+t260)) x243000 x243001 x243002 x243003 x243004 x243005 x243006 x243007 x243008 x243009 x243010 x250000 x250001 x250002 x250003 x250004 (wrap64 (x250005+1)) x250006 x250007)) else (if 0≤x250005 then (if x250005 < (x243008.length:Int) then (table_Lookup.l2 k x1 x12 x243000 x243001 x243002 x243003 x243004 x243005 x243006 x243007 x243008 x243009 x243010 x250000 x250001 x250002 x250003 (rd x243008 x250005) x250005 x250006 x250007) else (none)) else (none)))
def table_Lookup.l2 : Nat → Int → Int → Int → List (S83) → List (S83) → List Int → Bool → Int → List Int → List (S86) → List Int → List (S83) → List (List Int) → Int → Int → Int → Int → Int → Int → Bool → List Int → Option (Int × Int × Int × Int × Int × Int × Bool × List Int × Int)
 | 0,_,_,_,_,_,_,_,_,_,_,_,_,_,_,_,_,_,_,_,_,_=>none
 | k+1,x1,x13,x243000,x243001,x243002,x243003,x243004,x243005,x243006,x243007,x243008,x243009,x243010,x250000,x250001,x250002,x250003,x250004,x250005,x250006,x250007=>if x13 < x1 then ((table_size.f x243000 x243001 x243002 x243003 x243004 x243005 x243006 x243007 x243008 x243009 x243010 x13).bind fun t262=>(table_Lookup.l2 k x1 (wrap64 (x13+1)) x243000 x243001 x243002 x243003 x243004 x243005 x243006 x243007 x243008 x243009 x243010 x250000 x250001 x250002 x250003 (wrap64 (x250004+t262)) x250005 x250006 x250007)) else (some (x250000,x250001,x250002,x250003,x250004,x250005,x250006,x250007,0))
def table_Lookup.l0 : Nat → Int → List Int → Int → Int → Int → List (S83) → List (S83) → List Int → Bool → Int → List Int → List (S86) → List Int → List (S83) → List (List Int) → Int → Int → Int → Int → Int → Int → Bool → List Int → Option (Int × Int × Int × Int × Int × Int × Bool × List Int × Int)
 | 0,_,_,_,_,_,_,_,_,_,_,_,_,_,_,_,_,_,_,_,_,_,_,_=>none
 | k+1,x1,x81,x82,x83,x243000,x243001,x243002,x243003,x243004,x243005,x243006,x243007,x243008,x243009,x243010,x250000,x250001,x250002,x250003,x250004,x250005,x250006,x250007=>if x83 < x82 then (if 0≤x83 then (if x83 < (x81.length:Int) then (if x250007.length < 17592186044416 then (table_Lookup.l0 k x1 x81 x82 (wrap64 (x83+1)) x243000 x243001 x243002 x243003 x243004 x243005 x243006 x243007 x243008 x243009 x243010 x250000 x250001 x250002 x250003 x250004 x250005 x250006 (x250007 ++ [wrap64 (x1 - (rd x81 x83))])) else (none)) else (none)) else (none)) else (table_Lookup.j4 k x1 x243000 x243001 x243002 x243003 x243004 x243005 x243006 x243007 x243008 x243009 x243010 x250000 x250001 x250002 x250003 x250004 x250005 x250006 x250007)
end
def table_Lookup.f (k : Nat) (a0_0 : Int) (l0_1 : List (S83)) (l0_2 : List (S83)) (l0_3 : List Int) (a0_4 : Bool) (a0_5 : Int) (l0_6 : List Int) (l0_7 : List (S86)) (l0_8 : List Int) (l0_9 : List (S83)) (l0_10 : List (List Int)) (a1 : Int) : Option (Int × Int × Int × Int × Int × Int × Bool × List Int × Int) := (table_Check.f a0_0 l0_1 l0_2 l0_3 a0_4 a0_5 l0_6 l0_7 l0_8 l0_9 l0_10).bind fun t244 => (if t244 = 0 then (if a1 < 0 then (table_Lookup.j0 k a1 true a0_0 l0_1 l0_2 l0_3 a0_4 a0_5 l0_6 l0_7 l0_8 l0_9 l0_10) else ((table_Count.f k a0_0 l0_1 l0_2 l0_3 a0_4 a0_5 l0_6 l0_7 l0_8 l0_9 l0_10).bind fun t245 => (table_Lookup.j0 k a1 (decide (a1 ≥ t245)) a0_0 l0_1 l0_2 l0_3 a0_4 a0_5 l0_6 l0_7 l0_8 l0_9 l0_10))) else (some (0, 0, 0, 0, 0, 0, false, ([] : List Int), t244)))
theorem table_Lookup.mono_l:∀ k,(∀ y0 y1 y2 y3 y4 y5 y6 y7 y8 y9 y10 y11 y12,LeO (table_Lookup.j0 k y0 y1 y2 y3 y4 y5 y6 y7 y8 y9 y10 y11 y12) (table_Lookup.j0 (k+1) y0 y1 y2 y3 y4 y5 y6 y7 y8 y9 y10 y11 y12))∧(∀ y0 y1 y2 y3 y4 y5 y6 y7 y8 y9 y10 y11 y12 y13 y14 y15 y16 y17 y18,LeO (table_Lookup.j1 k y0 y1 y2 y3 y4 y5 y6 y7 y8 y9 y10 y11 y12 y13 y14 y15 y16 y17 y18) (table_Lookup.j1 (k+1) y0 y1 y2 y3 y4 y5 y6 y7 y8 y9 y10 y11 y12 y13 y14 y15 y16 y17 y18))∧(∀ y0 y1 y2 y3 y4 y5 y6 y7 y8 y9 y10 y11 y12 y13 y14 y15 y16 y17 y18,LeO (table_Lookup.j2 k y0 y1 y2 y3 y4 y5 y6 y7 y8 y9 y10 y11 y12 y13 y14 y15 y16 y17 y18) (table_Lookup.j2 (k+1) y0 y1 y2 y3 y4 y5 y6 y7 y8 y9 y10 y11 y12 y13 y14 y15 y16 y17 y18))∧(∀ y0 y1 y2 y3 y4 y5 y6 y7 y8 y9 y10 y11 y12 y13 y14 y15 y16 y17 y18 y19,LeO (table_Lookup.j4 k y0 y1 y2 y3 y4 y5 y6 y7 y8 y9 y10 y11 y12 y13 y14 y15 y16 y17 y18 y19) (table_Lookup.j4 (k+1) y0 y1 y2 y3 y4 y5 y6 y7 y8 y9 y10 y11 y12 y13 y14 y15 y16 y17 y18 y19))∧(∀ y0 y1 y2 y3 y4 y5 y6 y7 y8 y9 y10 y11 y12 y13 y14 y15 y16 y17 y18 y19 y20,LeO (table_Lookup.l1 k y0 y1 y2 y3 y4 y5 y6 y7 y8 y9 y10 y11 y12 y13 y14 y15 y16 y17 y18 y19 y20) (table_Lookup.l1 (k+1) y0 y1 y2 y3 y4 y5 y6 y7 y8 y9 y10 y11 y12 y13 y14 y15 y16 y17 y18 y19 y20))∧(∀ y0 y1 y2 y3 y4 y5 y6 y7 y8 y9 y10 y11 y12 y13 y14 y15 y16 y17 y18 y19 y20,LeO (table_Lookup.l2 k y0 y1 y2 y3 y4 y5 y6 y7 y8 y9 y10 y11 y12 y13 y14 y15 y16 y17 y18 y19 y20) (table_Lookup.l2 (k+1) y0 y1 y2 y3 y4 y5 y6 y7 y8 y9 y10 y11 y12 y13 y14 y15 y16 y17 y18 y19 y20))∧(∀ y0 y1 y2 y3 y4 y5 y6 y7 y8 y9 y10 y11 y12 y13 y14 y15 y16 y17 y18 y19 y20 y21 y22,LeO (table_Lookup.l0 k y0 y1 y2 y3 y4 y5 y6 y7 y8 y9 y10 y11 y12 y13 y14 y15 y16 y17 y18 y19 y20 y21 y22) (table_Lookup.l0 (k+1) y0 y1 y2 y3 y4 y5 y6 y7 y8 y9 y10 y11 y12 y13 y14 y15 y16 y17 y18 y19 y20 y21 y22))
 | 0=>⟨fun _ _ _ _ _ _ _ _ _ _ _ _ _ r h=>by simp [table_Lookup.j0] at h,fun _ _ _ _ _ _ _ _ _ _ _ _ _ _ _ _ _ _ _ r h=>by simp [table_Lookup.j1] at h,fun _ _ _ _ _ _ _ _ _ _ _ _ _ _ _ _ _ _ _ r h=>by simp [table_Lookup.j2] at h,fun _ _ _ _ _ _ _ _ _ _ _ _ _ _ _ _ _ _ _ _ r h=>by simp [table_Lookup.j4] at h,fun _ _ _ _ _ _ _ _ _ _ _ _ _ _ _ _ _ _ _ _ _ r h=>by simp [table_Lookup.l1] at h,fun _ _ _ _ _ _ _ _ _ _ _ _ _ _ _ _ _ _ _ _ _ r h=>by simp [table_Lookup.l2] at h,fun _ _ _ _ _ _ _ _ _ _ _ _ _ _ _ _ _ _ _ _ _ _ _ r h=>by simp [table_Lookup.l0] at h⟩
 | k+1=>by
  obtain ⟨ih0,ih1,ih2,ih3,ih4,ih5,ih6⟩:=table_Lookup.mono_l k
  refine ⟨?_,?_,?_,?_,?_,?_,?_⟩
  · intro y0 y1 y2 y3 y4 y5 y6 y7 y8 y9 y10 y11 y12
    unfold table_Lookup.j0
    repeat' first
    | (with_reducible exact ih0 _ _ _ _ _ _ _ _ _ _ _ _ _)
    | (with_reducible exact ih1 _ _ _ _ _ _ _ _ _ _ _ _ _ _ _ _ _ _ _)
    | (with_reducible exact ih2 _ _ _ _ _ _ _ _ _ _ _ _ _ _ _ _ _ _ _)
    | (with_reducible exact ih3 _ _ _ _ _ _ _ _ _ _ _ _ _ _ _ _ _ _ _ _)
    | (with_reducible exact ih4 _ _ _ _ _ _ _ _ _ _ _ _ _ _ _ _ _ _ _ _ _)
    | (with_reducible exact ih5 _ _ _ _ _ _ _ _ _ _ _ _ _ _ _ _ _ _ _ _ _)
    | (with_reducible exact ih6 _ _ _ _ _ _ _ _ _ _ _ _ _ _ _ _ _ _ _ _ _ _ _)
    | (with_reducible exact slices_BinarySearch_int_int.mono _ _ _)
    | (with_reducible exact table_Count.mono _ _ _ _ _ _ _ _ _ _ _ _)
    | (with_reducible exact table_before.mono _ _ _)
    | (with_reducible exact table_inChunk.mono _ _ _ _ _ _ _ _ _ _ _ _ _)
    | (with_reducible exact table_value.mono _ _ _)
    | (with_reducible exact LeO.refl _)
    | (with_reducible exact LeO.none _)
    | (with_reducible refine LeO.ite ?_ ?_)
    | (with_reducible refine LeO.bind ?_ (fun _=>?_))
    | exact LeO.none _
    | refine LeO.ite ?_ ?_
    | refine LeO.bind ?_ (fun _=>?_)
  · intro y0 y1 y2 y3 y4 y5 y6 y7 y8 y9 y10 y11 y12 y13 y14 y15 y16 y17 y18
    unfold table_Lookup.j1
    repeat' first
    | (with_reducible exact ih0 _ _ _ _ _ _ _ _ _ _ _ _ _)
    | (with_reducible exact ih1 _ _ _ _ _ _ _ _ _ _ _ _ _ _ _ _ _ _ _)
    | (with_reducible exact ih2 _ _ _ _ _ _ _ _ _ _ _ _ _ _ _ _ _ _ _)
    | (with_reducible exact ih3 _ _ _ _ _ _ _ _ _ _ _ _ _ _ _ _ _ _ _ _)
    | (with_reducible exact ih4 _ _ _ _ _ _ _ _ _ _ _ _ _ _ _ _ _ _ _ _ _)
    | (with_reducible exact ih5 _ _ _ _ _ _ _ _ _ _ _ _ _ _ _ _ _ _ _ _ _)
    | (with_reducible exact ih6 _ _ _ _ _ _ _ _ _ _ _ _ _ _ _ _ _ _ _ _ _ _ _)
    | (with_reducible exact slices_BinarySearch_int_int.mono _ _ _)
    | (with_reducible exact table_Count.mono _ _ _ _ _ _ _ _ _ _ _ _)
    | (with_reducible exact table_before.mono _ _ _)
    | (with_reducible exact table_inChunk.mono _ _ _ _ _ _ _ _ _ _ _ _ _)
    | (with_reducible exact table_value.mono _ _ _)
    | (with_reducible exact LeO.refl _)
    | (with_reducible exact LeO.none _)
    | (with_reducible refine LeO.ite ?_ ?_)
    | (with_reducible refine LeO.bind ?_ (fun _=>?_))
    | exact LeO.none _
    | refine LeO.ite ?_ ?_
    | refine LeO.bind ?_ (fun _=>?_)
  · intro y0 y1 y2 y3 y4 y5 y6 y7 y8 y9 y10 y11 y12 y13 y14 y15 y16 y17 y18
    unfold table_Lookup.j2
    repeat' first
    | (with_reducible exact ih0 _ _ _ _ _ _ _ _ _ _ _ _ _)
    | (with_reducible exact ih1 _ _ _ _ _ _ _ _ _ _ _ _ _ _ _ _ _ _ _)
    | (with_reducible exact ih2 _ _ _ _ _ _ _ _ _ _ _ _ _ _ _ _ _ _ _)
    | (with_reducible exact ih3 _ _ _ _ _ _ _ _ _ _ _ _ _ _ _ _ _ _ _ _)
    | (with_reducible exact ih4 _ _ _ _ _ _ _ _ _ _ _ _ _ _ _ _ _ _ _ _ _)
    | (with_reducible exact ih5 _ _ _ _ _ _ _ _ _ _ _ _ _ _ _ _ _ _ _ _ _)
    | (with_reducible exact ih6 _ _ _ _ _ _ _ _ _ _ _ _ _ _ _ _ _ _ _ _ _ _ _)
    | (with_reducible exact slices_BinarySearch_int_int.mono _ _ _)
    | (with_reducible exact table_Count.mono _ _ _ _ _ _ _ _ _ _ _ _)
    | (with_reducible exact table_before.mono _ _ _)
    | (with_reducible exact table_inChunk.mono _ _ _ _ _ _ _ _ _ _ _ _ _)
    | (with_reducible exact table_value.mono _ _ _)
    | (with_reducible exact LeO.refl _)
    | (with_reducible exact LeO.none _)
    | (with_reducible refine LeO.ite ?_ ?_)
    | (with_reducible refine LeO.bind ?_ (fun _=>?_))
    | exact LeO.none _
    | refine LeO.ite ?_ ?_
    | refine LeO.bind ?_ (fun _=>?_)
  · intro y0 y1 y2 y3 y4 y5 y6 y7 y8 y9 y10 y11 y12 y13 y14 y15 y16 y17 y18 y19
    unfold table_Lookup.j4
    repeat' first
    | (with_reducible exact ih0 _ _ _ _ _ _ _ _ _ _ _ _ _)
    | (with_reducible exact ih1 _ _ _ _ _ _ _ _ _ _ _ _ _ _ _ _ _ _ _)
    | (with_reducible exact ih2 _ _ _ _ _ _ _ _ _ _ _ _ _ _ _ _ _ _ _)
    | (with_reducible exact ih3 _ _ _ _ _ _ _ _ _ _ _ _ _ _ _ _ _ _ _ _)
    | (with_reducible exact ih4 _ _ _ _ _ _ _ _ _ _ _ _ _ _ _ _ _ _ _ _ _)
    | (with_reducible exact ih5 _ _ _ _ _ _ _ _ _ _ _ _ _ _ _ _ _ _ _ _ _)
    | (with_reducible exact ih6 _ _ _ _ _ _ _ _ _ _ _ _ _ _ _ _ _ _ _ _ _ _ _)
    | (with_reducible exact slices_BinarySearch_int_int.mono _ _ _)
    | (with_reducible exact table_Count.mono _ _ _ _ _ _ _ _ _ _ _ _)
    | (with_reducible exact table_before.mono _ _ _)
    | (with_reducible exact table_inChunk.mono _ _ _ _ _ _ _ _ _ _ _ _ _)
    | (with_reducible exact table_value.mono _ _ _)
    | (with_reducible exact LeO.refl _)
    | (with_reducible exact LeO.none _)
    | (with_reducible refine LeO.ite ?_ ?_)
    | (with_reducible refine LeO.bind ?_ (fun _=>?_))
    | exact LeO.none _
    | refine LeO.ite ?_ ?_
    | refine LeO.bind ?_ (fun _=>?_)
  · intro y0 y1 y2 y3 y4 y5 y6 y7 y8 y9 y10 y11 y12 y13 y14 y15 y16 y17 y18 y19 y20
    unfold table_Lookup.l1
    repeat' first
    | (with_reducible exact ih0 _ _ _ _ _ _ _ _ _ _ _ _ _)
    | (with_reducible exact ih1 _ _ _ _ _ _ _ _ _ _ _ _ _ _ _ _ _ _ _)
    | (with_reducible exact ih2 _ _ _ _ _ _ _ _ _ _ _ _ _ _ _ _ _ _ _)
    | (with_reducible exact ih3 _ _ _ _ _ _ _ _ _ _ _ _ _ _ _ _ _ _ _ _)
    | (with_reducible exact ih4 _ _ _ _ _ _ _ _ _ _ _ _ _ _ _ _ _ _ _ _ _)
    | (with_reducible exact ih5 _ _ _ _ _ _ _ _ _ _ _ _ _ _ _ _ _ _ _ _ _)
    | (with_reducible exact ih6 _ _ _ _ _ _ _ _ _ _ _ _ _ _ _ _ _ _ _ _ _ _ _)
    | (with_reducible exact slices_BinarySearch_int_int.mono _ _ _)
    | (with_reducible exact table_Count.mono _ _ _ _ _ _ _ _ _ _ _ _)
    | (with_reducible exact table_before.mono _ _ _)
    | (with_reducible exact table_inChunk.mono _ _ _ _ _ _ _ _ _ _ _ _ _)
    | (with_reducible exact table_value.mono _ _ _)
    | (with_reducible exact LeO.refl _)
    | (with_reducible exact LeO.none _)
    | (with_reducible refine LeO.ite ?_ ?_)
    | (with_reducible refine LeO.bind ?_ (fun _=>?_))
    | exact LeO.none _
    | refine LeO.ite ?_ ?_
    | refine LeO.bind ?_ (fun _=>?_)
  · intro y0 y1 y2 y3 y4 y5 y6 y7 y8 y9 y10 y11 y12 y13 y14 y15 y16 y17 y18 y19 y20
    unfold table_Lookup.l2
    repeat' first
    | (with_reducible exact ih0 _ _ _ _ _ _ _ _ _ _ _ _ _)
    | (with_reducible exact ih1 _ _ _ _ _ _ _ _ _ _ _ _ _ _ _ _ _ _ _)
    | (with_reducible exact ih2 _ _ _ _ _ _ _ _ _ _ _ _ _ _ _ _ _ _ _)
    | (with_reducible exact ih3 _ _ _ _ _ _ _ _ _ _ _ _ _ _ _ _ _ _ _ _)
    | (with_reducible exact ih4 _ _ _ _ _ _ _ _ _ _ _ _ _ _ _ _ _ _ _ _ _)
    | (with_reducible exact ih5 _ _ _ _ _ _ _ _ _ _ _ _ _ _ _ _ _ _ _ _ _)
    | (with_reducible exact ih6 _ _ _ _ _ _ _ _ _ _ _ _ _ _ _ _ _ _ _ _ _ _ _)
    | (with_reducible exact slices_BinarySearch_int_int.mono _ _ _)
    | (with_reducible exact table_Count.mono _ _ _ _ _ _ _ _ _ _ _ _)
    | (with_reducible exact table_before.mono _ _ _)
    | (with_reducible exact table_inChunk.mono _ _ _ _ _ _ _ _ _ _ _ _ _)
    | (with_reducible exact table_value.mono _ _ _)
    | (with_reducible exact LeO.refl _)
    | (with_reducible exact LeO.none _)
    | (with_reducible refine LeO.ite ?_ ?_)
    | (with_reducible refine LeO.bind ?_ (fun _=>?_))
    | exact LeO.none _
    | refine LeO.ite ?_ ?_
    | refine LeO.bind ?_ (fun _=>?_)
  intro y0 y1 y2 y3 y4 y5 y6 y7 y8 y9 y10 y11 y12 y13 y14 y15 y16 y17 y18 y19 y20 y21 y22
  unfold table_Lookup.l0
  repeat' first
  | (with_reducible exact ih0 _ _ _ _ _ _ _ _ _ _ _ _ _)
  | (with_reducible exact ih1 _ _ _ _ _ _ _ _ _ _ _ _ _ _ _ _ _ _ _)
  | (with_reducible exact ih2 _ _ _ _ _ _ _ _ _ _ _ _ _ _ _ _ _ _ _)
  | (with_reducible exact ih3 _ _ _ _ _ _ _ _ _ _ _ _ _ _ _ _ _ _ _ _)
  | (with_reducible exact ih4 _ _ _ _ _ _ _ _ _ _ _ _ _ _ _ _ _ _ _ _ _)
  | (with_reducible exact ih5 _ _ _ _ _ _ _ _ _ _ _ _ _ _ _ _ _ _ _ _ _)
  | (with_reducible exact ih6 _ _ _ _ _ _ _ _ _ _ _ _ _ _ _ _ _ _ _ _ _ _ _)
  | (with_reducible exact slices_BinarySearch_int_int.mono _ _ _)
  | (with_reducible exact table_Count.mono _ _ _ _ _ _ _ _ _ _ _ _)
  | (with_reducible exact table_before.mono _ _ _)
  | (with_reducible exact table_inChunk.mono _ _ _ _ _ _ _ _ _ _ _ _ _)
  | (with_reducible exact table_value.mono _ _ _)
  | (with_reducible exact LeO.refl _)
  | (with_reducible exact LeO.none _)
  | (with_reducible refine LeO.ite ?_ ?_)
  | (with_reducible refine LeO.bind ?_ (fun _=>?_))
  | exact LeO.none _
  | refine LeO.ite ?_ ?_
  | refine LeO.bind ?_ (fun _=>?_)
theorem table_Lookup.mono:∀ a0 a1 a2 a3 a4 a5 a6 a7 a8 a9 a10 a11 k,LeO (table_Lookup.f k a0 a1 a2 a3 a4 a5 a6 a7 a8 a9 a10 a11) (table_Lookup.f (k+1) a0 a1 a2 a3 a4 a5 a6 a7 a8 a9 a10 a11):=by
 intro a0 a1 a2 a3 a4 a5 a6 a7 a8 a9 a10 a11 k
 obtain ⟨ih0,ih1,ih2,ih3,ih4,ih5,ih6⟩:=table_Lookup.mono_l k
 unfold table_Lookup.f
 repeat' first
  | (with_reducible exact ih0 _ _ _ _ _ _ _ _ _ _ _ _ _)
  | (with_reducible exact ih1 _ _ _ _ _ _ _ _ _ _ _ _ _ _ _ _ _ _ _)
  | (with_reducible exact ih2 _ _ _ _ _ _ _ _ _ _ _ _ _ _ _ _ _ _ _)
  | (with_reducible exact ih3 _ _ _ _ _ _ _ _ _ _ _ _ _ _ _ _ _ _ _ _)
  | (with_reducible exact ih4 _ _ _ _ _ _ _ _ _ _ _ _ _ _ _ _ _ _ _ _ _)
  | (with_reducible exact ih5 _ _ _ _ _ _ _ _ _ _ _ _ _ _ _ _ _ _ _ _ _)
  | (with_reducible exact ih6 _ _ _ _ _ _ _ _ _ _ _ _ _ _ _ _ _ _ _ _ _ _ _)
  | (with_reducible exact slices_BinarySearch_int_int.mono _ _ _)
  | (with_reducible exact table_Count.mono _ _ _ _ _ _ _ _ _ _ _ _)
  | (with_reducible exact table_before.mono _ _ _)
  | (with_reducible exact table_inChunk.mono _ _ _ _ _ _ _ _ _ _ _ _ _)
  | (with_reducible exact table_value.mono _ _ _)
  | (with_reducible exact LeO.refl _)
  | (with_reducible exact LeO.none _)
  | (with_reducible refine LeO.ite ?_ ?_)
  | (with_reducible refine LeO.bind ?_ (fun _=>?_))
  | exact LeO.none _
  | refine LeO.ite ?_ ?_
  | refine LeO.bind ?_ (fun _=>?_)
def table_Lookup.T6 : Bool × List (List Nat × List Nat) := (true, [([], []), ([0], [0]), ([], []), ([2], [2]), ([], []), ([3, 4], [3, 4]), ([1, 5], [1, 5]), ([], []), ([7], [7]), ([], []), ([8, 9, 5], [8, 9]), ([], []), ([], []), ([11, 12, 10], [11, 12]), ([], []), ([14], [14]), ([6, 10, 13, 15], [6, 10, 13, 15]), ([], []), ([17, 16, 13, 0, 1, 2, 3, 4, 5, 6, 7, 8, 9, 10, 11, 12, 13, 14, 15, 16, 17], [16, 17])])
def table_Lookup.B6 : List Nat := [0, 1, 0, 4, 0, 28, 63, 0, 128, 0, 956, 0, 0, 8124, 0, 16384, 65535, 0, 262143]
theorem table_Lookup.tab6:rtab .any (opsOf Try.f28 6)=table_Lookup.T6:=by kernel_rfl
theorem table_Lookup.bits6:waitsOk table_Lookup.T6.2 table_Lookup.B6=true:=by kernel_rfl
def table_Lookup.T7 : Bool × List (List Nat × List Nat) := (true, [([], []), ([0], [0]), ([], []), ([2], [2]), ([], []), ([3, 4], [3, 4]), ([1, 5], [1, 5]), ([0, 1, 2, 3, 4, 5, 6], []), ([7, 6, 5, 0, 1, 2, 3, 4, 5, 6], [6, 7])])
def table_Lookup.B7 : List Nat := [0, 1, 0, 4, 0, 28, 63, 127, 255]
theorem table_Lookup.tab7:rtab .any (opsOf Try.f28 7)=table_Lookup.T7:=by kernel_rfl
theorem table_Lookup.bits7:waitsOk table_Lookup.T7.2 table_Lookup.B7=true:=by kernel_rfl
def table_Lookup.T27 : Bool × List (List Nat × List Nat) := (true, [([], []), ([0], [0]), ([], []), ([], []), ([2, 3], [2, 3]), ([1, 4], [1, 4]), ([0, 1, 2, 3, 4, 5], []), ([6, 5, 4, 0, 1, 2, 3, 4, 5], [5, 6])])
def table_Lookup.B27 : List Nat := [0, 1, 0, 0, 12, 31, 63, 127]
theorem table_Lookup.tab27:rtab .any (opsOf Try.f28 27)=table_Lookup.T27:=by kernel_rfl
theorem table_Lookup.bits27:waitsOk table_Lookup.T27.2 table_Lookup.B27=true:=by kernel_rfl
set_option maxHeartbeats 8000000 in
set_option maxRecDepth 100000 in
theorem table_Lookup.calls (k:Nat) (a0_0:Int) (A0_1:Option Addr) (c0_1:Nat) (l0_1:List (S83)) (A0_2:Option Addr) (c0_2:Nat) (l0_2:List (S83)) (A0_3:Option Addr) (c0_3:Nat) (l0_3:List Int) (a0_4:Bool) (a0_5:Int) (A0_6:Option Addr) (c0_6:Nat) (l0_6:List Int) (A0_7:Option Addr) (c0_7:Nat) (l0_7:List (S86)) (A0_8:Option Addr) (c0_8:Nat) (l0_8:List Int) (A0_9:Option Addr) (c0_9:Nat) (l0_9:List (S83)) (A0_10:Option Addr) (c0_10:Nat) (l0_10:List (List Int)) (a1:Int) (r1:Int) (r2:Int) (r3:Int) (r4:Int) (r5:Int) (r6:Int) (r7:Bool) (r8:List Int) (r9:Int) (w:World) (hr0_1:Kd.C k83 w A0_1 l0_1.length l0_1) (hc0_1:l0_1.length≤c0_1) (hr0_2:Kd.C k83 w A0_2 l0_2.length l0_2) (hc0_2:l0_2.length≤c0_2) (hr0_3:Kd.C (Kd.int .i64) w A0_3 l0_3.length l0_3) (hc0_3:l0_3.length≤c0_3) (hr0_6:Kd.C (Kd.int .i64) w A0_6 l0_6.length l0_6) (hc0_6:l0_6.length≤c0_6) (hr0_7:Kd.C k86 w A0_7 l0_7.length l0_7) (hc0_7:l0_7.length≤c0_7) (hr0_8:Kd.C (Kd.int .i64) w A0_8 l0_8.length l0_8) (hc0_8:l0_8.length≤c0_8) (hr0_9:Kd.C k83 w A0_9 l0_9.length l0_9) (hc0_9:l0_9.length≤c0_9) (hr0_10:Kd.C (Kd.slice 3 (Kd.int .i64)) w A0_10 l0_10.length l0_10) (hc0_10:l0_10.length≤c0_10) (h:table_Lookup.f k a0_0 l0_1 l0_2 l0_3 a0_4 a0_5 l0_6 l0_7 l0_8 l0_9 l0_10 a1=some (r1,r2,r3,r4,r5,r6,r7,r8,r9)) :
 Calls Try.prog 28 #[.agg #[.int .i64 a0_0,.slice A0_1 l0_1.length c0_1,.slice A0_2 l0_2.length c0_2,.slice A0_3 l0_3.length c0_3,.bool a0_4,.int .i64 a0_5,.slice A0_6 l0_6.length c0_6,.slice A0_7 l0_7.length c0_7,.slice A0_8 l0_8.length c0_8,.slice A0_9 l0_9.length c0_9,.slice A0_10 l0_10.length c0_10],.int .i64 a1] w fun e w'=>∃ v7_:Value,e=.returned (.tuple #[.agg #[.int .i64 r1,.int .i64 r2,.int .i64 r3,.int .i64 r4,.int .i64 r5,.int .i64 r6,.bool r7,v7_],.int .i64 r9])∧Kd.R (Kd.int .i64) 3 w' w.heap.size (fun _=>True) v7_ r8∧Below w.heap.size w w':=by
 have hu27:=Try.underlying27
 have hu48:=Try.underlying48
 have HR0_1:=Aside0.mk hr0_1
 have HC0_1:=Aside0.mk hc0_1;clear hr0_1 hc0_1
 have HR0_2:=Aside0.mk hr0_2
 have HC0_2:=Aside0.mk hc0_2;clear hr0_2 hc0_2
 have HR0_3:=Aside0.mk hr0_3
 have HC0_3:=Aside0.mk hc0_3;clear hr0_3 hc0_3
 have HR0_6:=Aside0.mk hr0_6
 have HC0_6:=Aside0.mk hc0_6;clear hr0_6 hc0_6
 have HR0_7:=Aside0.mk hr0_7
 have HC0_7:=Aside0.mk hc0_7;clear hr0_7 hc0_7
 have HR0_8:=Aside0.mk hr0_8
 have HC0_8:=Aside0.mk hc0_8;clear hr0_8 hc0_8
 have HR0_9:=Aside0.mk hr0_9
 have HC0_9:=Aside0.mk hc0_9;clear hr0_9 hc0_9
 have HR0_10:=Aside0.mk hr0_10
 have HC0_10:=Aside0.mk hc0_10;clear hr0_10 hc0_10;have HB:=Aside0.mk (Below.refl w.heap.size w)
 have H:((table_Check.f a0_0 l0_1 l0_2 l0_3 a0_4 a0_5 l0_6 l0_7 l0_8 l0_9 l0_10).bind fun t244=>(if t244=0 then (if a1 < 0 then (table_Lookup.j0 k a1 true a0_0 l0_1 l0_2 l0_3 a0_4 a0_5 l0_6 l0_7 l0_8 l0_9 l0_10) else ((table_Count.f k a0_0 l0_1 l0_2 l0_3 a0_4 a0_5 l0_6 l0_7 l0_8 l0_9 l0_10).bind fun t245=>(table_Lookup.j0 k a1 (decide (a1≥t245)) a0_0 l0_1 l0_2 l0_3 a0_4 a0_5 l0_6 l0_7 l0_8 l0_9 l0_10))) else (some (0,0,0,0,0,0,false,([]:List Int),t244))))=some (r1,r2,r3,r4,r5,r6,r7,r8,r9):=h
 clear h
 replace H:=Option.bind_eq_some_iff.mp H
 obtain ⟨t244,A30,H⟩:=H
 replace H:(if t244=0 then (if a1 < 0 then (table_Lookup.j0 k a1 true a0_0 l0_1 l0_2 l0_3 a0_4 a0_5 l0_6 l0_7 l0_8 l0_9 l0_10) else ((table_Count.f k a0_0 l0_1 l0_2 l0_3 a0_4 a0_5 l0_6 l0_7 l0_8 l0_9 l0_10).bind fun t245=>(table_Lookup.j0 k a1 (decide (a1≥t245)) a0_0 l0_1 l0_2 l0_3 a0_4 a0_5 l0_6 l0_7 l0_8 l0_9 l0_10))) else (some (0,0,0,0,0,0,false,([]:List Int),t244)))=some (r1,r2,r3,r4,r5,r6,r7,r8,r9):=H
 have A3:=Aside0.mk A30;clear A30
 by_cases c4:t244=0
 · rw [if_pos c4] at H
   have c4b0:(t244 == 0)=true:=beq_iff_eq.mpr c4
   have c4b1:(t244 != 0)=false:=bne_eq_false_iff_eq.mpr c4;clear c4
   have HC5:=Aside0.mk H;clear H
   go_enter Try.func28,Try.ntmps28
   go_upto_region 4 with (first|((with_reducible refine gate_dst (N:=2) rfl ?_);refine box_event ?hg (N:=2) ?hd (cs:=#[.int .i64 a0_0,.slice A0_1 l0_1.length c0_1,.slice A0_2 l0_2.length c0_2,.slice A0_3 l0_3.length c0_3,.bool a0_4,.int .i64 a0_5,.slice A0_6 l0_6.length c0_6,.slice A0_7 l0_7.length c0_7,.slice A0_8 l0_8.length c0_8,.slice A0_9 l0_9.length c0_9,.slice A0_10 l0_10.length c0_10]) (t:=27) ?hr ?_;(case hd=>rfl);(case hg=>rfl);(case hr=>first|(go_simp;done)|(go_simp;rfl));intro gb242 hg w6 hbox hb;have n0_:=Aside0.mk (below_step (belV HB.out) hb);have n1_:=Aside0.mk (hbox);have n2_:=Aside0.mk ((by rw [hg];exact (below_size (belV HB.out)):w.heap.size≤gb242));have n3_:=Aside0.mk ((by rw [hg];exact (below_size (belV HB.out)):w.heap.size≤gb242));clear HB;have HB:=n0_;have BK242:=n1_;have GW242:=n2_;have GE242:=n3_;clear n0_ n1_ n2_ n3_;clear hb hbox hg)|((with_reducible refine gate_dst (N:=4) rfl ?_);refine box_event ?hg (N:=4) ?hd (cs:=#[.int .i64 0,.int .i64 0,.int .i64 0,.int .i64 0,.int .i64 0,.int .i64 0,.bool false,.slice none 0 0]) (t:=48) ?hr ?_;(case hd=>rfl);(case hg=>rfl);(case hr=>first|(go_simp;done)|(go_simp;rfl));intro gb243 hg w7 hbox hb;have n0_:=Aside0.mk (blk_below (g:=gb242) (blkV BK242.out) hb);have n1_:=Aside0.mk (below_step (belV1 HB.out GE242.out) hb);have n2_:=Aside0.mk (hbox);have n3_:=Aside0.mk ((by rw [hg];exact (below_size (belV1 HB.out GE242.out)):w.heap.size≤gb243));have n4_:=Aside0.mk ((by rw [hg];exact (below_size (belV1 HB.out GE242.out)):w.heap.size≤gb243));have n5_:=Aside0.mk ((by rw [hg];exact Nat.ne_of_lt (blk_lt (g:=gb242) (blkV BK242.out)):gb242≠gb243));have n6_:=Aside0.mk ((by rw [hg];exact Nat.ne_of_gt (blk_lt (g:=gb242) (blkV BK242.out)):gb243≠gb242));clear BK242;clear HB;have BK242:=n0_;have HB:=n1_;have BK243:=n2_;have GW243:=n3_;have GE243:=n4_;have NB242_243:=n5_;have NB243_242:=n6_;clear n0_ n1_ n2_ n3_ n4_ n5_ n6_;clear hb hbox hg;have hnb8:=NB242_243.out;have hnc8:=NB243_242.out;obtain ⟨hcz9_0,hcz9_1,hcz9_2,hcz9_3,hcz9_4,hcz9_5,hcz9_6,hcz9_7,hcz9_8,hcz9_9,hcz9_10,hfz9_0,hfz9_1,hfz9_2,hfz9_3,hfz9_4,hfz9_5,hfz9_6,hfz9_7,hfz9_8,hfz9_9,hfz9_10⟩:=bcells11 BK242.out)|((with_reducible refine gate_callee (f:=12) rfl ?_);refine goesL_ (some 15) rfl rfl Try.func12 (by kernel_rfl) rfl #[.agg #[.int .i64 a0_0,.slice A0_1 l0_1.length c0_1,.slice A0_2 l0_2.length c0_2,.slice A0_3 l0_3.length c0_3,.bool a0_4,.int .i64 a0_5,.slice A0_6 l0_6.length c0_6,.slice A0_7 l0_7.length c0_7,.slice A0_8 l0_8.length c0_8,.slice A0_9 l0_9.length c0_9,.slice A0_10 l0_10.length c0_10]] rfl (by (try simp only [List.map_toArray,List.map_cons,List.map_nil]);first|done|rfl|(simp only [List.length_drop,List.length_take];rfl)) ?_;(with_reducible refine (table_Check.calls a0_0 _ _ l0_1 _ _ l0_2 _ _ l0_3 a0_4 a0_5 _ _ l0_6 _ _ l0_7 _ _ l0_8 _ _ l0_9 _ _ l0_10 t244 _ ?side1 ?side2 ?side3 ?side4 ?side5 ?side6 ?side7 ?side8 ?side9 ?side10 ?side11 ?side12 ?side13 ?side14 ?side15 ?side16 A3.out).mono ?_);(case side1=>exact cV (Kd.C_below HR0_1.out HB.out));(case side2=>exact HC0_1.out);(case side3=>exact cV (Kd.C_below HR0_2.out HB.out));(case side4=>exact HC0_2.out);(case side5=>exact cV (Kd.C_below HR0_3.out HB.out));(case side6=>exact HC0_3.out);(case side7=>exact cV (Kd.C_below HR0_6.out HB.out));(case side8=>exact HC0_6.out);(case side9=>exact cV (Kd.C_below HR0_7.out HB.out));(case side10=>exact HC0_7.out);(case side11=>exact cV (Kd.C_below HR0_8.out HB.out));(case side12=>exact HC0_8.out);(case side13=>exact cV (Kd.C_below HR0_9.out HB.out));(case side14=>exact HC0_9.out);(case side15=>exact cV (Kd.C_below HR0_10.out HB.out));(case side16=>exact HC0_10.out);rintro e w10 ⟨rfl,hb⟩;refine ⟨_,rfl,?_⟩;have n0_:=Aside0.mk (blk_below (g:=gb242) (blkV BK242.out) hb);have n1_:=Aside0.mk (blk_below (g:=gb243) (blkV BK243.out) hb);have n2_:=Aside0.mk (below_step (belV2 HB.out GE242.out GE243.out) hb);clear BK242;clear BK243;clear HB;have BK242:=n0_;have BK243:=n1_;have HB:=n2_;clear n0_ n1_ n2_;(try clear hb);(try clear hb2);(try clear hk);(try clear hi)))
   (try simp only [Act.put,List.setIfInBounds_toArray,List.set_cons_zero,List.set_cons_succ])
   go_cut [27] (fun v27 wc=>∃ (kq:Nat) (x27_4:Bool),v27=.bool x27_4∧Aside0 (table_Lookup.j0 kq a1 x27_4 a0_0 l0_1 l0_2 l0_3 a0_4 a0_5 l0_6 l0_7 l0_8 l0_9 l0_10=some (r1,r2,r3,r4,r5,r6,r7,r8,r9))∧Aside0 (kq≤k)∧Aside0 (wc.heap[gb242]?=some (.cells #[.int .i64 a0_0,(.slice A0_1 l0_1.length c0_1),(.slice A0_2 l0_2.length c0_2),(.slice A0_3 l0_3.length c0_3),.bool a0_4,.int .i64 a0_5,(.slice A0_6 l0_6.length c0_6),(.slice A0_7 l0_7.length c0_7),(.slice A0_8 l0_8.length c0_8),(.slice A0_9 l0_9.length c0_9),(.slice A0_10 l0_10.length c0_10)] 27 (0,0)))∧Aside0 (wc.heap[gb243]?=some (.cells #[.int .i64 0,.int .i64 0,.int .i64 0,.int .i64 0,.int .i64 0,.int .i64 0,.bool false,(.slice none 0 0)] 48 (0,0)))∧Aside0 (Below w.heap.size w wc))
   case first =>
    have H:=HC5.out;clear HC5
    by_cases c11:a1 < 0
    · rw [if_pos c11] at H
      have c11b0:decide (a1 < 0)=true:=decide_eq_true c11;clear c11
      (first|rw [c11b0]|(simp only [i64_w,i32_w];rw [c11b0])|rw [c11b1]|skip)
      have H':=Aside0.mk H;clear H
      go_wp2
      go_meet
      case rel=>exact ⟨_,(true),okV,H',⟨by first|omega|exact Nat.le_refl _⟩,⟨blkV BK242.out⟩,⟨blkV BK243.out⟩,⟨belV2 HB.out GE242.out GE243.out⟩⟩
    rw [if_neg c11] at H
    have c11b0:decide (a1 < 0)=false:=decide_eq_false c11;clear c11
    (first|rw [c11b0]|(simp only [i64_w,i32_w];rw [c11b0])|rw [c11b1]|skip)
    replace H:=Option.bind_eq_some_iff.mp H
    obtain ⟨t245,A120,H⟩:=H
    replace H:(table_Lookup.j0 k a1 (decide (a1≥t245)) a0_0 l0_1 l0_2 l0_3 a0_4 a0_5 l0_6 l0_7 l0_8 l0_9 l0_10)=some (r1,r2,r3,r4,r5,r6,r7,r8,r9):=H
    have A12:=Aside0.mk A120;clear A120
    have H':=Aside0.mk H;clear H
    have hnb13:=NB242_243.out
    have hnc13:=NB243_242.out
    obtain ⟨hcz14_0,hcz14_1,hcz14_2,hcz14_3,hcz14_4,hcz14_5,hcz14_6,hcz14_7,hcz14_8,hcz14_9,hcz14_10,hfz14_0,hfz14_1,hfz14_2,hfz14_3,hfz14_4,hfz14_5,hfz14_6,hfz14_7,hfz14_8,hfz14_9,hfz14_10⟩:=bcells11 BK242.out
    go_wp2_with (first|(go_at_call 14;(with_reducible refine (table_Count.calls k a0_0 _ _ l0_1 _ _ l0_2 _ _ l0_3 a0_4 a0_5 _ _ l0_6 _ _ l0_7 _ _ l0_8 _ _ l0_9 _ _ l0_10 t245 _ ?side1 ?side2 ?side3 ?side4 ?side5 ?side6 ?side7 ?side8 ?side9 ?side10 ?side11 ?side12 ?side13 ?side14 ?side15 ?side16 A12.out).mono ?_);(case side1=>exact cV (Kd.C_below HR0_1.out HB.out));(case side2=>exact HC0_1.out);(case side3=>exact cV (Kd.C_below HR0_2.out HB.out));(case side4=>exact HC0_2.out);(case side5=>exact cV (Kd.C_below HR0_3.out HB.out));(case side6=>exact HC0_3.out);(case side7=>exact cV (Kd.C_below HR0_6.out HB.out));(case side8=>exact HC0_6.out);(case side9=>exact cV (Kd.C_below HR0_7.out HB.out));(case side10=>exact HC0_7.out);(case side11=>exact cV (Kd.C_below HR0_8.out HB.out));(case side12=>exact HC0_8.out);(case side13=>exact cV (Kd.C_below HR0_9.out HB.out));(case side14=>exact HC0_9.out);(case side15=>exact cV (Kd.C_below HR0_10.out HB.out));(case side16=>exact HC0_10.out);rintro e w15 ⟨rfl,hb⟩;have n0_:=Aside0.mk (blk_below (g:=gb242) (blkV BK242.out) hb);have n1_:=Aside0.mk (blk_below (g:=gb243) (blkV BK243.out) hb);have n2_:=Aside0.mk (below_step (belV2 HB.out GE242.out GE243.out) hb);clear BK242;clear BK243;clear HB;have BK242:=n0_;have BK243:=n1_;have HB:=n2_;clear n0_ n1_ n2_;(try clear hb);(try clear hb2);(try clear hk);(try clear hi)))
    go_meet
    case rel=>exact ⟨_,(decide (a1≥t245)),okV,H',⟨by first|omega|exact Nat.le_refl _⟩,⟨blkV BK242.out⟩,⟨blkV BK243.out⟩,⟨belV2 HB.out GE242.out GE243.out⟩⟩
   case rest =>
    clear HC5
    try clear c1;try clear c2;try clear p2;try clear c4;try clear c4b0;try clear c4b1;try clear c8;try clear c11;try clear c11b0;try clear c11b1;try clear c12;try clear c13;try clear hcz14_0 hcz14_1 hcz14_10 hcz14_2 hcz14_3 hcz14_4 hcz14_5 hcz14_6 hcz14_7 hcz14_8 hcz14_9;try clear hcz9_0 hcz9_1 hcz9_10 hcz9_2 hcz9_3 hcz9_4 hcz9_5 hcz9_6 hcz9_7 hcz9_8 hcz9_9;try clear hfz14_0 hfz14_1 hfz14_10 hfz14_2 hfz14_3 hfz14_4 hfz14_5 hfz14_6 hfz14_7 hfz14_8 hfz14_9;try clear hfz9_0 hfz9_1 hfz9_10 hfz9_2 hfz9_3 hfz9_4 hfz9_5 hfz9_6 hfz9_7 hfz9_8 hfz9_9
    obtain ⟨kq,x27_4,rfl,HA,HJ4,BK242,BK243,HB⟩:=hcut
    cases kq with
    | zero=>exact absurd HA.out (by simp [table_Lookup.j0])
    | succ kj4 =>
     have H:=HA.out;clear HA
     simp only [table_Lookup.j0] at H
     by_cases c16:x27_4=true
     · subst c16
       have H1:(some (0,0,0,0,0,0,false,([]:List Int),1))=some (r1,r2,r3,r4,r5,r6,r7,r8,r9):=by rw [if_pos rfl] at H;exact H
       clear H
       have H:=H1;clear H1
       simp only [Option.some.injEq,Prod.mk.injEq] at H
       obtain ⟨rfl,rfl,rfl,rfl,rfl,rfl,rfl,rfl,rfl⟩:=H
       have hnb17:=NB243_242.out
       have hnc17:=NB242_243.out
       obtain ⟨hcz18_0,hcz18_1,hcz18_2,hcz18_3,hcz18_4,hcz18_5,hcz18_6,hcz18_7,hfz18_0,hfz18_1,hfz18_2,hfz18_3,hfz18_4,hfz18_5,hfz18_6,hfz18_7⟩:=bcells8 BK243.out
       go_wp2
       refine bodyPost_ret (results_ct rfl _ _ gb243 48 #[.int .i64 0,.int .i64 0,.int .i64 0,.int .i64 0,.int .i64 0,.int .i64 0,.bool false,.slice none 0 0] (0,0) _ rfl (by (with_reducible repeat (first|refine blk_drewN ?_ _|refine blk_drew ?_|refine blk_alloc ?_ _));refine blk_put (cs:=#[.int .i64 0,.int .i64 0,.int .i64 0,.int .i64 0,.int .i64 0,.int .i64 0,.bool false,.slice none 0 0]) ?_ 7 _ rfl;(with_reducible repeat (first|refine blk_drewN ?_ _|refine blk_drew ?_|refine blk_alloc ?_ _));refine blk_put (cs:=#[.int .i64 0,.int .i64 0,.int .i64 0,.int .i64 0,.int .i64 0,.int .i64 0,.bool false,.slice none 0 0]) ?_ 6 _ rfl;(with_reducible repeat (first|refine blk_drewN ?_ _|refine blk_drew ?_|refine blk_alloc ?_ _));refine blk_put (cs:=#[.int .i64 0,.int .i64 0,.int .i64 0,.int .i64 0,.int .i64 0,.int .i64 0,.bool false,.slice none 0 0]) ?_ 5 _ rfl;(with_reducible repeat (first|refine blk_drewN ?_ _|refine blk_drew ?_|refine blk_alloc ?_ _));refine blk_put (cs:=#[.int .i64 0,.int .i64 0,.int .i64 0,.int .i64 0,.int .i64 0,.int .i64 0,.bool false,.slice none 0 0]) ?_ 4 _ rfl;(with_reducible repeat (first|refine blk_drewN ?_ _|refine blk_drew ?_|refine blk_alloc ?_ _));refine blk_put (cs:=#[.int .i64 0,.int .i64 0,.int .i64 0,.int .i64 0,.int .i64 0,.int .i64 0,.bool false,.slice none 0 0]) ?_ 3 _ rfl;(with_reducible repeat (first|refine blk_drewN ?_ _|refine blk_drew ?_|refine blk_alloc ?_ _));refine blk_put (cs:=#[.int .i64 0,.int .i64 0,.int .i64 0,.int .i64 0,.int .i64 0,.int .i64 0,.bool false,.slice none 0 0]) ?_ 2 _ rfl;(with_reducible repeat (first|refine blk_drewN ?_ _|refine blk_drew ?_|refine blk_alloc ?_ _));refine blk_put (cs:=#[.int .i64 0,.int .i64 0,.int .i64 0,.int .i64 0,.int .i64 0,.int .i64 0,.bool false,.slice none 0 0]) ?_ 1 _ rfl;(with_reducible repeat (first|refine blk_drewN ?_ _|refine blk_drew ?_|refine blk_alloc ?_ _));refine blk_put (cs:=#[.int .i64 0,.int .i64 0,.int .i64 0,.int .i64 0,.int .i64 0,.int .i64 0,.bool false,.slice none 0 0]) ?_ 0 _ rfl;(with_reducible repeat (first|refine blk_drewN ?_ _|refine blk_drew ?_|refine blk_alloc ?_ _));exact BK243.out) Try.underlying48 rfl (by kernel_rfl)) rfl ?_
       exact ⟨_,by first|rfl|(simp [errW_none,errW_some] <;> rfl)|(simp [*,errW_none,errW_some] <;> rfl),by first|exact Kd.R_nil _ _ _ _ _|exact Kd.N_nil _ _ _ _ _|exact Kd.V_nil _ _ _ _ _|exact Kd.Q_nil _ _ _ _ _|exact Kd.S_nil _ _ _ _ _,by repeat (first|(with_reducible first|exact HB.out|apply below_alloc|apply pw_below_drewN|apply below_drew1|refine below_set ?_ GE242.out|refine below_set ?_ GE243.out)|exact HB.out)⟩
     replace c16:=Bool.eq_false_iff.mpr c16;subst c16
     have H1:((table_before.f kj4 l0_1 a1).bind fun t246=>((table_value.f kj4 l0_1 a1).bind fun t247=>((table_size.f a0_0 l0_1 l0_2 l0_3 a0_4 a0_5 l0_6 l0_7 l0_8 l0_9 l0_10 a1).bind fun t248=>((table_value.f kj4 l0_2 a1).bind fun t250=>(if (l0_9.length:Int) > 0 then ((table_value.f kj4 l0_9 a1).bind fun t251=>(table_Lookup.j1 kj4 a1 a0_0 l0_1 l0_2 l0_3 a0_4 a0_5 l0_6 l0_7 l0_8 l0_9 l0_10 (wrap64 (a0_0+t246)) (wrap64 ((wrap64 (a0_0+t246))+t250)) t251 t248 0 0 a0_4)) else (table_Lookup.j1 kj4 a1 a0_0 l0_1 l0_2 l0_3 a0_4 a0_5 l0_6 l0_7 l0_8 l0_9 l0_10 (wrap64 (a0_0+t246)) (wrap64 ((wrap64 (a0_0+t246))+t250)) t247 t248 0 0 a0_4))))))=some (r1,r2,r3,r4,r5,r6,r7,r8,r9):=by rw [if_neg (show ¬ (false=true) by decide)] at H;exact H
     clear H
     have H:=H1;clear H1
     replace H:=Option.bind_eq_some_iff.mp H
     obtain ⟨t246,A190,H⟩:=H
     replace H:((table_value.f kj4 l0_1 a1).bind fun t247=>((table_size.f a0_0 l0_1 l0_2 l0_3 a0_4 a0_5 l0_6 l0_7 l0_8 l0_9 l0_10 a1).bind fun t248=>((table_value.f kj4 l0_2 a1).bind fun t250=>(if (l0_9.length:Int) > 0 then ((table_value.f kj4 l0_9 a1).bind fun t251=>(table_Lookup.j1 kj4 a1 a0_0 l0_1 l0_2 l0_3 a0_4 a0_5 l0_6 l0_7 l0_8 l0_9 l0_10 (wrap64 (a0_0+t246)) (wrap64 ((wrap64 (a0_0+t246))+t250)) t251 t248 0 0 a0_4)) else (table_Lookup.j1 kj4 a1 a0_0 l0_1 l0_2 l0_3 a0_4 a0_5 l0_6 l0_7 l0_8 l0_9 l0_10 (wrap64 (a0_0+t246)) (wrap64 ((wrap64 (a0_0+t246))+t250)) t247 t248 0 0 a0_4)))))=some (r1,r2,r3,r4,r5,r6,r7,r8,r9):=H
     have A19:=Aside0.mk A190;clear A190
     replace H:=Option.bind_eq_some_iff.mp H
     obtain ⟨t247,A200,H⟩:=H
     replace H:((table_size.f a0_0 l0_1 l0_2 l0_3 a0_4 a0_5 l0_6 l0_7 l0_8 l0_9 l0_10 a1).bind fun t248=>((table_value.f kj4 l0_2 a1).bind fun t250=>(if (l0_9.length:Int) > 0 then ((table_value.f kj4 l0_9 a1).bind fun t251=>(table_Lookup.j1 kj4 a1 a0_0 l0_1 l0_2 l0_3 a0_4 a0_5 l0_6 l0_7 l0_8 l0_9 l0_10 (wrap64 (a0_0+t246)) (wrap64 ((wrap64 (a0_0+t246))+t250)) t251 t248 0 0 a0_4)) else (table_Lookup.j1 kj4 a1 a0_0 l0_1 l0_2 l0_3 a0_4 a0_5 l0_6 l0_7 l0_8 l0_9 l0_10 (wrap64 (a0_0+t246)) (wrap64 ((wrap64 (a0_0+t246))+t250)) t247 t248 0 0 a0_4))))=some (r1,r2,r3,r4,r5,r6,r7,r8,r9):=H
     have A20:=Aside0.mk A200;clear A200
     replace H:=Option.bind_eq_some_iff.mp H
     obtain ⟨t248,A210,H⟩:=H
     replace H:((table_value.f kj4 l0_2 a1).bind fun t250=>(if (l0_9.length:Int) > 0 then ((table_value.f kj4 l0_9 a1).bind fun t251=>(table_Lookup.j1 kj4 a1 a0_0 l0_1 l0_2 l0_3 a0_4 a0_5 l0_6 l0_7 l0_8 l0_9 l0_10 (wrap64 (a0_0+t246)) (wrap64 ((wrap64 (a0_0+t246))+t250)) t251 t248 0 0 a0_4)) else (table_Lookup.j1 kj4 a1 a0_0 l0_1 l0_2 l0_3 a0_4 a0_5 l0_6 l0_7 l0_8 l0_9 l0_10 (wrap64 (a0_0+t246)) (wrap64 ((wrap64 (a0_0+t246))+t250)) t247 t248 0 0 a0_4)))=some (r1,r2,r3,r4,r5,r6,r7,r8,r9):=H
     have A21:=Aside0.mk A210;clear A210
     replace H:=Option.bind_eq_some_iff.mp H
     obtain ⟨t250,A220,H⟩:=H
     replace H:(if (l0_9.length:Int) > 0 then ((table_value.f kj4 l0_9 a1).bind fun t251=>(table_Lookup.j1 kj4 a1 a0_0 l0_1 l0_2 l0_3 a0_4 a0_5 l0_6 l0_7 l0_8 l0_9 l0_10 (wrap64 (a0_0+t246)) (wrap64 ((wrap64 (a0_0+t246))+t250)) t251 t248 0 0 a0_4)) else (table_Lookup.j1 kj4 a1 a0_0 l0_1 l0_2 l0_3 a0_4 a0_5 l0_6 l0_7 l0_8 l0_9 l0_10 (wrap64 (a0_0+t246)) (wrap64 ((wrap64 (a0_0+t246))+t250)) t247 t248 0 0 a0_4))=some (r1,r2,r3,r4,r5,r6,r7,r8,r9):=H
     have A22:=Aside0.mk A220;clear A220
     have HC23:=Aside0.mk H;clear H
     try go_wp2_with fail
     have n0_:=Aside0.mk (blk_drew BK242.out)
     have n1_:=Aside0.mk (blk_drew BK243.out)
     have n2_:=Aside0.mk (below_drew1 HB.out);clear BK242;clear BK243;clear HB;have BK242:=n0_;have BK243:=n1_;have HB:=n2_;clear n0_ n1_ n2_
     refine start_ (n:=19) (S:=fun w'=>w'.cell? ⟨gb242,0,none⟩=some (.int .i64 a0_0)∧w'.cell? ⟨gb242,1,none⟩=some (.slice A0_1 l0_1.length c0_1)∧w'.cell? ⟨gb242,2,none⟩=some (.slice A0_2 l0_2.length c0_2)∧w'.cell? ⟨gb242,3,none⟩=some (.slice A0_3 l0_3.length c0_3)∧w'.cell? ⟨gb242,4,none⟩=some (.bool a0_4)∧w'.cell? ⟨gb242,5,none⟩=some (.int .i64 a0_5)∧w'.cell? ⟨gb242,6,none⟩=some (.slice A0_6 l0_6.length c0_6)∧w'.cell? ⟨gb242,7,none⟩=some (.slice A0_7 l0_7.length c0_7)∧w'.cell? ⟨gb242,8,none⟩=some (.slice A0_8 l0_8.length c0_8)∧w'.cell? ⟨gb242,9,none⟩=some (.slice A0_9 l0_9.length c0_9)∧w'.cell? ⟨gb242,10,none⟩=some (.slice A0_10 l0_10.length c0_10)) (ds:=[]) ((bm false [19]).toArray) (by kernel_rfl) rfl rfl ⟨(blk_cell BK242.out 0).trans rfl,(blk_cell BK242.out 1).trans rfl,(blk_cell BK242.out 2).trans rfl,(blk_cell BK242.out 3).trans rfl,(blk_cell BK242.out 4).trans rfl,(blk_cell BK242.out 5).trans rfl,(blk_cell BK242.out 6).trans rfl,(blk_cell BK242.out 7).trans rfl,(blk_cell BK242.out 8).trans rfl,(blk_cell BK242.out 9).trans rfl,(blk_cell BK242.out 10).trans rfl⟩ (fun hHeld=>?_);refine with_tabW table_Lookup.tab6 table_Lookup.bits6 (fun HT_ HW_=>?_)
     generalize wc.drew=w24 at BK242 BK243 HB hHeld ⊢
     refine pure_ (i:=0) (N:=some 29) (v:=?_) (a':=?_) ((bm true [1,18]).toArray) rfl rfl (any_of HT_.out (by kernel_rfl)) (fun _ _ _ h=>h) (Or.inl ⟨by rfl,?_⟩) ?_ ?_;rotate_left
     · intro w';go_simp;with_reducible rfl
     rotate_left
     · simp only [Act.put,List.setIfInBounds_toArray,List.set_cons_zero,List.set_cons_succ,i64_w,i32_w];rfl
     refine pure_ (i:=2) (N:=some 31) (v:=?_) (a':=?_) ((bm true [1,1,1,16]).toArray) rfl rfl (any_of HT_.out (by kernel_rfl)) (fun _ _ _ h=>h) (Or.inl ⟨by rfl,?_⟩) ?_ ?_;rotate_left
     · intro w';go_simp;with_reducible rfl
     rotate_left
     · simp only [Act.put,List.setIfInBounds_toArray,List.set_cons_zero,List.set_cons_succ,i64_w,i32_w];rfl
     refine pure_ (i:=4) (N:=some 33) (v:=?_) (a':=?_) ((bm true [1,1,1,1,1,14]).toArray) rfl rfl (any_of HT_.out (by kernel_rfl)) (fun _ _ _ h=>h) (Or.inl ⟨by rfl,?_⟩) ?_ ?_;rotate_left
     · intro w';go_simp;with_reducible rfl
     rotate_left
     · simp only [Act.put,List.setIfInBounds_toArray,List.set_cons_zero,List.set_cons_succ,i64_w,i32_w];rfl
     refine pure_ (i:=7) (N:=some 36) (v:=?_) (a':=?_) ((bm true [1,1,1,1,1,2,1,11]).toArray) rfl rfl (any_of HT_.out (by kernel_rfl)) (fun _ _ _ h=>h) (Or.inl ⟨by rfl,?_⟩) ?_ ?_;rotate_left
     · intro w';go_simp;with_reducible rfl
     rotate_left
     · simp only [Act.put,List.setIfInBounds_toArray,List.set_cons_zero,List.set_cons_succ,i64_w,i32_w];rfl
     refine pure_ (i:=9) (N:=some 38) (v:=?_) (a':=?_) ((bm true [1,1,1,1,1,2,1,1,1,9]).toArray) rfl rfl (any_of HT_.out (by kernel_rfl)) (fun _ _ _ h=>h) (Or.inl ⟨by rfl,?_⟩) ?_ ?_;rotate_left
     · intro w';go_simp;with_reducible rfl
     rotate_left
     · simp only [Act.put,List.setIfInBounds_toArray,List.set_cons_zero,List.set_cons_succ,i64_w,i32_w];rfl
     refine pure_ (i:=12) (N:=some 41) (v:=?_) (a':=?_) ((bm true [1,1,1,1,1,2,1,1,1,2,1,6]).toArray) rfl rfl (any_of HT_.out (by kernel_rfl)) (fun _ _ _ h=>h) (Or.inl ⟨by rfl,?_⟩) ?_ ?_;rotate_left
     · intro w';go_simp;with_reducible rfl
     rotate_left
     · simp only [Act.put,List.setIfInBounds_toArray,List.set_cons_zero,List.set_cons_succ,i64_w,i32_w];rfl
     refine pure_ (i:=14) (N:=some 43) (v:=?_) (a':=?_) ((bm true [1,1,1,1,1,2,1,1,1,2,1,1,1,4]).toArray) rfl rfl (any_of HT_.out (by kernel_rfl)) (fun _ _ _ h=>h) (Or.inl ⟨by rfl,?_⟩) ?_ ?_;rotate_left
     · intro w';go_simp;with_reducible rfl
     rotate_left
     · simp only [Act.put,List.setIfInBounds_toArray,List.set_cons_zero,List.set_cons_succ,i64_w,i32_w];rfl
     refine take_ (i:=1) (N:=some 30) (v:=?_) (a':=?_) ((bm true [3,1,1,2,1,1,1,2,1,1,1,4]).toArray) rfl rfl (take_ofW HT_.out HW_.out (by kernel_rfl)) (fun _ _ _ h=>h) (Or.inl ⟨by rfl,?_⟩) hHeld ?_ ?_;rotate_left
     · rintro w' ⟨s0,s1,s2,s3,s4,s5,s6,s7,s8,s9,s10⟩
       go_simp;with_reducible rfl
     rotate_left
     · simp only [Act.put,List.setIfInBounds_toArray,List.set_cons_zero,List.set_cons_succ,i64_w,i32_w];rfl
     refine take_ (i:=3) (N:=some 32) (v:=?_) (a':=?_) ((bm true [5,2,1,1,1,2,1,1,1,4]).toArray) rfl rfl (take_ofW HT_.out HW_.out (by kernel_rfl)) (fun _ _ _ h=>h) (Or.inl ⟨by rfl,?_⟩) hHeld ?_ ?_;rotate_left
     · rintro w' ⟨s0,s1,s2,s3,s4,s5,s6,s7,s8,s9,s10⟩
       go_simp;with_reducible rfl
     rotate_left
     · simp only [Act.put,List.setIfInBounds_toArray,List.set_cons_zero,List.set_cons_succ,i64_w,i32_w];rfl
     refine take_ (i:=8) (N:=some 37) (v:=?_) (a':=?_) ((bm true [5,2,3,2,1,1,1,4]).toArray) rfl rfl (take_ofW HT_.out HW_.out (by kernel_rfl)) (fun _ _ _ h=>h) (Or.inl ⟨by rfl,?_⟩) hHeld ?_ ?_;rotate_left
     · rintro w' ⟨s0,s1,s2,s3,s4,s5,s6,s7,s8,s9,s10⟩
       go_simp;with_reducible rfl
     rotate_left
     · simp only [Act.put,List.setIfInBounds_toArray,List.set_cons_zero,List.set_cons_succ,i64_w,i32_w];rfl
     refine take_ (i:=11) (N:=some 40) (v:=?_) (a':=?_) ((bm true [5,2,3,1,2,1,1,4]).toArray) rfl rfl (take_ofW HT_.out HW_.out (by kernel_rfl)) (fun _ _ _ h=>h) (Or.inl ⟨by rfl,?_⟩) hHeld ?_ ?_;rotate_left
     · rintro w' ⟨s0,s1,s2,s3,s4,s5,s6,s7,s8,s9,s10⟩
       go_simp;with_reducible rfl
     rotate_left
     · simp only [Act.put,List.setIfInBounds_toArray,List.set_cons_zero,List.set_cons_succ,i64_w,i32_w];rfl
     refine take_ (i:=15) (N:=some 44) (v:=?_) (a':=?_) ((bm true [5,2,3,1,2,1,2,3]).toArray) rfl rfl (take_ofW HT_.out HW_.out (by kernel_rfl)) (fun _ _ _ h=>h) (Or.inl ⟨by rfl,?_⟩) hHeld ?_ ?_;rotate_left
     · rintro w' ⟨s0,s1,s2,s3,s4,s5,s6,s7,s8,s9,s10⟩
       go_simp;with_reducible rfl
     rotate_left
     · simp only [Act.put,List.setIfInBounds_toArray,List.set_cons_zero,List.set_cons_succ,i64_w,i32_w];rfl
     refine join_ (σ:=Nat) 1 ((bm true [18,1]).toArray) (fun s_=>[(34,.int .i64 t246),(39,.int .i64 t247),(42,.int .i64 t248),(7,.pointer (some ⟨s_,0,none⟩)),(35,.int .i64 (wrap64 (a0_0+t246))),(45,.agg #[.int .i64 (wrap64 (a0_0+t246)),.int .i64 0,.int .i64 t247,.int .i64 t248,.int .i64 0,.int .i64 0,.bool a0_4,.slice none 0 0])]) (fun s_ w'=>(w'.cell? ⟨gb242,0,none⟩=some (.int .i64 a0_0)∧w'.cell? ⟨gb242,1,none⟩=some (.slice A0_1 l0_1.length c0_1)∧w'.cell? ⟨gb242,2,none⟩=some (.slice A0_2 l0_2.length c0_2)∧w'.cell? ⟨gb242,3,none⟩=some (.slice A0_3 l0_3.length c0_3)∧w'.cell? ⟨gb242,4,none⟩=some (.bool a0_4)∧w'.cell? ⟨gb242,5,none⟩=some (.int .i64 a0_5)∧w'.cell? ⟨gb242,6,none⟩=some (.slice A0_6 l0_6.length c0_6)∧w'.cell? ⟨gb242,7,none⟩=some (.slice A0_7 l0_7.length c0_7)∧w'.cell? ⟨gb242,8,none⟩=some (.slice A0_8 l0_8.length c0_8)∧w'.cell? ⟨gb242,9,none⟩=some (.slice A0_9 l0_9.length c0_9)∧w'.cell? ⟨gb242,10,none⟩=some (.slice A0_10 l0_10.length c0_10))∧(w'.heap[gb242]?=some (.cells #[.int .i64 a0_0,.slice A0_1 l0_1.length c0_1,.slice A0_2 l0_2.length c0_2,.slice A0_3 l0_3.length c0_3,.bool a0_4,.int .i64 a0_5,.slice A0_6 l0_6.length c0_6,.slice A0_7 l0_7.length c0_7,.slice A0_8 l0_8.length c0_8,.slice A0_9 l0_9.length c0_9,.slice A0_10 l0_10.length c0_10] 27 (0,0)))∧(w'.heap[gb243]?=some (.cells #[.int .i64 0,.int .i64 0,.int .i64 0,.int .i64 0,.int .i64 0,.int .i64 0,.bool false,.slice none 0 0] 48 (0,0)))∧(w'.heap[s_]?=some (.cells #[.int .i64 0,.int .i64 0,.int .i64 0,.int .i64 0,.int .i64 0,.int .i64 0,.bool false,.slice none 0 0] 48 (0,0)))∧(w.heap.size≤s_)∧(w.heap.size≤s_)∧(gb242≠s_)∧(s_≠gb242)∧(gb243≠s_)∧(s_≠gb243)∧(Below w.heap.size w w')) ?_ ?_
     rotate_left
     · intro hCont
       refine two_ (i:=5) (j:=17) (Ni:=some 34) (Nj:=some 7) ((bm true [6,1,3,1,2,1,2,3]).toArray) ((bm true [5,2,3,1,2,1,2,1,1,1]).toArray) rfl rfl rfl rfl (two_of HT_.out (by kernel_rfl)) (by decide) (by decide) (fun K hK=>?_) (fun K hK=>?_)
       · skip
         refine goes_ Try.func72 (by kernel_rfl) rfl #[.slice A0_1 l0_1.length c0_1,.int .i64 a1] (by rfl) rfl rfl (by (try simp only [List.map_toArray,List.map_cons,List.map_nil]);first|done|rfl|(simp only [List.length_drop,List.length_take];rfl)) ?_
         with_reducible refine (table_before.calls kj4 _ _ l0_1 a1 t246 _ ?side1 ?side2 A19.out).mono ?_
         (case side1=>exact cV (Kd.C_below HR0_1.out HB.out))
         (case side2=>exact HC0_1.out)
         rintro e w25 ⟨rfl,hb⟩
         refine ⟨_,rfl,?_⟩
         have n0_:=Aside0.mk (blk_below (g:=gb242) (blkV BK242.out) hb)
         have n1_:=Aside0.mk (blk_below (g:=gb243) (blkV BK243.out) hb)
         have n2_:=Aside0.mk (below_step (belV2 HB.out GE242.out GE243.out) hb);clear BK242;clear BK243;clear HB;have BK242:=n0_;have BK243:=n1_;have HB:=n2_;clear n0_ n1_ n2_
         (try clear hb)
         (try clear hb2)
         (try clear hk)
         (try clear hi)
         refine hK.out _ _ ⟨(blk_cell BK242.out 0).trans rfl,(blk_cell BK242.out 1).trans rfl,(blk_cell BK242.out 2).trans rfl,(blk_cell BK242.out 3).trans rfl,(blk_cell BK242.out 4).trans rfl,(blk_cell BK242.out 5).trans rfl,(blk_cell BK242.out 6).trans rfl,(blk_cell BK242.out 7).trans rfl,(blk_cell BK242.out 8).trans rfl,(blk_cell BK242.out 9).trans rfl,(blk_cell BK242.out 10).trans rfl⟩ (fun hHeld=>?_);clear hK K
         refine norm_ (a':=?_) ?_ ?_;rotate_left
         · show Act.put _ (some 34) _=_
           simp only [Act.put,List.setIfInBounds_toArray,List.set_cons_zero,List.set_cons_succ,i64_w,i32_w];rfl
         refine pure_ (i:=6) (N:=some 35) (v:=?_) (a':=?_) ((bm true [10,1,2,1,2,3]).toArray) rfl rfl (any_of HT_.out (by kernel_rfl)) (fun _ _ _ h=>h) (Or.inl ⟨by rfl,?_⟩) ?_ ?_;rotate_left
         · intro w';go_simp;with_reducible rfl
         rotate_left
         · simp only [Act.put,List.setIfInBounds_toArray,List.set_cons_zero,List.set_cons_succ,i64_w,i32_w];rfl
         refine two_ (i:=10) (j:=17) (Ni:=some 39) (Nj:=some 7) ((bm true [13,1,2,3]).toArray) ((bm true [10,1,2,1,2,1,1,1]).toArray) rfl rfl rfl rfl (two_of HT_.out (by kernel_rfl)) (by decide) (by decide) (fun K hK=>?_) (fun K hK=>?_)
         · skip
           refine goes_ Try.func73 (by kernel_rfl) rfl #[.slice A0_1 l0_1.length c0_1,.int .i64 a1] (by rfl) rfl rfl (by (try simp only [List.map_toArray,List.map_cons,List.map_nil]);first|done|rfl|(simp only [List.length_drop,List.length_take];rfl)) ?_
           with_reducible refine (table_value.calls kj4 _ _ l0_1 a1 t247 _ ?side1 ?side2 A20.out).mono ?_
           (case side1=>exact cV (Kd.C_below HR0_1.out HB.out))
           (case side2=>exact HC0_1.out)
           rintro e w26 ⟨rfl,hb⟩
           refine ⟨_,rfl,?_⟩
           have n0_:=Aside0.mk (blk_below (g:=gb242) (blkV BK242.out) hb)
           have n1_:=Aside0.mk (blk_below (g:=gb243) (blkV BK243.out) hb)
           have n2_:=Aside0.mk (below_step (belV2 HB.out GE242.out GE243.out) hb);clear BK242;clear BK243;clear HB;have BK242:=n0_;have BK243:=n1_;have HB:=n2_;clear n0_ n1_ n2_
           (try clear hb)
           (try clear hb2)
           (try clear hk)
           (try clear hi)
           refine hK.out _ _ ⟨(blk_cell BK242.out 0).trans rfl,(blk_cell BK242.out 1).trans rfl,(blk_cell BK242.out 2).trans rfl,(blk_cell BK242.out 3).trans rfl,(blk_cell BK242.out 4).trans rfl,(blk_cell BK242.out 5).trans rfl,(blk_cell BK242.out 6).trans rfl,(blk_cell BK242.out 7).trans rfl,(blk_cell BK242.out 8).trans rfl,(blk_cell BK242.out 9).trans rfl,(blk_cell BK242.out 10).trans rfl⟩ (fun hHeld=>?_);clear hK K
           refine norm_ (a':=?_) ?_ ?_;rotate_left
           · show Act.put _ (some 39) _=_
             simp only [Act.put,List.setIfInBounds_toArray,List.set_cons_zero,List.set_cons_succ,i64_w,i32_w];rfl
           refine two_ (i:=13) (j:=17) (Ni:=some 42) (Nj:=some 7) ((bm true [16,3]).toArray) ((bm true [13,1,2,1,1,1]).toArray) rfl rfl rfl rfl (two_of HT_.out (by kernel_rfl)) (by decide) (by decide) (fun K hK=>?_) (fun K hK=>?_)
           · skip
             refine goes_ Try.func74 (by kernel_rfl) rfl #[.agg #[.int .i64 a0_0,.slice A0_1 l0_1.length c0_1,.slice A0_2 l0_2.length c0_2,.slice A0_3 l0_3.length c0_3,.bool a0_4,.int .i64 a0_5,.slice A0_6 l0_6.length c0_6,.slice A0_7 l0_7.length c0_7,.slice A0_8 l0_8.length c0_8,.slice A0_9 l0_9.length c0_9,.slice A0_10 l0_10.length c0_10],.int .i64 a1] (by rfl) rfl rfl (by (try simp only [List.map_toArray,List.map_cons,List.map_nil]);first|done|rfl|(simp only [List.length_drop,List.length_take];rfl)) ?_
             with_reducible refine (table_size.calls a0_0 _ _ l0_1 _ _ l0_2 _ _ l0_3 a0_4 a0_5 _ _ l0_6 _ _ l0_7 _ _ l0_8 _ _ l0_9 _ _ l0_10 a1 t248 _ ?side1 ?side2 ?side3 ?side4 ?side5 ?side6 ?side7 ?side8 ?side9 ?side10 ?side11 ?side12 ?side13 ?side14 ?side15 ?side16 A21.out).mono ?_
             (case side1=>exact cV (Kd.C_below HR0_1.out HB.out))
             (case side2=>exact HC0_1.out)
             (case side3=>exact cV (Kd.C_below HR0_2.out HB.out))
             (case side4=>exact HC0_2.out)
             (case side5=>exact cV (Kd.C_below HR0_3.out HB.out))
             (case side6=>exact HC0_3.out)
             (case side7=>exact cV (Kd.C_below HR0_6.out HB.out))
             (case side8=>exact HC0_6.out)
             (case side9=>exact cV (Kd.C_below HR0_7.out HB.out))
             (case side10=>exact HC0_7.out)
             (case side11=>exact cV (Kd.C_below HR0_8.out HB.out))
             (case side12=>exact HC0_8.out)
             (case side13=>exact cV (Kd.C_below HR0_9.out HB.out))
             (case side14=>exact HC0_9.out)
             (case side15=>exact cV (Kd.C_below HR0_10.out HB.out))
             (case side16=>exact HC0_10.out)
             rintro e w27 ⟨rfl,hb⟩
             refine ⟨_,rfl,?_⟩
             have n0_:=Aside0.mk (blk_below (g:=gb242) (blkV BK242.out) hb)
             have n1_:=Aside0.mk (blk_below (g:=gb243) (blkV BK243.out) hb)
             have n2_:=Aside0.mk (below_step (belV2 HB.out GE242.out GE243.out) hb);clear BK242;clear BK243;clear HB;have BK242:=n0_;have BK243:=n1_;have HB:=n2_;clear n0_ n1_ n2_
             (try clear hb)
             (try clear hb2)
             (try clear hk)
             (try clear hi)
             refine hK.out _ _ ⟨(blk_cell BK242.out 0).trans rfl,(blk_cell BK242.out 1).trans rfl,(blk_cell BK242.out 2).trans rfl,(blk_cell BK242.out 3).trans rfl,(blk_cell BK242.out 4).trans rfl,(blk_cell BK242.out 5).trans rfl,(blk_cell BK242.out 6).trans rfl,(blk_cell BK242.out 7).trans rfl,(blk_cell BK242.out 8).trans rfl,(blk_cell BK242.out 9).trans rfl,(blk_cell BK242.out 10).trans rfl⟩ (fun hHeld=>?_);clear hK K
             refine norm_ (a':=?_) ?_ ?_;rotate_left
             · show Act.put _ (some 42) _=_
               simp only [Act.put,List.setIfInBounds_toArray,List.set_cons_zero,List.set_cons_succ,i64_w,i32_w];rfl
             refine pure_ (i:=16) (N:=some 45) (v:=?_) (a':=?_) ((bm true [17,2]).toArray) rfl rfl (any_of HT_.out (by kernel_rfl)) (fun _ _ _ h=>h) (Or.inl ⟨by rfl,?_⟩) ?_ ?_;rotate_left
             · intro w';go_simp;with_reducible rfl
             rotate_left
             · simp only [Act.put,List.setIfInBounds_toArray,List.set_cons_zero,List.set_cons_succ,i64_w,i32_w];rfl
             refine one_ (i:=17) (N:=some 7) ((bm true [18,1]).toArray) rfl rfl (one_of HT_.out (by kernel_rfl)) (by decide) (fun K hK=>?_)
             refine box_step ?hg (N:=7) ?hd (cs:=#[.int .i64 0,.int .i64 0,.int .i64 0,.int .i64 0,.int .i64 0,.int .i64 0,.bool false,.slice none 0 0]) (t:=48) ?hr ?_;(case hd=>rfl);(case hg=>rfl);(case hr=>first|(go_simp;done)|(go_simp;rfl))
             intro gb249 hg w28 hbox hb
             have n0_:=Aside0.mk (blk_below (g:=gb242) (blkV BK242.out) hb)
             have n1_:=Aside0.mk (blk_below (g:=gb243) (blkV BK243.out) hb)
             have n2_:=Aside0.mk (below_step (belV2 HB.out GE242.out GE243.out) hb)
             have n3_:=Aside0.mk (hbox)
             have n4_:=Aside0.mk ((by rw [hg];exact (below_size (belV2 HB.out GE242.out GE243.out)):w.heap.size≤gb249))
             have n5_:=Aside0.mk ((by rw [hg];exact (below_size (belV2 HB.out GE242.out GE243.out)):w.heap.size≤gb249))
             have n6_:=Aside0.mk ((by rw [hg];exact Nat.ne_of_lt (blk_lt (g:=gb242) (blkV BK242.out)):gb242≠gb249))
             have n7_:=Aside0.mk ((by rw [hg];exact Nat.ne_of_gt (blk_lt (g:=gb242) (blkV BK242.out)):gb249≠gb242))
             have n8_:=Aside0.mk ((by rw [hg];exact Nat.ne_of_lt (blk_lt (g:=gb243) (blkV BK243.out)):gb243≠gb249))
             have n9_:=Aside0.mk ((by rw [hg];exact Nat.ne_of_gt (blk_lt (g:=gb243) (blkV BK243.out)):gb249≠gb243));clear BK242;clear BK243;clear HB;have BK242:=n0_;have BK243:=n1_;have HB:=n2_;have BK249:=n3_
             have GW249:=n4_
             have GE249:=n5_
             have NB242_249:=n6_
             have NB249_242:=n7_
             have NB243_249:=n8_
             have NB249_243:=n9_;clear n0_ n1_ n2_ n3_ n4_ n5_ n6_ n7_ n8_ n9_;clear hb hbox hg
             refine hK.out _ _ ⟨(blk_cell BK242.out 0).trans rfl,(blk_cell BK242.out 1).trans rfl,(blk_cell BK242.out 2).trans rfl,(blk_cell BK242.out 3).trans rfl,(blk_cell BK242.out 4).trans rfl,(blk_cell BK242.out 5).trans rfl,(blk_cell BK242.out 6).trans rfl,(blk_cell BK242.out 7).trans rfl,(blk_cell BK242.out 8).trans rfl,(blk_cell BK242.out 9).trans rfl,(blk_cell BK242.out 10).trans rfl⟩ (fun hHeld=>?_);clear hK K
             refine norm_ (a':=?_) ?_ ?_;rotate_left
             · show Act.put _ (some 7) _=_
               simp only [Act.put,List.setIfInBounds_toArray,List.set_cons_zero,List.set_cons_succ,i64_w,i32_w];rfl
             exact norm_ (by simp only [putAll,Act.put,List.setIfInBounds_toArray,List.set_cons_zero,List.set_cons_succ]) (hCont (gb249) _ ⟨hHeld,(blkV BK242.out),(blkV BK243.out),(blkV BK249.out),GW249.out,GE249.out,NB242_249.out,NB249_242.out,NB243_249.out,NB249_243.out,(belV3 HB.out GE242.out GE243.out GE249.out)⟩)
           skip
           refine box_step ?hg (N:=7) ?hd (cs:=#[.int .i64 0,.int .i64 0,.int .i64 0,.int .i64 0,.int .i64 0,.int .i64 0,.bool false,.slice none 0 0]) (t:=48) ?hr ?_;(case hd=>rfl);(case hg=>rfl);(case hr=>first|(go_simp;done)|(go_simp;rfl))
           intro gb249 hg w27 hbox hb
           have n0_:=Aside0.mk (blk_below (g:=gb242) (blkV BK242.out) hb)
           have n1_:=Aside0.mk (blk_below (g:=gb243) (blkV BK243.out) hb)
           have n2_:=Aside0.mk (below_step (belV2 HB.out GE242.out GE243.out) hb)
           have n3_:=Aside0.mk (hbox)
           have n4_:=Aside0.mk ((by rw [hg];exact (below_size (belV2 HB.out GE242.out GE243.out)):w.heap.size≤gb249))
           have n5_:=Aside0.mk ((by rw [hg];exact (below_size (belV2 HB.out GE242.out GE243.out)):w.heap.size≤gb249))
           have n6_:=Aside0.mk ((by rw [hg];exact Nat.ne_of_lt (blk_lt (g:=gb242) (blkV BK242.out)):gb242≠gb249))
           have n7_:=Aside0.mk ((by rw [hg];exact Nat.ne_of_gt (blk_lt (g:=gb242) (blkV BK242.out)):gb249≠gb242))
           have n8_:=Aside0.mk ((by rw [hg];exact Nat.ne_of_lt (blk_lt (g:=gb243) (blkV BK243.out)):gb243≠gb249))
           have n9_:=Aside0.mk ((by rw [hg];exact Nat.ne_of_gt (blk_lt (g:=gb243) (blkV BK243.out)):gb249≠gb243));clear BK242;clear BK243;clear HB;have BK242:=n0_;have BK243:=n1_;have HB:=n2_;have BK249:=n3_
           have GW249:=n4_
           have GE249:=n5_
           have NB242_249:=n6_
           have NB249_242:=n7_
           have NB243_249:=n8_
           have NB249_243:=n9_;clear n0_ n1_ n2_ n3_ n4_ n5_ n6_ n7_ n8_ n9_;clear hb hbox hg
           refine hK.out _ _ ⟨(blk_cell BK242.out 0).trans rfl,(blk_cell BK242.out 1).trans rfl,(blk_cell BK242.out 2).trans rfl,(blk_cell BK242.out 3).trans rfl,(blk_cell BK242.out 4).trans rfl,(blk_cell BK242.out 5).trans rfl,(blk_cell BK242.out 6).trans rfl,(blk_cell BK242.out 7).trans rfl,(blk_cell BK242.out 8).trans rfl,(blk_cell BK242.out 9).trans rfl,(blk_cell BK242.out 10).trans rfl⟩ (fun hHeld=>?_);clear hK K
           refine norm_ (a':=?_) ?_ ?_;rotate_left
           · show Act.put _ (some 7) _=_
             simp only [Act.put,List.setIfInBounds_toArray,List.set_cons_zero,List.set_cons_succ,i64_w,i32_w];rfl
           refine one_ (i:=13) (N:=some 42) ((bm true [16,1,1,1]).toArray) rfl rfl (one_of HT_.out (by kernel_rfl)) (by decide) (fun K hK=>?_)
           refine goes_ Try.func74 (by kernel_rfl) rfl #[.agg #[.int .i64 a0_0,.slice A0_1 l0_1.length c0_1,.slice A0_2 l0_2.length c0_2,.slice A0_3 l0_3.length c0_3,.bool a0_4,.int .i64 a0_5,.slice A0_6 l0_6.length c0_6,.slice A0_7 l0_7.length c0_7,.slice A0_8 l0_8.length c0_8,.slice A0_9 l0_9.length c0_9,.slice A0_10 l0_10.length c0_10],.int .i64 a1] (by rfl) rfl rfl (by (try simp only [List.map_toArray,List.map_cons,List.map_nil]);first|done|rfl|(simp only [List.length_drop,List.length_take];rfl)) ?_
           with_reducible refine (table_size.calls a0_0 _ _ l0_1 _ _ l0_2 _ _ l0_3 a0_4 a0_5 _ _ l0_6 _ _ l0_7 _ _ l0_8 _ _ l0_9 _ _ l0_10 a1 t248 _ ?side1 ?side2 ?side3 ?side4 ?side5 ?side6 ?side7 ?side8 ?side9 ?side10 ?side11 ?side12 ?side13 ?side14 ?side15 ?side16 A21.out).mono ?_
           (case side1=>exact cV (Kd.C_below HR0_1.out HB.out))
           (case side2=>exact HC0_1.out)
           (case side3=>exact cV (Kd.C_below HR0_2.out HB.out))
           (case side4=>exact HC0_2.out)
           (case side5=>exact cV (Kd.C_below HR0_3.out HB.out))
           (case side6=>exact HC0_3.out)
           (case side7=>exact cV (Kd.C_below HR0_6.out HB.out))
           (case side8=>exact HC0_6.out)
           (case side9=>exact cV (Kd.C_below HR0_7.out HB.out))
           (case side10=>exact HC0_7.out)
           (case side11=>exact cV (Kd.C_below HR0_8.out HB.out))
           (case side12=>exact HC0_8.out)
           (case side13=>exact cV (Kd.C_below HR0_9.out HB.out))
           (case side14=>exact HC0_9.out)
           (case side15=>exact cV (Kd.C_below HR0_10.out HB.out))
           (case side16=>exact HC0_10.out)
           rintro e w28 ⟨rfl,hb⟩
           refine ⟨_,rfl,?_⟩
           have n0_:=Aside0.mk (blk_below (g:=gb242) (blkV BK242.out) hb)
           have n1_:=Aside0.mk (blk_below (g:=gb243) (blkV BK243.out) hb)
           have n2_:=Aside0.mk (blk_below (g:=gb249) (blkV BK249.out) hb)
           have n3_:=Aside0.mk (below_step (belV3 HB.out GE242.out GE243.out GE249.out) hb);clear BK242;clear BK243;clear BK249;clear HB;have BK242:=n0_;have BK243:=n1_;have BK249:=n2_;have HB:=n3_;clear n0_ n1_ n2_ n3_
           (try clear hb)
           (try clear hb2)
           (try clear hk)
           (try clear hi)
           refine hK.out _ _ ⟨(blk_cell BK242.out 0).trans rfl,(blk_cell BK242.out 1).trans rfl,(blk_cell BK242.out 2).trans rfl,(blk_cell BK242.out 3).trans rfl,(blk_cell BK242.out 4).trans rfl,(blk_cell BK242.out 5).trans rfl,(blk_cell BK242.out 6).trans rfl,(blk_cell BK242.out 7).trans rfl,(blk_cell BK242.out 8).trans rfl,(blk_cell BK242.out 9).trans rfl,(blk_cell BK242.out 10).trans rfl⟩ (fun hHeld=>?_);clear hK K
           refine norm_ (a':=?_) ?_ ?_;rotate_left
           · show Act.put _ (some 42) _=_
             simp only [Act.put,List.setIfInBounds_toArray,List.set_cons_zero,List.set_cons_succ,i64_w,i32_w];rfl
           refine pure_ (i:=16) (N:=some 45) (v:=?_) (a':=?_) ((bm true [18,1]).toArray) rfl rfl (any_of HT_.out (by kernel_rfl)) (fun _ _ _ h=>h) (Or.inl ⟨by rfl,?_⟩) ?_ ?_;rotate_left
           · intro w';go_simp;with_reducible rfl
           rotate_left
           · simp only [Act.put,List.setIfInBounds_toArray,List.set_cons_zero,List.set_cons_succ,i64_w,i32_w];rfl
           exact norm_ (by simp only [putAll,Act.put,List.setIfInBounds_toArray,List.set_cons_zero,List.set_cons_succ]) (hCont (gb249) _ ⟨hHeld,(blkV BK242.out),(blkV BK243.out),(blkV BK249.out),GW249.out,GE249.out,NB242_249.out,NB249_242.out,NB243_249.out,NB249_243.out,(belV3 HB.out GE242.out GE243.out GE249.out)⟩)
         skip
         refine box_step ?hg (N:=7) ?hd (cs:=#[.int .i64 0,.int .i64 0,.int .i64 0,.int .i64 0,.int .i64 0,.int .i64 0,.bool false,.slice none 0 0]) (t:=48) ?hr ?_;(case hd=>rfl);(case hg=>rfl);(case hr=>first|(go_simp;done)|(go_simp;rfl))
         intro gb249 hg w26 hbox hb
         have n0_:=Aside0.mk (blk_below (g:=gb242) (blkV BK242.out) hb)
         have n1_:=Aside0.mk (blk_below (g:=gb243) (blkV BK243.out) hb)
         have n2_:=Aside0.mk (below_step (belV2 HB.out GE242.out GE243.out) hb)
         have n3_:=Aside0.mk (hbox)
         have n4_:=Aside0.mk ((by rw [hg];exact (below_size (belV2 HB.out GE242.out GE243.out)):w.heap.size≤gb249))
         have n5_:=Aside0.mk ((by rw [hg];exact (below_size (belV2 HB.out GE242.out GE243.out)):w.heap.size≤gb249))
         have n6_:=Aside0.mk ((by rw [hg];exact Nat.ne_of_lt (blk_lt (g:=gb242) (blkV BK242.out)):gb242≠gb249))
         have n7_:=Aside0.mk ((by rw [hg];exact Nat.ne_of_gt (blk_lt (g:=gb242) (blkV BK242.out)):gb249≠gb242))
         have n8_:=Aside0.mk ((by rw [hg];exact Nat.ne_of_lt (blk_lt (g:=gb243) (blkV BK243.out)):gb243≠gb249))
         have n9_:=Aside0.mk ((by rw [hg];exact Nat.ne_of_gt (blk_lt (g:=gb243) (blkV BK243.out)):gb249≠gb243));clear BK242;clear BK243;clear HB;have BK242:=n0_;have BK243:=n1_;have HB:=n2_;have BK249:=n3_
         have GW249:=n4_
         have GE249:=n5_
         have NB242_249:=n6_
         have NB249_242:=n7_
         have NB243_249:=n8_
         have NB249_243:=n9_;clear n0_ n1_ n2_ n3_ n4_ n5_ n6_ n7_ n8_ n9_;clear hb hbox hg
         refine hK.out _ _ ⟨(blk_cell BK242.out 0).trans rfl,(blk_cell BK242.out 1).trans rfl,(blk_cell BK242.out 2).trans rfl,(blk_cell BK242.out 3).trans rfl,(blk_cell BK242.out 4).trans rfl,(blk_cell BK242.out 5).trans rfl,(blk_cell BK242.out 6).trans rfl,(blk_cell BK242.out 7).trans rfl,(blk_cell BK242.out 8).trans rfl,(blk_cell BK242.out 9).trans rfl,(blk_cell BK242.out 10).trans rfl⟩ (fun hHeld=>?_);clear hK K
         refine norm_ (a':=?_) ?_ ?_;rotate_left
         · show Act.put _ (some 7) _=_
           simp only [Act.put,List.setIfInBounds_toArray,List.set_cons_zero,List.set_cons_succ,i64_w,i32_w];rfl
         refine one_ (i:=10) (N:=some 39) ((bm true [13,1,2,1,1,1]).toArray) rfl rfl (one_of HT_.out (by kernel_rfl)) (by decide) (fun K hK=>?_)
         refine goes_ Try.func73 (by kernel_rfl) rfl #[.slice A0_1 l0_1.length c0_1,.int .i64 a1] (by rfl) rfl rfl (by (try simp only [List.map_toArray,List.map_cons,List.map_nil]);first|done|rfl|(simp only [List.length_drop,List.length_take];rfl)) ?_
         with_reducible refine (table_value.calls kj4 _ _ l0_1 a1 t247 _ ?side1 ?side2 A20.out).mono ?_
         (case side1=>exact cV (Kd.C_below HR0_1.out HB.out))
         (case side2=>exact HC0_1.out)
         rintro e w27 ⟨rfl,hb⟩
         refine ⟨_,rfl,?_⟩
         have n0_:=Aside0.mk (blk_below (g:=gb242) (blkV BK242.out) hb)
         have n1_:=Aside0.mk (blk_below (g:=gb243) (blkV BK243.out) hb)
         have n2_:=Aside0.mk (blk_below (g:=gb249) (blkV BK249.out) hb)
         have n3_:=Aside0.mk (below_step (belV3 HB.out GE242.out GE243.out GE249.out) hb);clear BK242;clear BK243;clear BK249;clear HB;have BK242:=n0_;have BK243:=n1_;have BK249:=n2_;have HB:=n3_;clear n0_ n1_ n2_ n3_
         (try clear hb)
         (try clear hb2)
         (try clear hk)
         (try clear hi)
         refine hK.out _ _ ⟨(blk_cell BK242.out 0).trans rfl,(blk_cell BK242.out 1).trans rfl,(blk_cell BK242.out 2).trans rfl,(blk_cell BK242.out 3).trans rfl,(blk_cell BK242.out 4).trans rfl,(blk_cell BK242.out 5).trans rfl,(blk_cell BK242.out 6).trans rfl,(blk_cell BK242.out 7).trans rfl,(blk_cell BK242.out 8).trans rfl,(blk_cell BK242.out 9).trans rfl,(blk_cell BK242.out 10).trans rfl⟩ (fun hHeld=>?_);clear hK K
         refine norm_ (a':=?_) ?_ ?_;rotate_left
         · show Act.put _ (some 39) _=_
           simp only [Act.put,List.setIfInBounds_toArray,List.set_cons_zero,List.set_cons_succ,i64_w,i32_w];rfl
         refine one_ (i:=13) (N:=some 42) ((bm true [16,1,1,1]).toArray) rfl rfl (one_of HT_.out (by kernel_rfl)) (by decide) (fun K hK=>?_)
         refine goes_ Try.func74 (by kernel_rfl) rfl #[.agg #[.int .i64 a0_0,.slice A0_1 l0_1.length c0_1,.slice A0_2 l0_2.length c0_2,.slice A0_3 l0_3.length c0_3,.bool a0_4,.int .i64 a0_5,.slice A0_6 l0_6.length c0_6,.slice A0_7 l0_7.length c0_7,.slice A0_8 l0_8.length c0_8,.slice A0_9 l0_9.length c0_9,.slice A0_10 l0_10.length c0_10],.int .i64 a1] (by rfl) rfl rfl (by (try simp only [List.map_toArray,List.map_cons,List.map_nil]);first|done|rfl|(simp only [List.length_drop,List.length_take];rfl)) ?_
         with_reducible refine (table_size.calls a0_0 _ _ l0_1 _ _ l0_2 _ _ l0_3 a0_4 a0_5 _ _ l0_6 _ _ l0_7 _ _ l0_8 _ _ l0_9 _ _ l0_10 a1 t248 _ ?side1 ?side2 ?side3 ?side4 ?side5 ?side6 ?side7 ?side8 ?side9 ?side10 ?side11 ?side12 ?side13 ?side14 ?side15 ?side16 A21.out).mono ?_
         (case side1=>exact cV (Kd.C_below HR0_1.out HB.out))
         (case side2=>exact HC0_1.out)
         (case side3=>exact cV (Kd.C_below HR0_2.out HB.out))
         (case side4=>exact HC0_2.out)
         (case side5=>exact cV (Kd.C_below HR0_3.out HB.out))
         (case side6=>exact HC0_3.out)
         (case side7=>exact cV (Kd.C_below HR0_6.out HB.out))
         (case side8=>exact HC0_6.out)
         (case side9=>exact cV (Kd.C_below HR0_7.out HB.out))
         (case side10=>exact HC0_7.out)
         (case side11=>exact cV (Kd.C_below HR0_8.out HB.out))
         (case side12=>exact HC0_8.out)
         (case side13=>exact cV (Kd.C_below HR0_9.out HB.out))
         (case side14=>exact HC0_9.out)
         (case side15=>exact cV (Kd.C_below HR0_10.out HB.out))
         (case side16=>exact HC0_10.out)
         rintro e w28 ⟨rfl,hb⟩
         refine ⟨_,rfl,?_⟩
         have n0_:=Aside0.mk (blk_below (g:=gb242) (blkV BK242.out) hb)
         have n1_:=Aside0.mk (blk_below (g:=gb243) (blkV BK243.out) hb)
         have n2_:=Aside0.mk (blk_below (g:=gb249) (blkV BK249.out) hb)
         have n3_:=Aside0.mk (below_step (belV3 HB.out GE242.out GE243.out GE249.out) hb);clear BK242;clear BK243;clear BK249;clear HB;have BK242:=n0_;have BK243:=n1_;have BK249:=n2_;have HB:=n3_;clear n0_ n1_ n2_ n3_
         (try clear hb)
         (try clear hb2)
         (try clear hk)
         (try clear hi)
         refine hK.out _ _ ⟨(blk_cell BK242.out 0).trans rfl,(blk_cell BK242.out 1).trans rfl,(blk_cell BK242.out 2).trans rfl,(blk_cell BK242.out 3).trans rfl,(blk_cell BK242.out 4).trans rfl,(blk_cell BK242.out 5).trans rfl,(blk_cell BK242.out 6).trans rfl,(blk_cell BK242.out 7).trans rfl,(blk_cell BK242.out 8).trans rfl,(blk_cell BK242.out 9).trans rfl,(blk_cell BK242.out 10).trans rfl⟩ (fun hHeld=>?_);clear hK K
         refine norm_ (a':=?_) ?_ ?_;rotate_left
         · show Act.put _ (some 42) _=_
           simp only [Act.put,List.setIfInBounds_toArray,List.set_cons_zero,List.set_cons_succ,i64_w,i32_w];rfl
         refine pure_ (i:=16) (N:=some 45) (v:=?_) (a':=?_) ((bm true [18,1]).toArray) rfl rfl (any_of HT_.out (by kernel_rfl)) (fun _ _ _ h=>h) (Or.inl ⟨by rfl,?_⟩) ?_ ?_;rotate_left
         · intro w';go_simp;with_reducible rfl
         rotate_left
         · simp only [Act.put,List.setIfInBounds_toArray,List.set_cons_zero,List.set_cons_succ,i64_w,i32_w];rfl
         exact norm_ (by simp only [putAll,Act.put,List.setIfInBounds_toArray,List.set_cons_zero,List.set_cons_succ]) (hCont (gb249) _ ⟨hHeld,(blkV BK242.out),(blkV BK243.out),(blkV BK249.out),GW249.out,GE249.out,NB242_249.out,NB249_242.out,NB243_249.out,NB249_243.out,(belV3 HB.out GE242.out GE243.out GE249.out)⟩)
       skip
       refine box_step ?hg (N:=7) ?hd (cs:=#[.int .i64 0,.int .i64 0,.int .i64 0,.int .i64 0,.int .i64 0,.int .i64 0,.bool false,.slice none 0 0]) (t:=48) ?hr ?_;(case hd=>rfl);(case hg=>rfl);(case hr=>first|(go_simp;done)|(go_simp;rfl))
       intro gb249 hg w25 hbox hb
       have n0_:=Aside0.mk (blk_below (g:=gb242) (blkV BK242.out) hb)
       have n1_:=Aside0.mk (blk_below (g:=gb243) (blkV BK243.out) hb)
       have n2_:=Aside0.mk (below_step (belV2 HB.out GE242.out GE243.out) hb)
       have n3_:=Aside0.mk (hbox)
       have n4_:=Aside0.mk ((by rw [hg];exact (below_size (belV2 HB.out GE242.out GE243.out)):w.heap.size≤gb249))
       have n5_:=Aside0.mk ((by rw [hg];exact (below_size (belV2 HB.out GE242.out GE243.out)):w.heap.size≤gb249))
       have n6_:=Aside0.mk ((by rw [hg];exact Nat.ne_of_lt (blk_lt (g:=gb242) (blkV BK242.out)):gb242≠gb249))
       have n7_:=Aside0.mk ((by rw [hg];exact Nat.ne_of_gt (blk_lt (g:=gb242) (blkV BK242.out)):gb249≠gb242))
       have n8_:=Aside0.mk ((by rw [hg];exact Nat.ne_of_lt (blk_lt (g:=gb243) (blkV BK243.out)):gb243≠gb249))
       have n9_:=Aside0.mk ((by rw [hg];exact Nat.ne_of_gt (blk_lt (g:=gb243) (blkV BK243.out)):gb249≠gb243));clear BK242;clear BK243;clear HB;have BK242:=n0_;have BK243:=n1_;have HB:=n2_;have BK249:=n3_
       have GW249:=n4_
       have GE249:=n5_
       have NB242_249:=n6_
       have NB249_242:=n7_
       have NB243_249:=n8_
       have NB249_243:=n9_;clear n0_ n1_ n2_ n3_ n4_ n5_ n6_ n7_ n8_ n9_;clear hb hbox hg
       refine hK.out _ _ ⟨(blk_cell BK242.out 0).trans rfl,(blk_cell BK242.out 1).trans rfl,(blk_cell BK242.out 2).trans rfl,(blk_cell BK242.out 3).trans rfl,(blk_cell BK242.out 4).trans rfl,(blk_cell BK242.out 5).trans rfl,(blk_cell BK242.out 6).trans rfl,(blk_cell BK242.out 7).trans rfl,(blk_cell BK242.out 8).trans rfl,(blk_cell BK242.out 9).trans rfl,(blk_cell BK242.out 10).trans rfl⟩ (fun hHeld=>?_);clear hK K
       refine norm_ (a':=?_) ?_ ?_;rotate_left
       · show Act.put _ (some 7) _=_
         simp only [Act.put,List.setIfInBounds_toArray,List.set_cons_zero,List.set_cons_succ,i64_w,i32_w];rfl
       refine one_ (i:=5) (N:=some 34) ((bm true [6,1,3,1,2,1,2,1,1,1]).toArray) rfl rfl (one_of HT_.out (by kernel_rfl)) (by decide) (fun K hK=>?_)
       refine goes_ Try.func72 (by kernel_rfl) rfl #[.slice A0_1 l0_1.length c0_1,.int .i64 a1] (by rfl) rfl rfl (by (try simp only [List.map_toArray,List.map_cons,List.map_nil]);first|done|rfl|(simp only [List.length_drop,List.length_take];rfl)) ?_
       with_reducible refine (table_before.calls kj4 _ _ l0_1 a1 t246 _ ?side1 ?side2 A19.out).mono ?_
       (case side1=>exact cV (Kd.C_below HR0_1.out HB.out))
       (case side2=>exact HC0_1.out)
       rintro e w26 ⟨rfl,hb⟩
       refine ⟨_,rfl,?_⟩
       have n0_:=Aside0.mk (blk_below (g:=gb242) (blkV BK242.out) hb)
       have n1_:=Aside0.mk (blk_below (g:=gb243) (blkV BK243.out) hb)
       have n2_:=Aside0.mk (blk_below (g:=gb249) (blkV BK249.out) hb)
       have n3_:=Aside0.mk (below_step (belV3 HB.out GE242.out GE243.out GE249.out) hb);clear BK242;clear BK243;clear BK249;clear HB;have BK242:=n0_;have BK243:=n1_;have BK249:=n2_;have HB:=n3_;clear n0_ n1_ n2_ n3_
       (try clear hb)
       (try clear hb2)
       (try clear hk)
       (try clear hi)
       refine hK.out _ _ ⟨(blk_cell BK242.out 0).trans rfl,(blk_cell BK242.out 1).trans rfl,(blk_cell BK242.out 2).trans rfl,(blk_cell BK242.out 3).trans rfl,(blk_cell BK242.out 4).trans rfl,(blk_cell BK242.out 5).trans rfl,(blk_cell BK242.out 6).trans rfl,(blk_cell BK242.out 7).trans rfl,(blk_cell BK242.out 8).trans rfl,(blk_cell BK242.out 9).trans rfl,(blk_cell BK242.out 10).trans rfl⟩ (fun hHeld=>?_);clear hK K
       refine norm_ (a':=?_) ?_ ?_;rotate_left
       · show Act.put _ (some 34) _=_
         simp only [Act.put,List.setIfInBounds_toArray,List.set_cons_zero,List.set_cons_succ,i64_w,i32_w];rfl
       refine pure_ (i:=6) (N:=some 35) (v:=?_) (a':=?_) ((bm true [10,1,2,1,2,1,1,1]).toArray) rfl rfl (any_of HT_.out (by kernel_rfl)) (fun _ _ _ h=>h) (Or.inl ⟨by rfl,?_⟩) ?_ ?_;rotate_left
       · intro w';go_simp;with_reducible rfl
       rotate_left
       · simp only [Act.put,List.setIfInBounds_toArray,List.set_cons_zero,List.set_cons_succ,i64_w,i32_w];rfl
       refine one_ (i:=10) (N:=some 39) ((bm true [13,1,2,1,1,1]).toArray) rfl rfl (one_of HT_.out (by kernel_rfl)) (by decide) (fun K hK=>?_)
       refine goes_ Try.func73 (by kernel_rfl) rfl #[.slice A0_1 l0_1.length c0_1,.int .i64 a1] (by rfl) rfl rfl (by (try simp only [List.map_toArray,List.map_cons,List.map_nil]);first|done|rfl|(simp only [List.length_drop,List.length_take];rfl)) ?_
       with_reducible refine (table_value.calls kj4 _ _ l0_1 a1 t247 _ ?side1 ?side2 A20.out).mono ?_
       (case side1=>exact cV (Kd.C_below HR0_1.out HB.out))
       (case side2=>exact HC0_1.out)
       rintro e w27 ⟨rfl,hb⟩
       refine ⟨_,rfl,?_⟩
       have n0_:=Aside0.mk (blk_below (g:=gb242) (blkV BK242.out) hb)
       have n1_:=Aside0.mk (blk_below (g:=gb243) (blkV BK243.out) hb)
       have n2_:=Aside0.mk (blk_below (g:=gb249) (blkV BK249.out) hb)
       have n3_:=Aside0.mk (below_step (belV3 HB.out GE242.out GE243.out GE249.out) hb);clear BK242;clear BK243;clear BK249;clear HB;have BK242:=n0_;have BK243:=n1_;have BK249:=n2_;have HB:=n3_;clear n0_ n1_ n2_ n3_
       (try clear hb)
       (try clear hb2)
       (try clear hk)
       (try clear hi)
       refine hK.out _ _ ⟨(blk_cell BK242.out 0).trans rfl,(blk_cell BK242.out 1).trans rfl,(blk_cell BK242.out 2).trans rfl,(blk_cell BK242.out 3).trans rfl,(blk_cell BK242.out 4).trans rfl,(blk_cell BK242.out 5).trans rfl,(blk_cell BK242.out 6).trans rfl,(blk_cell BK242.out 7).trans rfl,(blk_cell BK242.out 8).trans rfl,(blk_cell BK242.out 9).trans rfl,(blk_cell BK242.out 10).trans rfl⟩ (fun hHeld=>?_);clear hK K
       refine norm_ (a':=?_) ?_ ?_;rotate_left
       · show Act.put _ (some 39) _=_
         simp only [Act.put,List.setIfInBounds_toArray,List.set_cons_zero,List.set_cons_succ,i64_w,i32_w];rfl
       refine one_ (i:=13) (N:=some 42) ((bm true [16,1,1,1]).toArray) rfl rfl (one_of HT_.out (by kernel_rfl)) (by decide) (fun K hK=>?_)
       refine goes_ Try.func74 (by kernel_rfl) rfl #[.agg #[.int .i64 a0_0,.slice A0_1 l0_1.length c0_1,.slice A0_2 l0_2.length c0_2,.slice A0_3 l0_3.length c0_3,.bool a0_4,.int .i64 a0_5,.slice A0_6 l0_6.length c0_6,.slice A0_7 l0_7.length c0_7,.slice A0_8 l0_8.length c0_8,.slice A0_9 l0_9.length c0_9,.slice A0_10 l0_10.length c0_10],.int .i64 a1] (by rfl) rfl rfl (by (try simp only [List.map_toArray,List.map_cons,List.map_nil]);first|done|rfl|(simp only [List.length_drop,List.length_take];rfl)) ?_
       with_reducible refine (table_size.calls a0_0 _ _ l0_1 _ _ l0_2 _ _ l0_3 a0_4 a0_5 _ _ l0_6 _ _ l0_7 _ _ l0_8 _ _ l0_9 _ _ l0_10 a1 t248 _ ?side1 ?side2 ?side3 ?side4 ?side5 ?side6 ?side7 ?side8 ?side9 ?side10 ?side11 ?side12 ?side13 ?side14 ?side15 ?side16 A21.out).mono ?_
       (case side1=>exact cV (Kd.C_below HR0_1.out HB.out))
       (case side2=>exact HC0_1.out)
       (case side3=>exact cV (Kd.C_below HR0_2.out HB.out))
       (case side4=>exact HC0_2.out)
       (case side5=>exact cV (Kd.C_below HR0_3.out HB.out))
       (case side6=>exact HC0_3.out)
       (case side7=>exact cV (Kd.C_below HR0_6.out HB.out))
       (case side8=>exact HC0_6.out)
       (case side9=>exact cV (Kd.C_below HR0_7.out HB.out))
       (case side10=>exact HC0_7.out)
       (case side11=>exact cV (Kd.C_below HR0_8.out HB.out))
       (case side12=>exact HC0_8.out)
       (case side13=>exact cV (Kd.C_below HR0_9.out HB.out))
       (case side14=>exact HC0_9.out)
       (case side15=>exact cV (Kd.C_below HR0_10.out HB.out))
       (case side16=>exact HC0_10.out)
       rintro e w28 ⟨rfl,hb⟩
       refine ⟨_,rfl,?_⟩
       have n0_:=Aside0.mk (blk_below (g:=gb242) (blkV BK242.out) hb)
       have n1_:=Aside0.mk (blk_below (g:=gb243) (blkV BK243.out) hb)
       have n2_:=Aside0.mk (blk_below (g:=gb249) (blkV BK249.out) hb)
       have n3_:=Aside0.mk (below_step (belV3 HB.out GE242.out GE243.out GE249.out) hb);clear BK242;clear BK243;clear BK249;clear HB;have BK242:=n0_;have BK243:=n1_;have BK249:=n2_;have HB:=n3_;clear n0_ n1_ n2_ n3_
       (try clear hb)
       (try clear hb2)
       (try clear hk)
       (try clear hi)
       refine hK.out _ _ ⟨(blk_cell BK242.out 0).trans rfl,(blk_cell BK242.out 1).trans rfl,(blk_cell BK242.out 2).trans rfl,(blk_cell BK242.out 3).trans rfl,(blk_cell BK242.out 4).trans rfl,(blk_cell BK242.out 5).trans rfl,(blk_cell BK242.out 6).trans rfl,(blk_cell BK242.out 7).trans rfl,(blk_cell BK242.out 8).trans rfl,(blk_cell BK242.out 9).trans rfl,(blk_cell BK242.out 10).trans rfl⟩ (fun hHeld=>?_);clear hK K
       refine norm_ (a':=?_) ?_ ?_;rotate_left
       · show Act.put _ (some 42) _=_
         simp only [Act.put,List.setIfInBounds_toArray,List.set_cons_zero,List.set_cons_succ,i64_w,i32_w];rfl
       refine pure_ (i:=16) (N:=some 45) (v:=?_) (a':=?_) ((bm true [18,1]).toArray) rfl rfl (any_of HT_.out (by kernel_rfl)) (fun _ _ _ h=>h) (Or.inl ⟨by rfl,?_⟩) ?_ ?_;rotate_left
       · intro w';go_simp;with_reducible rfl
       rotate_left
       · simp only [Act.put,List.setIfInBounds_toArray,List.set_cons_zero,List.set_cons_succ,i64_w,i32_w];rfl
       exact norm_ (by simp only [putAll,Act.put,List.setIfInBounds_toArray,List.set_cons_zero,List.set_cons_succ]) (hCont (gb249) _ ⟨hHeld,(blkV BK242.out),(blkV BK243.out),(blkV BK249.out),GW249.out,GE249.out,NB242_249.out,NB249_242.out,NB243_249.out,NB249_243.out,(belV3 HB.out GE242.out GE243.out GE249.out)⟩)
     rintro gb249 w29 ⟨hS_,h0_,h1_,h2_,h3_,h4_,h5_,h6_,h7_,h8_,h9_⟩
     have n0_:Aside0 (w29.heap[gb242]?=some (.cells #[.int .i64 a0_0,.slice A0_1 l0_1.length c0_1,.slice A0_2 l0_2.length c0_2,.slice A0_3 l0_3.length c0_3,.bool a0_4,.int .i64 a0_5,.slice A0_6 l0_6.length c0_6,.slice A0_7 l0_7.length c0_7,.slice A0_8 l0_8.length c0_8,.slice A0_9 l0_9.length c0_9,.slice A0_10 l0_10.length c0_10] 27 (0,0))):=⟨h0_⟩
     have n1_:Aside0 (w29.heap[gb243]?=some (.cells #[.int .i64 0,.int .i64 0,.int .i64 0,.int .i64 0,.int .i64 0,.int .i64 0,.bool false,.slice none 0 0] 48 (0,0))):=⟨h1_⟩
     have n2_:Aside0 (w29.heap[gb249]?=some (.cells #[.int .i64 0,.int .i64 0,.int .i64 0,.int .i64 0,.int .i64 0,.int .i64 0,.bool false,.slice none 0 0] 48 (0,0))):=⟨h2_⟩
     have n3_:Aside0 (w.heap.size≤gb249):=⟨h3_⟩
     have n4_:Aside0 (w.heap.size≤gb249):=⟨h4_⟩
     have n5_:Aside0 (gb242≠gb249):=⟨h5_⟩
     have n6_:Aside0 (gb249≠gb242):=⟨h6_⟩
     have n7_:Aside0 (gb243≠gb249):=⟨h7_⟩
     have n8_:Aside0 (gb249≠gb243):=⟨h8_⟩
     have n9_:Aside0 (Below w.heap.size w w29):=⟨h9_⟩;clear BK242;clear BK243;clear HB;clear h0_ h1_ h2_ h3_ h4_ h5_ h6_ h7_ h8_ h9_;have BK242:=n0_;have BK243:=n1_;have BK249:=n2_
     have GW249:=n3_
     have GE249:=n4_
     have NB242_249:=n5_
     have NB249_242:=n6_
     have NB243_249:=n7_
     have NB249_243:=n8_;have HB:=n9_;clear n0_ n1_ n2_ n3_ n4_ n5_ n6_ n7_ n8_ n9_
     have hHeld:w29.cell? ⟨gb242,0,none⟩=some (.int .i64 a0_0)∧w29.cell? ⟨gb242,1,none⟩=some (.slice A0_1 l0_1.length c0_1)∧w29.cell? ⟨gb242,2,none⟩=some (.slice A0_2 l0_2.length c0_2)∧w29.cell? ⟨gb242,3,none⟩=some (.slice A0_3 l0_3.length c0_3)∧w29.cell? ⟨gb242,4,none⟩=some (.bool a0_4)∧w29.cell? ⟨gb242,5,none⟩=some (.int .i64 a0_5)∧w29.cell? ⟨gb242,6,none⟩=some (.slice A0_6 l0_6.length c0_6)∧w29.cell? ⟨gb242,7,none⟩=some (.slice A0_7 l0_7.length c0_7)∧w29.cell? ⟨gb242,8,none⟩=some (.slice A0_8 l0_8.length c0_8)∧w29.cell? ⟨gb242,9,none⟩=some (.slice A0_9 l0_9.length c0_9)∧w29.cell? ⟨gb242,10,none⟩=some (.slice A0_10 l0_10.length c0_10):=hS_
     refine norm_ (a':=?_) ?_ ?_;rotate_left
     · simp only [putAll,Act.put,List.setIfInBounds_toArray,List.set_cons_zero,List.set_cons_succ];rfl
     refine one_ (i:=18) (N:=none) ((bm true [19]).toArray) rfl rfl (one_of HT_.out (by kernel_rfl)) (by decide) (fun K hK=>?_)
     have hs30:w29.cell? ⟨gb249,0,none⟩=some (.int .i64 0):=(blk_cell BK249.out 0).trans rfl
     have hfs30:=blk_frozen BK249.out 0
     have hns30_0:=NB242_249.out
     have hns30_1:=NB243_249.out
     have hms30_0:=NB249_242.out
     have hms30_1:=NB249_243.out
     have hs31:w29.cell? ⟨gb249,1,none⟩=some (.int .i64 0):=(blk_cell BK249.out 1).trans rfl
     have hfs31:=blk_frozen BK249.out 1
     have hns31_0:=NB242_249.out
     have hns31_1:=NB243_249.out
     have hms31_0:=NB249_242.out
     have hms31_1:=NB249_243.out
     have hs32:w29.cell? ⟨gb249,2,none⟩=some (.int .i64 0):=(blk_cell BK249.out 2).trans rfl
     have hfs32:=blk_frozen BK249.out 2
     have hns32_0:=NB242_249.out
     have hns32_1:=NB243_249.out
     have hms32_0:=NB249_242.out
     have hms32_1:=NB249_243.out
     have hs33:w29.cell? ⟨gb249,3,none⟩=some (.int .i64 0):=(blk_cell BK249.out 3).trans rfl
     have hfs33:=blk_frozen BK249.out 3
     have hns33_0:=NB242_249.out
     have hns33_1:=NB243_249.out
     have hms33_0:=NB249_242.out
     have hms33_1:=NB249_243.out
     have hs34:w29.cell? ⟨gb249,4,none⟩=some (.int .i64 0):=(blk_cell BK249.out 4).trans rfl
     have hfs34:=blk_frozen BK249.out 4
     have hns34_0:=NB242_249.out
     have hns34_1:=NB243_249.out
     have hms34_0:=NB249_242.out
     have hms34_1:=NB249_243.out
     have hs35:w29.cell? ⟨gb249,5,none⟩=some (.int .i64 0):=(blk_cell BK249.out 5).trans rfl
     have hfs35:=blk_frozen BK249.out 5
     have hns35_0:=NB242_249.out
     have hns35_1:=NB243_249.out
     have hms35_0:=NB249_242.out
     have hms35_1:=NB249_243.out
     have hs36:w29.cell? ⟨gb249,6,none⟩=some (.bool false):=(blk_cell BK249.out 6).trans rfl
     have hfs36:=blk_frozen BK249.out 6
     have hns36_0:=NB242_249.out
     have hns36_1:=NB243_249.out
     have hms36_0:=NB249_242.out
     have hms36_1:=NB249_243.out
     have hs37:w29.cell? ⟨gb249,7,none⟩=some (.slice none 0 0):=(blk_cell BK249.out 7).trans rfl
     have hfs37:=blk_frozen BK249.out 7
     have hns37_0:=NB242_249.out
     have hns37_1:=NB243_249.out
     have hms37_0:=NB249_242.out
     have hms37_1:=NB249_243.out
     refine skip_ (w1:=?_) (by rfl) rfl ?_ ?_;rotate_left
     · go_simp;rfl
     refine hK.out _ _ ⟨((Go.Proofs.YtmbhafgnmdfjhaaW.PrintWords.cell_far (p:=⟨gb249,_,none⟩) NB242_249.out _).trans (((Go.Proofs.YtmbhafgnmdfjhaaW.PrintWords.cell_far (p:=⟨gb249,_,none⟩) NB242_249.out _).trans (((Go.Proofs.YtmbhafgnmdfjhaaW.PrintWords.cell_far (p:=⟨gb249,_,none⟩) NB242_249.out _).trans (((Go.Proofs.YtmbhafgnmdfjhaaW.PrintWords.cell_far (p:=⟨gb249,_,none⟩) NB242_249.out _).trans (((Go.Proofs.YtmbhafgnmdfjhaaW.PrintWords.cell_far (p:=⟨gb249,_,none⟩) NB242_249.out _).trans (((Go.Proofs.YtmbhafgnmdfjhaaW.PrintWords.cell_far (p:=⟨gb249,_,none⟩) NB242_249.out _).trans (((Go.Proofs.YtmbhafgnmdfjhaaW.PrintWords.cell_far (p:=⟨gb249,_,none⟩) NB242_249.out _).trans (((Go.Proofs.YtmbhafgnmdfjhaaW.PrintWords.cell_far (p:=⟨gb249,_,none⟩) NB242_249.out _).trans (hHeld.1)))))))))))))))),((Go.Proofs.YtmbhafgnmdfjhaaW.PrintWords.cell_far (p:=⟨gb249,_,none⟩) NB242_249.out _).trans (((Go.Proofs.YtmbhafgnmdfjhaaW.PrintWords.cell_far (p:=⟨gb249,_,none⟩) NB242_249.out _).trans (((Go.Proofs.YtmbhafgnmdfjhaaW.PrintWords.cell_far (p:=⟨gb249,_,none⟩) NB242_249.out _).trans (((Go.Proofs.YtmbhafgnmdfjhaaW.PrintWords.cell_far (p:=⟨gb249,_,none⟩) NB242_249.out _).trans (((Go.Proofs.YtmbhafgnmdfjhaaW.PrintWords.cell_far (p:=⟨gb249,_,none⟩) NB242_249.out _).trans (((Go.Proofs.YtmbhafgnmdfjhaaW.PrintWords.cell_far (p:=⟨gb249,_,none⟩) NB242_249.out _).trans (((Go.Proofs.YtmbhafgnmdfjhaaW.PrintWords.cell_far (p:=⟨gb249,_,none⟩) NB242_249.out _).trans (((Go.Proofs.YtmbhafgnmdfjhaaW.PrintWords.cell_far (p:=⟨gb249,_,none⟩) NB242_249.out _).trans (hHeld.2.1)))))))))))))))),((Go.Proofs.YtmbhafgnmdfjhaaW.PrintWords.cell_far (p:=⟨gb249,_,none⟩) NB242_249.out _).trans (((Go.Proofs.YtmbhafgnmdfjhaaW.PrintWords.cell_far (p:=⟨gb249,_,none⟩) NB242_249.out _).trans (((Go.Proofs.YtmbhafgnmdfjhaaW.PrintWords.cell_far (p:=⟨gb249,_,none⟩) NB242_249.out _).trans (((Go.Proofs.YtmbhafgnmdfjhaaW.PrintWords.cell_far (p:=⟨gb249,_,none⟩) NB242_249.out _).trans (((Go.Proofs.YtmbhafgnmdfjhaaW.PrintWords.cell_far (p:=⟨gb249,_,none⟩) NB242_249.out _).trans (((Go.Proofs.YtmbhafgnmdfjhaaW.PrintWords.cell_far (p:=⟨gb249,_,none⟩) NB242_249.out _).trans (((Go.Proofs.YtmbhafgnmdfjhaaW.PrintWords.cell_far (p:=⟨gb249,_,none⟩) NB242_249.out _).trans (((Go.Proofs.YtmbhafgnmdfjhaaW.PrintWords.cell_far (p:=⟨gb249,_,none⟩) NB242_249.out _).trans (hHeld.2.2.1)))))))))))))))),((Go.Proofs.YtmbhafgnmdfjhaaW.PrintWords.cell_far (p:=⟨gb249,_,none⟩) NB242_249.out _).trans (((Go.Proofs.YtmbhafgnmdfjhaaW.PrintWords.cell_far (p:=⟨gb249,_,none⟩) NB242_249.out _).trans (((Go.Proofs.YtmbhafgnmdfjhaaW.PrintWords.cell_far (p:=⟨gb249,_,none⟩) NB242_249.out _).trans (((Go.Proofs.YtmbhafgnmdfjhaaW.PrintWords.cell_far (p:=⟨gb249,_,none⟩) NB242_249.out _).trans (((Go.Proofs.YtmbhafgnmdfjhaaW.PrintWords.cell_far (p:=⟨gb249,_,none⟩) NB242_249.out _).trans (((Go.Proofs.YtmbhafgnmdfjhaaW.PrintWords.cell_far (p:=⟨gb249,_,none⟩) NB242_249.out _).trans (((Go.Proofs.YtmbhafgnmdfjhaaW.PrintWords.cell_far (p:=⟨gb249,_,none⟩) NB242_249.out _).trans (((Go.Proofs.YtmbhafgnmdfjhaaW.PrintWords.cell_far (p:=⟨gb249,_,none⟩) NB242_249.out _).trans (hHeld.2.2.2.1)))))))))))))))),((Go.Proofs.YtmbhafgnmdfjhaaW.PrintWords.cell_far (p:=⟨gb249,_,none⟩) NB242_249.out _).trans (((Go.Proofs.YtmbhafgnmdfjhaaW.PrintWords.cell_far (p:=⟨gb249,_,none⟩) NB242_249.out _).trans (((Go.Proofs.YtmbhafgnmdfjhaaW.PrintWords.cell_far (p:=⟨gb249,_,none⟩) NB242_249.out _).trans (((Go.Proofs.YtmbhafgnmdfjhaaW.PrintWords.cell_far (p:=⟨gb249,_,none⟩) NB242_249.out _).trans (((Go.Proofs.YtmbhafgnmdfjhaaW.PrintWords.cell_far (p:=⟨gb249,_,none⟩) NB242_249.out _).trans (((Go.Proofs.YtmbhafgnmdfjhaaW.PrintWords.cell_far (p:=⟨gb249,_,none⟩) NB242_249.out _).trans (((Go.Proofs.YtmbhafgnmdfjhaaW.PrintWords.cell_far (p:=⟨gb249,_,none⟩) NB242_249.out _).trans (((Go.Proofs.YtmbhafgnmdfjhaaW.PrintWords.cell_far (p:=⟨gb249,_,none⟩) NB242_249.out _).trans (hHeld.2.2.2.2.1)))))))))))))))),((Go.Proofs.YtmbhafgnmdfjhaaW.PrintWords.cell_far (p:=⟨gb249,_,none⟩) NB242_249.out _).trans (((Go.Proofs.YtmbhafgnmdfjhaaW.PrintWords.cell_far (p:=⟨gb249,_,none⟩) NB242_249.out _).trans (((Go.Proofs.YtmbhafgnmdfjhaaW.PrintWords.cell_far (p:=⟨gb249,_,none⟩) NB242_249.out _).trans (((Go.Proofs.YtmbhafgnmdfjhaaW.PrintWords.cell_far (p:=⟨gb249,_,none⟩) NB242_249.out _).trans (((Go.Proofs.YtmbhafgnmdfjhaaW.PrintWords.cell_far (p:=⟨gb249,_,none⟩) NB242_249.out _).trans (((Go.Proofs.YtmbhafgnmdfjhaaW.PrintWords.cell_far (p:=⟨gb249,_,none⟩) NB242_249.out _).trans (((Go.Proofs.YtmbhafgnmdfjhaaW.PrintWords.cell_far (p:=⟨gb249,_,none⟩) NB242_249.out _).trans (((Go.Proofs.YtmbhafgnmdfjhaaW.PrintWords.cell_far (p:=⟨gb249,_,none⟩) NB242_249.out _).trans (hHeld.2.2.2.2.2.1)))))))))))))))),((Go.Proofs.YtmbhafgnmdfjhaaW.PrintWords.cell_far (p:=⟨gb249,_,none⟩) NB242_249.out _).trans (((Go.Proofs.YtmbhafgnmdfjhaaW.PrintWords.cell_far (p:=⟨gb249,_,none⟩) NB242_249.out _).trans (((Go.Proofs.YtmbhafgnmdfjhaaW.PrintWords.cell_far (p:=⟨gb249,_,none⟩) NB242_249.out _).trans (((Go.Proofs.YtmbhafgnmdfjhaaW.PrintWords.cell_far (p:=⟨gb249,_,none⟩) NB242_249.out _).trans (((Go.Proofs.YtmbhafgnmdfjhaaW.PrintWords.cell_far (p:=⟨gb249,_,none⟩) NB242_249.out _).trans (((Go.Proofs.YtmbhafgnmdfjhaaW.PrintWords.cell_far (p:=⟨gb249,_,none⟩) NB242_249.out _).trans (((Go.Proofs.YtmbhafgnmdfjhaaW.PrintWords.cell_far (p:=⟨gb249,_,none⟩) NB242_249.out _).trans (((Go.Proofs.YtmbhafgnmdfjhaaW.PrintWords.cell_far (p:=⟨gb249,_,none⟩) NB242_249.out _).trans (hHeld.2.2.2.2.2.2.1)))))))))))))))),((Go.Proofs.YtmbhafgnmdfjhaaW.PrintWords.cell_far (p:=⟨gb249,_,none⟩) NB242_249.out _).trans (((Go.Proofs.YtmbhafgnmdfjhaaW.PrintWords.cell_far (p:=⟨gb249,_,none⟩) NB242_249.out _).trans (((Go.Proofs.YtmbhafgnmdfjhaaW.PrintWords.cell_far (p:=⟨gb249,_,none⟩) NB242_249.out _).trans (((Go.Proofs.YtmbhafgnmdfjhaaW.PrintWords.cell_far (p:=⟨gb249,_,none⟩) NB242_249.out _).trans (((Go.Proofs.YtmbhafgnmdfjhaaW.PrintWords.cell_far (p:=⟨gb249,_,none⟩) NB242_249.out _).trans (((Go.Proofs.YtmbhafgnmdfjhaaW.PrintWords.cell_far (p:=⟨gb249,_,none⟩) NB242_249.out _).trans (((Go.Proofs.YtmbhafgnmdfjhaaW.PrintWords.cell_far (p:=⟨gb249,_,none⟩) NB242_249.out _).trans (((Go.Proofs.YtmbhafgnmdfjhaaW.PrintWords.cell_far (p:=⟨gb249,_,none⟩) NB242_249.out _).trans (hHeld.2.2.2.2.2.2.2.1)))))))))))))))),((Go.Proofs.YtmbhafgnmdfjhaaW.PrintWords.cell_far (p:=⟨gb249,_,none⟩) NB242_249.out _).trans (((Go.Proofs.YtmbhafgnmdfjhaaW.PrintWords.cell_far (p:=⟨gb249,_,none⟩) NB242_249.out _).trans (((Go.Proofs.YtmbhafgnmdfjhaaW.PrintWords.cell_far (p:=⟨gb249,_,none⟩) NB242_249.out _).trans (((Go.Proofs.YtmbhafgnmdfjhaaW.PrintWords.cell_far (p:=⟨gb249,_,none⟩) NB242_249.out _).trans (((Go.Proofs.YtmbhafgnmdfjhaaW.PrintWords.cell_far (p:=⟨gb249,_,none⟩) NB242_249.out _).trans (((Go.Proofs.YtmbhafgnmdfjhaaW.PrintWords.cell_far (p:=⟨gb249,_,none⟩) NB242_249.out _).trans (((Go.Proofs.YtmbhafgnmdfjhaaW.PrintWords.cell_far (p:=⟨gb249,_,none⟩) NB242_249.out _).trans (((Go.Proofs.YtmbhafgnmdfjhaaW.PrintWords.cell_far (p:=⟨gb249,_,none⟩) NB242_249.out _).trans (hHeld.2.2.2.2.2.2.2.2.1)))))))))))))))),((Go.Proofs.YtmbhafgnmdfjhaaW.PrintWords.cell_far (p:=⟨gb249,_,none⟩) NB242_249.out _).trans (((Go.Proofs.YtmbhafgnmdfjhaaW.PrintWords.cell_far (p:=⟨gb249,_,none⟩) NB242_249.out _).trans (((Go.Proofs.YtmbhafgnmdfjhaaW.PrintWords.cell_far (p:=⟨gb249,_,none⟩) NB242_249.out _).trans (((Go.Proofs.YtmbhafgnmdfjhaaW.PrintWords.cell_far (p:=⟨gb249,_,none⟩) NB242_249.out _).trans (((Go.Proofs.YtmbhafgnmdfjhaaW.PrintWords.cell_far (p:=⟨gb249,_,none⟩) NB242_249.out _).trans (((Go.Proofs.YtmbhafgnmdfjhaaW.PrintWords.cell_far (p:=⟨gb249,_,none⟩) NB242_249.out _).trans (((Go.Proofs.YtmbhafgnmdfjhaaW.PrintWords.cell_far (p:=⟨gb249,_,none⟩) NB242_249.out _).trans (((Go.Proofs.YtmbhafgnmdfjhaaW.PrintWords.cell_far (p:=⟨gb249,_,none⟩) NB242_249.out _).trans (hHeld.2.2.2.2.2.2.2.2.2.1)))))))))))))))),((Go.Proofs.YtmbhafgnmdfjhaaW.PrintWords.cell_far (p:=⟨gb249,_,none⟩) NB242_249.out _).trans (((Go.Proofs.YtmbhafgnmdfjhaaW.PrintWords.cell_far (p:=⟨gb249,_,none⟩) NB242_249.out _).trans (((Go.Proofs.YtmbhafgnmdfjhaaW.PrintWords.cell_far (p:=⟨gb249,_,none⟩) NB242_249.out _).trans (((Go.Proofs.YtmbhafgnmdfjhaaW.PrintWords.cell_far (p:=⟨gb249,_,none⟩) NB242_249.out _).trans (((Go.Proofs.YtmbhafgnmdfjhaaW.PrintWords.cell_far (p:=⟨gb249,_,none⟩) NB242_249.out _).trans (((Go.Proofs.YtmbhafgnmdfjhaaW.PrintWords.cell_far (p:=⟨gb249,_,none⟩) NB242_249.out _).trans (((Go.Proofs.YtmbhafgnmdfjhaaW.PrintWords.cell_far (p:=⟨gb249,_,none⟩) NB242_249.out _).trans (((Go.Proofs.YtmbhafgnmdfjhaaW.PrintWords.cell_far (p:=⟨gb249,_,none⟩) NB242_249.out _).trans (hHeld.2.2.2.2.2.2.2.2.2.2))))))))))))))))⟩ (fun hHeld=>?_)
     clear hK K
     refine done_ (done_of HT_.out (by kernel_rfl)) ?_
     try go_wp2_with fail
     have n0_:Aside0 (((((((((w29.setCell ⟨gb249,0,none⟩ (.int .i64 (wrap64 (a0_0+t246)))).setCell ⟨gb249,1,none⟩ (.int .i64 0)).setCell ⟨gb249,2,none⟩ (.int .i64 t247)).setCell ⟨gb249,3,none⟩ (.int .i64 t248)).setCell ⟨gb249,4,none⟩ (.int .i64 0)).setCell ⟨gb249,5,none⟩ (.int .i64 0)).setCell ⟨gb249,6,none⟩ (.bool a0_4)).setCell ⟨gb249,7,none⟩ (.slice none 0 0)).heap[gb242]?=some (.cells #[.int .i64 a0_0,.slice A0_1 l0_1.length c0_1,.slice A0_2 l0_2.length c0_2,.slice A0_3 l0_3.length c0_3,.bool a0_4,.int .i64 a0_5,.slice A0_6 l0_6.length c0_6,.slice A0_7 l0_7.length c0_7,.slice A0_8 l0_8.length c0_8,.slice A0_9 l0_9.length c0_9,.slice A0_10 l0_10.length c0_10] 27 (0,0))):=⟨blkW BK242.out NB242_249.out⟩
     have n1_:Aside0 (((((((((w29.setCell ⟨gb249,0,none⟩ (.int .i64 (wrap64 (a0_0+t246)))).setCell ⟨gb249,1,none⟩ (.int .i64 0)).setCell ⟨gb249,2,none⟩ (.int .i64 t247)).setCell ⟨gb249,3,none⟩ (.int .i64 t248)).setCell ⟨gb249,4,none⟩ (.int .i64 0)).setCell ⟨gb249,5,none⟩ (.int .i64 0)).setCell ⟨gb249,6,none⟩ (.bool a0_4)).setCell ⟨gb249,7,none⟩ (.slice none 0 0)).heap[gb243]?=some (.cells #[.int .i64 0,.int .i64 0,.int .i64 0,.int .i64 0,.int .i64 0,.int .i64 0,.bool false,.slice none 0 0] 48 (0,0))):=⟨blkW BK243.out NB243_249.out⟩
     have n2_:Aside0 (((((((((w29.setCell ⟨gb249,0,none⟩ (.int .i64 (wrap64 (a0_0+t246)))).setCell ⟨gb249,1,none⟩ (.int .i64 0)).setCell ⟨gb249,2,none⟩ (.int .i64 t247)).setCell ⟨gb249,3,none⟩ (.int .i64 t248)).setCell ⟨gb249,4,none⟩ (.int .i64 0)).setCell ⟨gb249,5,none⟩ (.int .i64 0)).setCell ⟨gb249,6,none⟩ (.bool a0_4)).setCell ⟨gb249,7,none⟩ (.slice none 0 0)).heap[gb249]?=some (.cells #[.int .i64 (wrap64 (a0_0+t246)),.int .i64 0,.int .i64 t247,.int .i64 t248,.int .i64 0,.int .i64 0,.bool a0_4,.slice none 0 0] 48 (0,0))):=⟨by (with_reducible repeat (first|refine blk_drewN ?_ _|refine blk_drew ?_|refine blk_alloc ?_ _));refine blk_put (cs:=#[.int .i64 (wrap64 (a0_0+t246)),.int .i64 0,.int .i64 t247,.int .i64 t248,.int .i64 0,.int .i64 0,.bool a0_4,.slice none 0 0]) ?_ 7 _ rfl;(with_reducible repeat (first|refine blk_drewN ?_ _|refine blk_drew ?_|refine blk_alloc ?_ _));refine blk_put (cs:=#[.int .i64 (wrap64 (a0_0+t246)),.int .i64 0,.int .i64 t247,.int .i64 t248,.int .i64 0,.int .i64 0,.bool false,.slice none 0 0]) ?_ 6 _ rfl;(with_reducible repeat (first|refine blk_drewN ?_ _|refine blk_drew ?_|refine blk_alloc ?_ _));refine blk_put (cs:=#[.int .i64 (wrap64 (a0_0+t246)),.int .i64 0,.int .i64 t247,.int .i64 t248,.int .i64 0,.int .i64 0,.bool false,.slice none 0 0]) ?_ 5 _ rfl;(with_reducible repeat (first|refine blk_drewN ?_ _|refine blk_drew ?_|refine blk_alloc ?_ _));refine blk_put (cs:=#[.int .i64 (wrap64 (a0_0+t246)),.int .i64 0,.int .i64 t247,.int .i64 t248,.int .i64 0,.int .i64 0,.bool false,.slice none 0 0]) ?_ 4 _ rfl;(with_reducible repeat (first|refine blk_drewN ?_ _|refine blk_drew ?_|refine blk_alloc ?_ _));refine blk_put (cs:=#[.int .i64 (wrap64 (a0_0+t246)),.int .i64 0,.int .i64 t247,.int .i64 0,.int .i64 0,.int .i64 0,.bool false,.slice none 0 0]) ?_ 3 _ rfl;(with_reducible repeat (first|refine blk_drewN ?_ _|refine blk_drew ?_|refine blk_alloc ?_ _));refine blk_put (cs:=#[.int .i64 (wrap64 (a0_0+t246)),.int .i64 0,.int .i64 0,.int .i64 0,.int .i64 0,.int .i64 0,.bool false,.slice none 0 0]) ?_ 2 _ rfl;(with_reducible repeat (first|refine blk_drewN ?_ _|refine blk_drew ?_|refine blk_alloc ?_ _));refine blk_put (cs:=#[.int .i64 (wrap64 (a0_0+t246)),.int .i64 0,.int .i64 0,.int .i64 0,.int .i64 0,.int .i64 0,.bool false,.slice none 0 0]) ?_ 1 _ rfl;(with_reducible repeat (first|refine blk_drewN ?_ _|refine blk_drew ?_|refine blk_alloc ?_ _));refine blk_put (cs:=#[.int .i64 0,.int .i64 0,.int .i64 0,.int .i64 0,.int .i64 0,.int .i64 0,.bool false,.slice none 0 0]) ?_ 0 _ rfl;(with_reducible repeat (first|refine blk_drewN ?_ _|refine blk_drew ?_|refine blk_alloc ?_ _));exact BK249.out⟩
     have n3_:Aside0 (Below w.heap.size w ((((((((w29.setCell ⟨gb249,0,none⟩ (.int .i64 (wrap64 (a0_0+t246)))).setCell ⟨gb249,1,none⟩ (.int .i64 0)).setCell ⟨gb249,2,none⟩ (.int .i64 t247)).setCell ⟨gb249,3,none⟩ (.int .i64 t248)).setCell ⟨gb249,4,none⟩ (.int .i64 0)).setCell ⟨gb249,5,none⟩ (.int .i64 0)).setCell ⟨gb249,6,none⟩ (.bool a0_4)).setCell ⟨gb249,7,none⟩ (.slice none 0 0))):=⟨belV3 HB.out GE242.out GE243.out GE249.out⟩
     (try clear BK242)
     (try clear BK243)
     (try clear BK249)
     (try clear HB)
     generalize ((((((((w29.setCell ⟨gb249,0,none⟩ (.int .i64 (wrap64 (a0_0+t246)))).setCell ⟨gb249,1,none⟩ (.int .i64 0)).setCell ⟨gb249,2,none⟩ (.int .i64 t247)).setCell ⟨gb249,3,none⟩ (.int .i64 t248)).setCell ⟨gb249,4,none⟩ (.int .i64 0)).setCell ⟨gb249,5,none⟩ (.int .i64 0)).setCell ⟨gb249,6,none⟩ (.bool a0_4)).setCell ⟨gb249,7,none⟩ (.slice none 0 0))=w38 at n0_ n1_ n2_ n3_ ⊢
     have BK242:=n0_;have BK243:=n1_;have BK249:=n2_;have HB:=n3_;clear n0_ n1_ n2_ n3_
     have n0_:=Aside0.mk (blk_drew BK242.out)
     have n1_:=Aside0.mk (blk_drew BK243.out)
     have n2_:=Aside0.mk (blk_drew BK249.out)
     have n3_:=Aside0.mk (below_drew1 HB.out);clear BK242;clear BK243;clear BK249;clear HB;have BK242:=n0_;have BK243:=n1_;have BK249:=n2_;have HB:=n3_;clear n0_ n1_ n2_ n3_
     refine start_ (n:=9) (S:=fun w'=>w'.cell? ⟨gb249,0,none⟩=some (.int .i64 (wrap64 (a0_0+t246)))∧w'.cell? ⟨gb249,1,none⟩=some (.int .i64 0)∧w'.cell? ⟨gb249,2,none⟩=some (.int .i64 t247)∧w'.cell? ⟨gb249,3,none⟩=some (.int .i64 t248)∧w'.cell? ⟨gb249,4,none⟩=some (.int .i64 0)∧w'.cell? ⟨gb249,5,none⟩=some (.int .i64 0)∧w'.cell? ⟨gb249,6,none⟩=some (.bool a0_4)∧w'.cell? ⟨gb249,7,none⟩=some (.slice none 0 0)∧w'.cell? ⟨gb242,0,none⟩=some (.int .i64 a0_0)∧w'.cell? ⟨gb242,1,none⟩=some (.slice A0_1 l0_1.length c0_1)∧w'.cell? ⟨gb242,2,none⟩=some (.slice A0_2 l0_2.length c0_2)∧w'.cell? ⟨gb242,3,none⟩=some (.slice A0_3 l0_3.length c0_3)∧w'.cell? ⟨gb242,4,none⟩=some (.bool a0_4)∧w'.cell? ⟨gb242,5,none⟩=some (.int .i64 a0_5)∧w'.cell? ⟨gb242,6,none⟩=some (.slice A0_6 l0_6.length c0_6)∧w'.cell? ⟨gb242,7,none⟩=some (.slice A0_7 l0_7.length c0_7)∧w'.cell? ⟨gb242,8,none⟩=some (.slice A0_8 l0_8.length c0_8)∧w'.cell? ⟨gb242,9,none⟩=some (.slice A0_9 l0_9.length c0_9)∧w'.cell? ⟨gb242,10,none⟩=some (.slice A0_10 l0_10.length c0_10)) (ds:=[8]) ((bm false [9]).toArray) (by kernel_rfl) rfl rfl ⟨(blk_cell BK249.out 0).trans rfl,(blk_cell BK249.out 1).trans rfl,(blk_cell BK249.out 2).trans rfl,(blk_cell BK249.out 3).trans rfl,(blk_cell BK249.out 4).trans rfl,(blk_cell BK249.out 5).trans rfl,(blk_cell BK249.out 6).trans rfl,(blk_cell BK249.out 7).trans rfl,(blk_cell BK242.out 0).trans rfl,(blk_cell BK242.out 1).trans rfl,(blk_cell BK242.out 2).trans rfl,(blk_cell BK242.out 3).trans rfl,(blk_cell BK242.out 4).trans rfl,(blk_cell BK242.out 5).trans rfl,(blk_cell BK242.out 6).trans rfl,(blk_cell BK242.out 7).trans rfl,(blk_cell BK242.out 8).trans rfl,(blk_cell BK242.out 9).trans rfl,(blk_cell BK242.out 10).trans rfl⟩ (fun hHeld=>?_);refine with_tabW table_Lookup.tab7 table_Lookup.bits7 (fun HT_ HW_=>?_)
     generalize w38.drew=w39 at BK242 BK243 BK249 HB hHeld ⊢
     refine pure_ (i:=0) (N:=some 46) (v:=?_) (a':=?_) ((bm true [1,8]).toArray) rfl rfl (any_of HT_.out (by kernel_rfl)) (fun _ _ _ h=>h) (Or.inl ⟨by rfl,?_⟩) ?_ ?_;rotate_left
     · intro w';go_simp;with_reducible rfl
     rotate_left
     · simp only [Act.put,List.setIfInBounds_toArray,List.set_cons_zero,List.set_cons_succ,i64_w,i32_w];rfl
     refine pure_ (i:=2) (N:=some 48) (v:=?_) (a':=?_) ((bm true [1,1,1,6]).toArray) rfl rfl (any_of HT_.out (by kernel_rfl)) (fun _ _ _ h=>h) (Or.inl ⟨by rfl,?_⟩) ?_ ?_;rotate_left
     · intro w';go_simp;with_reducible rfl
     rotate_left
     · simp only [Act.put,List.setIfInBounds_toArray,List.set_cons_zero,List.set_cons_succ,i64_w,i32_w];rfl
     refine pure_ (i:=4) (N:=some 50) (v:=?_) (a':=?_) ((bm true [1,1,1,1,1,4]).toArray) rfl rfl (any_of HT_.out (by kernel_rfl)) (fun _ _ _ h=>h) (Or.inl ⟨by rfl,?_⟩) ?_ ?_;rotate_left
     · intro w';go_simp;with_reducible rfl
     rotate_left
     · simp only [Act.put,List.setIfInBounds_toArray,List.set_cons_zero,List.set_cons_succ,i64_w,i32_w];rfl
     refine take_ (i:=1) (N:=some 47) (v:=?_) (a':=?_) ((bm true [3,1,1,4]).toArray) rfl rfl (take_ofW HT_.out HW_.out (by kernel_rfl)) (fun _ _ _ h=>h) (Or.inl ⟨by rfl,?_⟩) hHeld ?_ ?_;rotate_left
     · rintro w' ⟨s0,s1,s2,s3,s4,s5,s6,s7,s8,s9,s10,s11,s12,s13,s14,s15,s16,s17,s18⟩
       go_simp;with_reducible rfl
     rotate_left
     · simp only [Act.put,List.setIfInBounds_toArray,List.set_cons_zero,List.set_cons_succ,i64_w,i32_w];rfl
     refine take_ (i:=3) (N:=some 49) (v:=?_) (a':=?_) ((bm true [5,4]).toArray) rfl rfl (take_ofW HT_.out HW_.out (by kernel_rfl)) (fun _ _ _ h=>h) (Or.inl ⟨by rfl,?_⟩) hHeld ?_ ?_;rotate_left
     · rintro w' ⟨s0,s1,s2,s3,s4,s5,s6,s7,s8,s9,s10,s11,s12,s13,s14,s15,s16,s17,s18⟩
       go_simp;with_reducible rfl
     rotate_left
     · simp only [Act.put,List.setIfInBounds_toArray,List.set_cons_zero,List.set_cons_succ,i64_w,i32_w];rfl
     refine one_ (i:=5) (N:=some 51) ((bm true [6,3]).toArray) rfl rfl (one_of HT_.out (by kernel_rfl)) (by decide) (fun K hK=>?_)
     refine goes_ Try.func73 (by kernel_rfl) rfl #[.slice A0_2 l0_2.length c0_2,.int .i64 a1] (by rfl) rfl rfl (by (try simp only [List.map_toArray,List.map_cons,List.map_nil]);first|done|rfl|(simp only [List.length_drop,List.length_take];rfl)) ?_
     with_reducible refine (table_value.calls kj4 _ _ l0_2 a1 t250 _ ?side1 ?side2 A22.out).mono ?_
     (case side1=>exact cV (Kd.C_below HR0_2.out HB.out))
     (case side2=>exact HC0_2.out)
     rintro e w40 ⟨rfl,hb⟩
     refine ⟨_,rfl,?_⟩
     have n0_:=Aside0.mk (blk_below (g:=gb242) (blkV BK242.out) hb)
     have n1_:=Aside0.mk (blk_below (g:=gb243) (blkV BK243.out) hb)
     have n2_:=Aside0.mk (blk_below (g:=gb249) (blkV BK249.out) hb)
     have n3_:=Aside0.mk (below_step (belV3 HB.out GE242.out GE243.out GE249.out) hb);clear BK242;clear BK243;clear BK249;clear HB;have BK242:=n0_;have BK243:=n1_;have BK249:=n2_;have HB:=n3_;clear n0_ n1_ n2_ n3_
     (try clear hb)
     (try clear hb2)
     (try clear hk)
     (try clear hi)
     refine hK.out _ _ ⟨(blk_cell BK249.out 0).trans rfl,(blk_cell BK249.out 1).trans rfl,(blk_cell BK249.out 2).trans rfl,(blk_cell BK249.out 3).trans rfl,(blk_cell BK249.out 4).trans rfl,(blk_cell BK249.out 5).trans rfl,(blk_cell BK249.out 6).trans rfl,(blk_cell BK249.out 7).trans rfl,(blk_cell BK242.out 0).trans rfl,(blk_cell BK242.out 1).trans rfl,(blk_cell BK242.out 2).trans rfl,(blk_cell BK242.out 3).trans rfl,(blk_cell BK242.out 4).trans rfl,(blk_cell BK242.out 5).trans rfl,(blk_cell BK242.out 6).trans rfl,(blk_cell BK242.out 7).trans rfl,(blk_cell BK242.out 8).trans rfl,(blk_cell BK242.out 9).trans rfl,(blk_cell BK242.out 10).trans rfl⟩ (fun hHeld=>?_);clear hK K
     refine norm_ (a':=?_) ?_ ?_;rotate_left
     · show Act.put _ (some 51) _=_
       simp only [Act.put,List.setIfInBounds_toArray,List.set_cons_zero,List.set_cons_succ,i64_w,i32_w];rfl
     refine pure_ (i:=6) (N:=some 52) (v:=?_) (a':=?_) ((bm true [7,2]).toArray) rfl rfl (any_of HT_.out (by kernel_rfl)) (fun _ _ _ h=>h) (Or.inl ⟨by rfl,?_⟩) ?_ ?_;rotate_left
     · intro w';go_simp;with_reducible rfl
     rotate_left
     · simp only [Act.put,List.setIfInBounds_toArray,List.set_cons_zero,List.set_cons_succ,i64_w,i32_w];rfl
     refine pure_ (i:=7) (N:=some 53) (v:=?_) (a':=?_) ((bm true [8,1]).toArray) rfl rfl (any_of HT_.out (by kernel_rfl)) (fun _ _ _ h=>h) (Or.inl ⟨by rfl,?_⟩) ?_ ?_;rotate_left
     · intro w';go_simp;with_reducible rfl
     rotate_left
     · simp only [Act.put,List.setIfInBounds_toArray,List.set_cons_zero,List.set_cons_succ,i64_w,i32_w];rfl
     refine last_ (i:=8) (N:=none) ((bm true [9]).toArray) rfl rfl (one_of HT_.out (by kernel_rfl)) (by decide) (fun K hK=>?_)
     have hs41:w40.cell? ⟨gb249,1,none⟩=some (.int .i64 0):=(blk_cell BK249.out 1).trans rfl
     have hfs41:=blk_frozen BK249.out 1
     have hns41_0:=NB242_249.out
     have hns41_1:=NB243_249.out
     have hms41_0:=NB249_242.out
     have hms41_1:=NB249_243.out
     refine skip_ (w1:=?_) (by rfl) rfl ?_ ?_;rotate_left
     · go_simp;rfl
     refine hK.out _ _ ?_;clear hK K
     refine done_ (done_of HT_.out (by kernel_rfl)) ?_
     have hnb42:=NB242_243.out
     have hnc42:=NB243_242.out
     have hnb43:=NB242_249.out
     have hnc43:=NB249_242.out
     obtain ⟨hcz44_0,hcz44_1,hcz44_2,hcz44_3,hcz44_4,hcz44_5,hcz44_6,hcz44_7,hcz44_8,hcz44_9,hcz44_10,hfz44_0,hfz44_1,hfz44_2,hfz44_3,hfz44_4,hfz44_5,hfz44_6,hfz44_7,hfz44_8,hfz44_9,hfz44_10⟩:=bcells11 BK242.out
     go_upto_if 57 with (fail)
     go_cut [] (fun wc=>∃ (kq:Nat) (x250002_22:Int),Aside0 (table_Lookup.j1 kq a1 a0_0 l0_1 l0_2 l0_3 a0_4 a0_5 l0_6 l0_7 l0_8 l0_9 l0_10 (wrap64 (a0_0+t246)) (wrap64 ((wrap64 (a0_0+t246))+t250)) x250002_22 t248 0 0 a0_4=some (r1,r2,r3,r4,r5,r6,r7,r8,r9))∧Aside0 (kq≤kj4)∧Aside0 (wc.heap[gb242]?=some (.cells #[.int .i64 a0_0,(.slice A0_1 l0_1.length c0_1),(.slice A0_2 l0_2.length c0_2),(.slice A0_3 l0_3.length c0_3),.bool a0_4,.int .i64 a0_5,(.slice A0_6 l0_6.length c0_6),(.slice A0_7 l0_7.length c0_7),(.slice A0_8 l0_8.length c0_8),(.slice A0_9 l0_9.length c0_9),(.slice A0_10 l0_10.length c0_10)] 27 (0,0)))∧Aside0 (wc.heap[gb243]?=some (.cells #[.int .i64 0,.int .i64 0,.int .i64 0,.int .i64 0,.int .i64 0,.int .i64 0,.bool false,(.slice none 0 0)] 48 (0,0)))∧Aside0 (wc.heap[gb249]?=some (.cells #[.int .i64 (wrap64 (a0_0+t246)),.int .i64 (wrap64 ((wrap64 (a0_0+t246))+t250)),.int .i64 x250002_22,.int .i64 t248,.int .i64 0,.int .i64 0,.bool a0_4,(.slice none 0 0)] 48 (0,0)))∧Aside0 (Below w.heap.size w wc))
     case first =>
      have H:=HC23.out;clear HC23
      by_cases c45:(l0_9.length:Int) > 0
      · rw [if_pos c45] at H
        have c45b0:decide (0 < (l0_9.length:Int))=true:=decide_eq_true c45
        have c45b1:decide (0 < l0_9.length)=true:=decide_eq_true (by omega);clear c45
        (first|rw [c45b0]|(simp only [i64_w,i32_w];rw [c45b0])|rw [c45b1]|skip)
        replace H:=Option.bind_eq_some_iff.mp H
        obtain ⟨t251,A460,H⟩:=H
        replace H:(table_Lookup.j1 kj4 a1 a0_0 l0_1 l0_2 l0_3 a0_4 a0_5 l0_6 l0_7 l0_8 l0_9 l0_10 (wrap64 (a0_0+t246)) (wrap64 ((wrap64 (a0_0+t246))+t250)) t251 t248 0 0 a0_4)=some (r1,r2,r3,r4,r5,r6,r7,r8,r9):=H
        have A46:=Aside0.mk A460;clear A460
        have H':=Aside0.mk H;clear H
        have hnb47:=NB242_243.out
        have hnc47:=NB243_242.out
        have hnb48:=NB242_249.out
        have hnc48:=NB249_242.out
        obtain ⟨hcz49_0,hcz49_1,hcz49_2,hcz49_3,hcz49_4,hcz49_5,hcz49_6,hcz49_7,hcz49_8,hcz49_9,hcz49_10,hfz49_0,hfz49_1,hfz49_2,hfz49_3,hfz49_4,hfz49_5,hfz49_6,hfz49_7,hfz49_8,hfz49_9,hfz49_10⟩:=bcells11 BK242.out
        go_wp2_with (first|((with_reducible refine gate_callee (f:=73) rfl ?_);refine goesL_ (some 61) rfl rfl Try.func73 (by kernel_rfl) rfl #[.slice A0_9 l0_9.length c0_9,.int .i64 a1] rfl (by (try simp only [List.map_toArray,List.map_cons,List.map_nil]);first|done|rfl|(simp only [List.length_drop,List.length_take];rfl)) ?_;(with_reducible refine (table_value.calls kj4 _ _ l0_9 a1 t251 _ ?side1 ?side2 A46.out).mono ?_);(case side1=>exact Kd.C_below HR0_9.out (belV3 HB.out GE242.out GE243.out GE249.out));(case side2=>exact HC0_9.out);rintro e w50 ⟨rfl,hb⟩;refine ⟨_,rfl,?_⟩;have n0_:=Aside0.mk (blk_below (g:=gb242) (o:=.cells #[.int .i64 a0_0,.slice A0_1 l0_1.length c0_1,.slice A0_2 l0_2.length c0_2,.slice A0_3 l0_3.length c0_3,.bool a0_4,.int .i64 a0_5,.slice A0_6 l0_6.length c0_6,.slice A0_7 l0_7.length c0_7,.slice A0_8 l0_8.length c0_8,.slice A0_9 l0_9.length c0_9,.slice A0_10 l0_10.length c0_10] 27 (0,0)) (blkW BK242.out NB242_249.out) hb);have n1_:=Aside0.mk (blk_below (g:=gb243) (o:=.cells #[.int .i64 0,.int .i64 0,.int .i64 0,.int .i64 0,.int .i64 0,.int .i64 0,.bool false,.slice none 0 0] 48 (0,0)) (blkW BK243.out NB243_249.out) hb);have n2_:=Aside0.mk (blk_below (g:=gb249) (o:=.cells #[.int .i64 (wrap64 (a0_0+t246)),.int .i64 (wrap64 ((wrap64 (a0_0+t246))+t250)),.int .i64 t247,.int .i64 t248,.int .i64 0,.int .i64 0,.bool a0_4,.slice none 0 0] 48 (0,0)) (by (with_reducible repeat (first|refine blk_drewN ?_ _|refine blk_drew ?_|refine blk_alloc ?_ _));refine blk_put (cs:=#[.int .i64 (wrap64 (a0_0+t246)),.int .i64 0,.int .i64 t247,.int .i64 t248,.int .i64 0,.int .i64 0,.bool a0_4,.slice none 0 0]) ?_ 1 _ rfl;(with_reducible repeat (first|refine blk_drewN ?_ _|refine blk_drew ?_|refine blk_alloc ?_ _));exact BK249.out) hb);have n3_:=Aside0.mk (below_step (belV3 HB.out GE242.out GE243.out GE249.out) hb);clear BK242;clear BK243;clear BK249;clear HB;have BK242:=n0_;have BK243:=n1_;have BK249:=n2_;have HB:=n3_;clear n0_ n1_ n2_ n3_;(try clear hb);(try clear hb2);(try clear hk);(try clear hi);have hnb51:=NB249_243.out;have hnc51:=NB243_249.out;obtain ⟨hcz52_0,hcz52_1,hcz52_2,hcz52_3,hcz52_4,hcz52_5,hcz52_6,hcz52_7,hfz52_0,hfz52_1,hfz52_2,hfz52_3,hfz52_4,hfz52_5,hfz52_6,hfz52_7⟩:=bcells8 BK249.out))
        go_meet
        case rel=>exact ⟨_,(t251),H',⟨by have:=HJ4.out;first|omega|exact Nat.le_refl _⟩,⟨blkW BK242.out NB242_249.out⟩,⟨blkW BK243.out NB243_249.out⟩,⟨by (with_reducible repeat (first|refine blk_drewN ?_ _|refine blk_drew ?_|refine blk_alloc ?_ _));refine blk_put (cs:=#[.int .i64 (wrap64 (a0_0+t246)),.int .i64 (wrap64 ((wrap64 (a0_0+t246))+t250)),.int .i64 t247,.int .i64 t248,.int .i64 0,.int .i64 0,.bool a0_4,.slice none 0 0]) ?_ 2 _ rfl;(with_reducible repeat (first|refine blk_drewN ?_ _|refine blk_drew ?_|refine blk_alloc ?_ _));exact BK249.out⟩,⟨belV3 HB.out GE242.out GE243.out GE249.out⟩⟩
      rw [if_neg c45] at H
      have c45b0:decide (0 < (l0_9.length:Int))=false:=decide_eq_false c45
      have c45b1:decide (0 < l0_9.length)=false:=decide_eq_false (by omega);clear c45
      (first|rw [c45b0]|(simp only [i64_w,i32_w];rw [c45b0])|rw [c45b1]|skip)
      have H':=Aside0.mk H;clear H
      go_wp2
      go_meet
      case rel=>exact ⟨_,(t247),H',⟨by have:=HJ4.out;first|omega|exact Nat.le_refl _⟩,⟨blkW BK242.out NB242_249.out⟩,⟨blkW BK243.out NB243_249.out⟩,⟨by (with_reducible repeat (first|refine blk_drewN ?_ _|refine blk_drew ?_|refine blk_alloc ?_ _));refine blk_put (cs:=#[.int .i64 (wrap64 (a0_0+t246)),.int .i64 0,.int .i64 t247,.int .i64 t248,.int .i64 0,.int .i64 0,.bool a0_4,.slice none 0 0]) ?_ 1 _ rfl;(with_reducible repeat (first|refine blk_drewN ?_ _|refine blk_drew ?_|refine blk_alloc ?_ _));exact BK249.out⟩,⟨belV3 HB.out GE242.out GE243.out GE249.out⟩⟩
     case rest =>
      clear HC23
      try clear p2;try clear c4;try clear c5;try clear p6;try clear c7;try clear c42;try clear c43;try clear c45;try clear c45b0;try clear c45b1;try clear c47;try clear c48;try clear c51;try clear hcz44_0 hcz44_1 hcz44_10 hcz44_2 hcz44_3 hcz44_4 hcz44_5 hcz44_6 hcz44_7 hcz44_8 hcz44_9;try clear hcz49_0 hcz49_1 hcz49_10 hcz49_2 hcz49_3 hcz49_4 hcz49_5 hcz49_6 hcz49_7 hcz49_8 hcz49_9;try clear hcz52_0 hcz52_1 hcz52_2 hcz52_3 hcz52_4 hcz52_5 hcz52_6 hcz52_7;try clear hfz44_0 hfz44_1 hfz44_10 hfz44_2 hfz44_3 hfz44_4 hfz44_5 hfz44_6 hfz44_7 hfz44_8 hfz44_9;try clear hfz49_0 hfz49_1 hfz49_10 hfz49_2 hfz49_3 hfz49_4 hfz49_5 hfz49_6 hfz49_7 hfz49_8 hfz49_9;try clear hfz52_0 hfz52_1 hfz52_2 hfz52_3 hfz52_4 hfz52_5 hfz52_6 hfz52_7
      obtain ⟨kq,x250002_22,HA,HJ22,BK242,BK243,BK249,HB⟩:=hcut
      cases kq with
      | zero=>exact absurd HA.out (by simp [table_Lookup.j1])
      | succ kj22 =>
       have H:=HA.out;clear HA
       simp only [table_Lookup.j1] at H
       replace H:=Option.bind_eq_some_iff.mp H
       obtain ⟨⟨t252,t253⟩,A530,H⟩:=H
       replace H:(if t253=true then (table_Lookup.j2 kj22 a1 a0_0 l0_1 l0_2 l0_3 a0_4 a0_5 l0_6 l0_7 l0_8 l0_9 l0_10 (wrap64 (a0_0+t246)) (wrap64 ((wrap64 (a0_0+t246))+t250)) x250002_22 t248 0 0 true) else (table_Lookup.j2 kj22 a1 a0_0 l0_1 l0_2 l0_3 a0_4 a0_5 l0_6 l0_7 l0_8 l0_9 l0_10 (wrap64 (a0_0+t246)) (wrap64 ((wrap64 (a0_0+t246))+t250)) x250002_22 t248 0 0 a0_4))=some (r1,r2,r3,r4,r5,r6,r7,r8,r9):=H
       have A53:=Aside0.mk A530;clear A530
       have HC54:=Aside0.mk H;clear H
       have hnb55:=NB242_243.out
       have hnc55:=NB243_242.out
       have hnb56:=NB242_249.out
       have hnc56:=NB249_242.out
       obtain ⟨hcz57_0,hcz57_1,hcz57_2,hcz57_3,hcz57_4,hcz57_5,hcz57_6,hcz57_7,hcz57_8,hcz57_9,hcz57_10,hfz57_0,hfz57_1,hfz57_2,hfz57_3,hfz57_4,hfz57_5,hfz57_6,hfz57_7,hfz57_8,hfz57_9,hfz57_10⟩:=bcells11 BK242.out
       go_upto_if 71 with (first|((with_reducible refine gate_callee (f:=48) rfl ?_);refine goesL_ (some 68) rfl rfl Try.func48 (by kernel_rfl) rfl #[.slice A0_3 l0_3.length c0_3,.int .i64 (wrap64 (a1+1))] rfl (by (try simp only [List.map_toArray,List.map_cons,List.map_nil]);first|done|rfl|(simp only [List.length_drop,List.length_take];rfl)) ?_;(with_reducible refine (slices_BinarySearch_int_int.calls kj22 _ _ l0_3 (wrap64 (a1+1)) t252 t253 _ ?side1 ?side2 A53.out).mono ?_);(case side1=>exact cV (Kd.C_below HR0_3.out HB.out));(case side2=>exact HC0_3.out);rintro e w' ⟨rfl,⟨nd,rfl⟩⟩;refine ⟨_,rfl,?_⟩))
       (try simp only [Act.put,List.setIfInBounds_toArray,List.set_cons_zero,List.set_cons_succ])
       go_cut [] (fun wc=>∃ (kq:Nat) (x250006_53:Bool),Aside0 (table_Lookup.j2 kq a1 a0_0 l0_1 l0_2 l0_3 a0_4 a0_5 l0_6 l0_7 l0_8 l0_9 l0_10 (wrap64 (a0_0+t246)) (wrap64 ((wrap64 (a0_0+t246))+t250)) x250002_22 t248 0 0 x250006_53=some (r1,r2,r3,r4,r5,r6,r7,r8,r9))∧Aside0 (kq≤kj22)∧Aside0 (wc.heap[gb242]?=some (.cells #[.int .i64 a0_0,(.slice A0_1 l0_1.length c0_1),(.slice A0_2 l0_2.length c0_2),(.slice A0_3 l0_3.length c0_3),.bool a0_4,.int .i64 a0_5,(.slice A0_6 l0_6.length c0_6),(.slice A0_7 l0_7.length c0_7),(.slice A0_8 l0_8.length c0_8),(.slice A0_9 l0_9.length c0_9),(.slice A0_10 l0_10.length c0_10)] 27 (0,0)))∧Aside0 (wc.heap[gb243]?=some (.cells #[.int .i64 0,.int .i64 0,.int .i64 0,.int .i64 0,.int .i64 0,.int .i64 0,.bool false,(.slice none 0 0)] 48 (0,0)))∧Aside0 (wc.heap[gb249]?=some (.cells #[.int .i64 (wrap64 (a0_0+t246)),.int .i64 (wrap64 ((wrap64 (a0_0+t246))+t250)),.int .i64 x250002_22,.int .i64 t248,.int .i64 0,.int .i64 0,.bool x250006_53,(.slice none 0 0)] 48 (0,0)))∧Aside0 (Below w.heap.size w wc))
       case first =>
        have H:=HC54.out;clear HC54
        by_cases c58:t253=true
        · subst c58
          have H1:(table_Lookup.j2 kj22 a1 a0_0 l0_1 l0_2 l0_3 a0_4 a0_5 l0_6 l0_7 l0_8 l0_9 l0_10 (wrap64 (a0_0+t246)) (wrap64 ((wrap64 (a0_0+t246))+t250)) x250002_22 t248 0 0 true)=some (r1,r2,r3,r4,r5,r6,r7,r8,r9):=by rw [if_pos rfl] at H;exact H
          clear H
          have H:=H1;clear H1
          have H':=Aside0.mk H;clear H
          have hnb59:=NB249_242.out
          have hnc59:=NB242_249.out
          have hnb60:=NB249_243.out
          have hnc60:=NB243_249.out
          obtain ⟨hcz61_0,hcz61_1,hcz61_2,hcz61_3,hcz61_4,hcz61_5,hcz61_6,hcz61_7,hfz61_0,hfz61_1,hfz61_2,hfz61_3,hfz61_4,hfz61_5,hfz61_6,hfz61_7⟩:=bcells8 BK249.out
          go_wp2
          go_meet
          case rel=>exact ⟨_,(true),H',⟨by have:=HJ4.out;have:=HJ22.out;first|omega|exact Nat.le_refl _⟩,⟨blkW BK242.out NB242_249.out⟩,⟨blkW BK243.out NB243_249.out⟩,⟨by (with_reducible repeat (first|refine blk_drewN ?_ _|refine blk_drew ?_|refine blk_alloc ?_ _));refine blk_put (cs:=#[.int .i64 (wrap64 (a0_0+t246)),.int .i64 (wrap64 ((wrap64 (a0_0+t246))+t250)),.int .i64 x250002_22,.int .i64 t248,.int .i64 0,.int .i64 0,.bool a0_4,.slice none 0 0]) ?_ 6 _ rfl;(with_reducible repeat (first|refine blk_drewN ?_ _|refine blk_drew ?_|refine blk_alloc ?_ _));exact BK249.out⟩,⟨belV3 HB.out GE242.out GE243.out GE249.out⟩⟩
        replace c58:=Bool.eq_false_iff.mpr c58;subst c58
        have H1:(table_Lookup.j2 kj22 a1 a0_0 l0_1 l0_2 l0_3 a0_4 a0_5 l0_6 l0_7 l0_8 l0_9 l0_10 (wrap64 (a0_0+t246)) (wrap64 ((wrap64 (a0_0+t246))+t250)) x250002_22 t248 0 0 a0_4)=some (r1,r2,r3,r4,r5,r6,r7,r8,r9):=by rw [if_neg (show ¬ (false=true) by decide)] at H;exact H
        clear H
        have H:=H1;clear H1
        have H':=Aside0.mk H;clear H
        go_wp2
        go_meet
        case rel=>exact ⟨_,(a0_4),H',⟨by have:=HJ4.out;have:=HJ22.out;first|omega|exact Nat.le_refl _⟩,⟨blkV BK242.out⟩,⟨blkV BK243.out⟩,⟨blkV BK249.out⟩,⟨belV3 HB.out GE242.out GE243.out GE249.out⟩⟩
       case rest =>
        clear HC54
        try clear p2 p2;try clear c4;try clear c5;try clear c6;try clear p6 p6;try clear c7;try clear c42;try clear c43;try clear c45;try clear c45b0;try clear c45b1;try clear c47;try clear c48;try clear c51;try clear c55;try clear c56;try clear c58;try clear c59;try clear c60;try clear hcz44_0 hcz44_1 hcz44_10 hcz44_2 hcz44_3 hcz44_4 hcz44_5 hcz44_6 hcz44_7 hcz44_8 hcz44_9;try clear hcz49_0 hcz49_1 hcz49_10 hcz49_2 hcz49_3 hcz49_4 hcz49_5 hcz49_6 hcz49_7 hcz49_8 hcz49_9;try clear hcz52_0 hcz52_1 hcz52_2 hcz52_3 hcz52_4 hcz52_5 hcz52_6 hcz52_7;try clear hcz57_0 hcz57_1 hcz57_10 hcz57_2 hcz57_3 hcz57_4 hcz57_5 hcz57_6 hcz57_7 hcz57_8 hcz57_9;try clear hcz61_0 hcz61_1 hcz61_2 hcz61_3 hcz61_4 hcz61_5 hcz61_6 hcz61_7;try clear hfz44_0 hfz44_1 hfz44_10 hfz44_2 hfz44_3 hfz44_4 hfz44_5 hfz44_6 hfz44_7 hfz44_8 hfz44_9;try clear hfz49_0 hfz49_1 hfz49_10 hfz49_2 hfz49_3 hfz49_4 hfz49_5 hfz49_6 hfz49_7 hfz49_8 hfz49_9;try clear hfz52_0 hfz52_1 hfz52_2 hfz52_3 hfz52_4 hfz52_5 hfz52_6 hfz52_7;try clear hfz57_0 hfz57_1 hfz57_10 hfz57_2 hfz57_3 hfz57_4 hfz57_5 hfz57_6 hfz57_7 hfz57_8 hfz57_9;try clear hfz61_0 hfz61_1 hfz61_2 hfz61_3 hfz61_4 hfz61_5 hfz61_6 hfz61_7
        obtain ⟨kq,x250006_53,HA,HJ53,BK242,BK243,BK249,HB⟩:=hcut
        cases kq with
        | zero=>exact absurd HA.out (by simp [table_Lookup.j2])
        | succ kj53 =>
         have H:=HA.out;clear HA
         simp only [table_Lookup.j2] at H
         have HC62:=Aside0.mk H;clear H
         have hnb63:=NB242_243.out
         have hnc63:=NB243_242.out
         have hnb64:=NB242_249.out
         have hnc64:=NB249_242.out
         obtain ⟨hcz65_0,hcz65_1,hcz65_2,hcz65_3,hcz65_4,hcz65_5,hcz65_6,hcz65_7,hcz65_8,hcz65_9,hcz65_10,hfz65_0,hfz65_1,hfz65_2,hfz65_3,hfz65_4,hfz65_5,hfz65_6,hfz65_7,hfz65_8,hfz65_9,hfz65_10⟩:=bcells11 BK242.out
         go_upto_if 76 with (fail)
         go_cut [] (fun wc=>∃ (kq:Nat) (x250007_61:List Int) (u250007:Value),Aside0 (table_Lookup.j4 kq a1 a0_0 l0_1 l0_2 l0_3 a0_4 a0_5 l0_6 l0_7 l0_8 l0_9 l0_10 (wrap64 (a0_0+t246)) (wrap64 ((wrap64 (a0_0+t246))+t250)) x250002_22 t248 0 0 x250006_53 x250007_61=some (r1,r2,r3,r4,r5,r6,r7,r8,r9))∧Aside0 (kq≤kj53)∧Aside0 (Kd.R (Kd.int .i64) 3 wc w.heap.size (fun _=>True) u250007 x250007_61)∧Aside0 (wc.heap[gb242]?=some (.cells #[.int .i64 a0_0,(.slice A0_1 l0_1.length c0_1),(.slice A0_2 l0_2.length c0_2),(.slice A0_3 l0_3.length c0_3),.bool a0_4,.int .i64 a0_5,(.slice A0_6 l0_6.length c0_6),(.slice A0_7 l0_7.length c0_7),(.slice A0_8 l0_8.length c0_8),(.slice A0_9 l0_9.length c0_9),(.slice A0_10 l0_10.length c0_10)] 27 (0,0)))∧Aside0 (wc.heap[gb243]?=some (.cells #[.int .i64 0,.int .i64 0,.int .i64 0,.int .i64 0,.int .i64 0,.int .i64 0,.bool false,(.slice none 0 0)] 48 (0,0)))∧Aside0 (wc.heap[gb249]?=some (.cells #[.int .i64 (wrap64 (a0_0+t246)),.int .i64 (wrap64 ((wrap64 (a0_0+t246))+t250)),.int .i64 x250002_22,.int .i64 t248,.int .i64 0,.int .i64 0,.bool x250006_53,u250007] 48 (0,0)))∧Aside0 (Below w.heap.size w wc))
         case first =>
          have H:=HC62.out;clear HC62
          by_cases c66:(l0_10.length:Int) > 0
          · rw [if_pos c66] at H
            have c66b0:decide (0 < (l0_10.length:Int))=true:=decide_eq_true c66
            have c66b1:decide (0 < l0_10.length)=true:=decide_eq_true (by omega);clear c66
            (first|rw [c66b0]|(simp only [i64_w,i32_w];rw [c66b0])|rw [c66b1]|skip)
            by_cases c67:0≤a1
            · rw [if_pos c67] at H
              have c67b0:decide (0≤a1)=true:=decide_eq_true c67;clear c67
              by_cases c68:a1 < (l0_10.length:Int)
              · rw [if_pos c68] at H
                have c68b0:decide (a1 < (l0_10.length:Int))=true:=decide_eq_true c68;clear c68
                have H':=Aside0.mk H;clear H
                have hnb69:=NB242_243.out
                have hnc69:=NB243_242.out
                have hnb70:=NB242_249.out
                have hnc70:=NB249_242.out
                obtain ⟨hcz71_0,hcz71_1,hcz71_2,hcz71_3,hcz71_4,hcz71_5,hcz71_6,hcz71_7,hcz71_8,hcz71_9,hcz71_10,hfz71_0,hfz71_1,hfz71_2,hfz71_3,hfz71_4,hfz71_5,hfz71_6,hfz71_7,hfz71_8,hfz71_9,hfz71_10⟩:=bcells11 BK242.out
                have p254:0≤(a1:Int):=of_decide_eq_true asV
                have q254:a1 < (l0_10.length:Int):=of_decide_eq_true asV
                obtain ⟨ad254,A254_0,c254_0,e254,hx254_0,hl254_0,hi254_0⟩:=at_L3 HR0_10.out a1 p254 q254
                cases e254
                replace hx254_0:=(HB.out.cell (World.block_lt_of_cell? w _ hx254_0)).trans hx254_0
                have HR254_0:=Aside0.mk hi254_0
                have HC254_0:=Aside0.mk hl254_0;clear hi254_0 hl254_0
                replace p254:=eq_true p254
                replace q254:=eq_true q254
                go_wp2
                go_loopg [83] kj53 (fun kq v83 w'=>∃ (x83_4:Int) (x250007_4:List Int) (u250007:Value),v83=.int .i64 x83_4∧Aside0 (table_Lookup.l0 kq a1 (rd_L3 l0_10 a1) ((rd_L3 l0_10 a1).length:Int) x83_4 a0_0 l0_1 l0_2 l0_3 a0_4 a0_5 l0_6 l0_7 l0_8 l0_9 l0_10 (wrap64 (a0_0+t246)) (wrap64 ((wrap64 (a0_0+t246))+t250)) x250002_22 t248 0 0 x250006_53 x250007_4=some (r1,r2,r3,r4,r5,r6,r7,r8,r9))∧Aside0 (kq≤kj53)∧Aside0 (Kd.R (Kd.int .i64) 3 w' w.heap.size (fun _=>True) u250007 x250007_4)∧Aside0 (w'.heap[gb242]?=some (.cells #[.int .i64 a0_0,(.slice A0_1 l0_1.length c0_1),(.slice A0_2 l0_2.length c0_2),(.slice A0_3 l0_3.length c0_3),.bool a0_4,.int .i64 a0_5,(.slice A0_6 l0_6.length c0_6),(.slice A0_7 l0_7.length c0_7),(.slice A0_8 l0_8.length c0_8),(.slice A0_9 l0_9.length c0_9),(.slice (some ad254) l0_10.length c0_10)] 27 (0,0)))∧Aside0 (w'.heap[gb243]?=some (.cells #[.int .i64 0,.int .i64 0,.int .i64 0,.int .i64 0,.int .i64 0,.int .i64 0,.bool false,(.slice none 0 0)] 48 (0,0)))∧Aside0 (w'.heap[gb249]?=some (.cells #[.int .i64 (wrap64 (a0_0+t246)),.int .i64 (wrap64 ((wrap64 (a0_0+t246))+t250)),.int .i64 x250002_22,.int .i64 t248,.int .i64 0,.int .i64 0,.bool x250006_53,u250007] 48 (0,0)))∧Aside0 (Below w.heap.size w w'))
                case atStart=>exact ⟨(0),(([]:List Int)),(.slice none 0 0),okV,H',⟨Nat.le_refl _⟩,⟨by first|exact Kd.R_nil _ _ _ _ _|exact Kd.N_nil _ _ _ _ _|exact Kd.V_nil _ _ _ _ _|exact Kd.Q_nil _ _ _ _ _|exact Kd.S_nil _ _ _ _ _⟩,⟨blkV BK242.out⟩,⟨blkV BK243.out⟩,⟨blkV BK249.out⟩,⟨belV3 HB.out GE242.out GE243.out GE249.out⟩⟩
                case round =>
                 clear H'
                 try clear c2;try clear p2 p2;try clear q2;try clear hx2;try clear c4;try clear c5;try clear c6;try clear p6 p6;try clear c7;try clear c25;try clear p25;try clear q25;try clear hx25;try clear c42;try clear c43;try clear c45;try clear c45b0;try clear c45b1;try clear c47;try clear c48;try clear c51;try clear c55;try clear c56;try clear c58;try clear c59;try clear c60;try clear c63;try clear c64;try clear p64;try clear c66;try clear c66b0;try clear c66b1;try clear c67;try clear c67b0;try clear c68;try clear c68b0;try clear c69;try clear c70;try clear hcz44_0 hcz44_1 hcz44_10 hcz44_2 hcz44_3 hcz44_4 hcz44_5 hcz44_6 hcz44_7 hcz44_8 hcz44_9;try clear hcz49_0 hcz49_1 hcz49_10 hcz49_2 hcz49_3 hcz49_4 hcz49_5 hcz49_6 hcz49_7 hcz49_8 hcz49_9;try clear hcz52_0 hcz52_1 hcz52_2 hcz52_3 hcz52_4 hcz52_5 hcz52_6 hcz52_7;try clear hcz57_0 hcz57_1 hcz57_10 hcz57_2 hcz57_3 hcz57_4 hcz57_5 hcz57_6 hcz57_7 hcz57_8 hcz57_9;try clear hcz61_0 hcz61_1 hcz61_2 hcz61_3 hcz61_4 hcz61_5 hcz61_6 hcz61_7;try clear hcz65_0 hcz65_1 hcz65_10 hcz65_2 hcz65_3 hcz65_4 hcz65_5 hcz65_6 hcz65_7 hcz65_8 hcz65_9;try clear hcz71_0 hcz71_1 hcz71_10 hcz71_2 hcz71_3 hcz71_4 hcz71_5 hcz71_6 hcz71_7 hcz71_8 hcz71_9;try clear hfz44_0 hfz44_1 hfz44_10 hfz44_2 hfz44_3 hfz44_4 hfz44_5 hfz44_6 hfz44_7 hfz44_8 hfz44_9;try clear hfz49_0 hfz49_1 hfz49_10 hfz49_2 hfz49_3 hfz49_4 hfz49_5 hfz49_6 hfz49_7 hfz49_8 hfz49_9;try clear hfz52_0 hfz52_1 hfz52_2 hfz52_3 hfz52_4 hfz52_5 hfz52_6 hfz52_7;try clear hfz57_0 hfz57_1 hfz57_10 hfz57_2 hfz57_3 hfz57_4 hfz57_5 hfz57_6 hfz57_7 hfz57_8 hfz57_9;try clear hfz61_0 hfz61_1 hfz61_2 hfz61_3 hfz61_4 hfz61_5 hfz61_6 hfz61_7;try clear hfz65_0 hfz65_1 hfz65_10 hfz65_2 hfz65_3 hfz65_4 hfz65_5 hfz65_6 hfz65_7 hfz65_8 hfz65_9;try clear hfz71_0 hfz71_1 hfz71_10 hfz71_2 hfz71_3 hfz71_4 hfz71_5 hfz71_6 hfz71_7 hfz71_8 hfz71_9;try clear hx254_0;try clear p254;try clear q254
                 obtain ⟨x83_4,x250007_4,u250007,rfl,HA,HK4,HO_250007,BK242,BK243,BK249,HB⟩:=hrel
                 cases gk with
                 | zero=>exact absurd HA.out (by simp [table_Lookup.l0])
                 | succ k4 =>
                  have H:=HA.out;clear HA
                  simp only [table_Lookup.l0] at H
                  by_cases c72:x83_4 < ((rd_L3 l0_10 a1).length:Int)
                  · rw [if_pos c72] at H
                    have c72b0:decide (x83_4 < ((rd_L3 l0_10 a1).length:Int))=true:=decide_eq_true c72;clear c72
                    by_cases c73:0≤x83_4
                    · rw [if_pos c73] at H
                      have c73b0:decide (0≤x83_4)=true:=decide_eq_true c73;clear c73
                      by_cases c74:x83_4 < ((rd_L3 l0_10 a1).length:Int)
                      · rw [if_pos c74] at H
                        have c74b0:decide (x83_4 < ((rd_L3 l0_10 a1).length:Int))=true:=decide_eq_true c74;clear c74
                        by_cases c75:x250007_4.length < 17592186044416
                        · rw [if_pos c75] at H
                          have LMc75:=Aside0.mk c75;clear c75
                          obtain ⟨y256,hy256⟩:∃ y_:List Int,y_=(x250007_4 ++ [wrap64 (a1 - (rd (rd_L3 l0_10 a1) x83_4))]):=⟨_,rfl⟩
                          replace H:(table_Lookup.l0 k4 a1 (rd_L3 l0_10 a1) ((rd_L3 l0_10 a1).length:Int) (wrap64 (x83_4+1)) a0_0 l0_1 l0_2 l0_3 a0_4 a0_5 l0_6 l0_7 l0_8 l0_9 l0_10 (wrap64 (a0_0+t246)) (wrap64 ((wrap64 (a0_0+t246))+t250)) x250002_22 t248 0 0 x250006_53 y256)=some (r1,r2,r3,r4,r5,r6,r7,r8,r9):=by first|(rw [hy256];with_reducible exact H)|(have H2_:=(Option.bind_some _ _).symm.trans H;rw [hy256];with_reducible exact H2_)|(have H2_:=(Option.bind_some _ _).symm.trans H;with_reducible exact H2_)|with_reducible exact H|(rw [hy256];exact H)|exact H
                          have Ny256:=Aside0.mk hy256;clear hy256
                          have H':=Aside0.mk H;clear H
                          have p255:0≤(x83_4:Int):=of_decide_eq_true asV
                          have q255:x83_4 < ((rd_L3 l0_10 a1).length:Int):=of_decide_eq_true asV
                          obtain ⟨ad255,e255,hx255_0⟩:=Kd.at_int HR254_0.out x83_4 p255 q255
                          cases e255
                          replace hx255_0:=(HB.out.cell (World.block_lt_of_cell? w _ hx255_0)).trans hx255_0
                          replace p255:=eq_true p255
                          replace q255:=eq_true q255
                          have hnb76:=NB249_242.out
                          have hnc76:=NB242_249.out
                          have hnb77:=NB249_243.out
                          have hnc77:=NB243_249.out
                          obtain ⟨hcz78_0,hcz78_1,hcz78_2,hcz78_3,hcz78_4,hcz78_5,hcz78_6,hcz78_7,hfz78_0,hfz78_1,hfz78_2,hfz78_3,hfz78_4,hfz78_5,hfz78_6,hfz78_7⟩:=bcells8 BK249.out
                          go_wp2_with (first|((with_reducible refine gate_builtin (b:=.append) (xs:=#[.tmp 88,.tmp 92]) rfl ?_);at_builtin;refine Kd.R_append (Kd.int .i64) (w0:=w) w.heap.size rfl (.tmp 88) (.tmp 92) 23 3 (.int .i64 0) 8 rfl Try.underlying23 info3 rfl (by decide) (by omega) u250007 x250007_4 (wrap64 (a1 - (rd (rd_L3 l0_10 a1) x83_4))) [.int .i64 (wrap64 (a1 - (rd (rd_L3 l0_10 a1) x83_4)))] (fun _=>True) (fun _=>False) rfl rfl ?aP (fun _ hk=>hk.elim) ?aF ?aO ?aB ?aS ?aL ?_;(case aP=>exact rfl);(case aB=>exact (belV3 HB.out GE242.out GE243.out GE249.out));(case aF=>exact (fun _ _=>trivial));(case aO=>exact (rowV HO_250007.out));(case aS=>exact (below_size (belV3 HB.out GE242.out GE243.out GE249.out)));(case aL=>have:=LMc75.out;omega);intro v257 w79 ho hb hg hat;rw [← Ny256.out] at ho;have n0_:=Aside0.mk (blk_grown (g:=gb242) (blkV BK242.out) hg (Kd.R_ne HO_250007.out BK242.out (by decide)));have n1_:=Aside0.mk (blk_grown (g:=gb243) (blkV BK243.out) hg (Kd.R_ne HO_250007.out BK243.out (by decide)));have n2_:=Aside0.mk (blk_grown (g:=gb249) (blkV BK249.out) hg (Kd.R_ne HO_250007.out BK249.out (by decide)));have n3_:=Aside0.mk (hb);have n4_:=Aside0.mk (ho);clear BK242;clear BK243;clear BK249;clear HB;clear HO_250007;have BK242:=n0_;have BK243:=n1_;have BK249:=n2_;have HB:=n3_;have HO258:=n4_;clear n0_ n1_ n2_ n3_ n4_;clear ho hb hg hat;obtain ⟨Ao80,co80,eo80⟩:=Kd.R_slice HO258.out;subst eo80;obtain ⟨hcz81_0,hcz81_1,hcz81_2,hcz81_3,hcz81_4,hcz81_5,hcz81_6,hcz81_7,hfz81_0,hfz81_1,hfz81_2,hfz81_3,hfz81_4,hfz81_5,hfz81_6,hfz81_7⟩:=bcells8 BK249.out))
                          go_roundg k4
                          case measure=>have:=HJ4.out;have:=HJ22.out;have:=HJ53.out;have:=HK4.out;omega
                          case rel=>exact ⟨(wrap64 (x83_4+1)),(y256),(.slice Ao80 y256.length co80),okV,H',⟨by have:=HJ4.out;have:=HJ22.out;have:=HJ53.out;have:=HK4.out;omega⟩,⟨by (with_reducible repeat (first|apply Kd.R_alloc|apply Kd.R_drewN|apply Kd.R_drew));exact Kd.R_mono (Kd.R_put1 HO258.out BK249.out (by decide)) (fun _ hk=>trivial)⟩,⟨blkW BK242.out NB242_249.out⟩,⟨blkW BK243.out NB243_249.out⟩,⟨by (with_reducible repeat (first|refine blk_drewN ?_ _|refine blk_drew ?_|refine blk_alloc ?_ _));refine blk_put (cs:=#[.int .i64 (wrap64 (a0_0+t246)),.int .i64 (wrap64 ((wrap64 (a0_0+t246))+t250)),.int .i64 x250002_22,.int .i64 t248,.int .i64 0,.int .i64 0,.bool x250006_53,u250007]) ?_ 7 _ rfl;(with_reducible repeat (first|refine blk_drewN ?_ _|refine blk_drew ?_|refine blk_alloc ?_ _));exact BK249.out⟩,⟨belV3 HB.out GE242.out GE243.out GE249.out⟩⟩
                        rw [if_neg c75] at H
                        exact absurd H (by simp)
                      rw [if_neg c74] at H
                      exact absurd H (by simp)
                    rw [if_neg c73] at H
                    exact absurd H (by simp)
                  rw [if_neg c72] at H
                  have c72b0:decide (x83_4 < ((rd_L3 l0_10 a1).length:Int))=false:=decide_eq_false c72;clear c72
                  have H':=Aside0.mk H;clear H
                  go_wp2
                  go_meet
                  case rel=>exact ⟨_,(x250007_4),(u250007),H',⟨by have:=HJ4.out;have:=HJ22.out;have:=HJ53.out;have:=HK4.out;first|omega|exact Nat.le_refl _⟩,⟨rowV HO_250007.out⟩,⟨blkV BK242.out⟩,⟨blkV BK243.out⟩,⟨blkV BK249.out⟩,⟨belV3 HB.out GE242.out GE243.out GE249.out⟩⟩
              rw [if_neg c68] at H
              exact absurd H (by simp)
            rw [if_neg c67] at H
            exact absurd H (by simp)
          rw [if_neg c66] at H
          have c66b0:decide (0 < (l0_10.length:Int))=false:=decide_eq_false c66
          have c66b1:decide (0 < l0_10.length)=false:=decide_eq_false (by omega);clear c66
          (first|rw [c66b0]|(simp only [i64_w,i32_w];rw [c66b0])|rw [c66b1]|skip)
          have H':=Aside0.mk H;clear H
          go_wp2
          go_meet
          case rel=>exact ⟨_,(([]:List Int)),(.slice none 0 0),H',⟨by have:=HJ4.out;have:=HJ22.out;have:=HJ53.out;first|omega|exact Nat.le_refl _⟩,⟨by first|exact Kd.R_nil _ _ _ _ _|exact Kd.N_nil _ _ _ _ _|exact Kd.V_nil _ _ _ _ _|exact Kd.Q_nil _ _ _ _ _|exact Kd.S_nil _ _ _ _ _⟩,⟨blkV BK242.out⟩,⟨blkV BK243.out⟩,⟨blkV BK249.out⟩,⟨belV3 HB.out GE242.out GE243.out GE249.out⟩⟩
         case rest =>
          clear HC62
          try clear c2;try clear p2 p2;try clear q2 q2;try clear hx2;try clear c4;try clear c5;try clear c6;try clear p6 p6;try clear c7;try clear c25;try clear p25 p25;try clear q25 q25;try clear hx25;try clear c42;try clear c43;try clear c45;try clear c45b0;try clear c45b1;try clear c47;try clear c48;try clear c51;try clear c55;try clear c56;try clear c58;try clear c59;try clear c60;try clear c63;try clear c64;try clear p64 p64;try clear c66;try clear c66b0;try clear c66b1;try clear c67;try clear c67b0;try clear c68;try clear c68b0;try clear c69;try clear c70;try clear c72;try clear c72b0;try clear c73;try clear c73b0;try clear c74;try clear c74b0;try clear c75;try clear c76;try clear c77;try clear hcz44_0 hcz44_1 hcz44_10 hcz44_2 hcz44_3 hcz44_4 hcz44_5 hcz44_6 hcz44_7 hcz44_8 hcz44_9;try clear hcz49_0 hcz49_1 hcz49_10 hcz49_2 hcz49_3 hcz49_4 hcz49_5 hcz49_6 hcz49_7 hcz49_8 hcz49_9;try clear hcz52_0 hcz52_1 hcz52_2 hcz52_3 hcz52_4 hcz52_5 hcz52_6 hcz52_7;try clear hcz57_0 hcz57_1 hcz57_10 hcz57_2 hcz57_3 hcz57_4 hcz57_5 hcz57_6 hcz57_7 hcz57_8 hcz57_9;try clear hcz61_0 hcz61_1 hcz61_2 hcz61_3 hcz61_4 hcz61_5 hcz61_6 hcz61_7;try clear hcz65_0 hcz65_1 hcz65_10 hcz65_2 hcz65_3 hcz65_4 hcz65_5 hcz65_6 hcz65_7 hcz65_8 hcz65_9;try clear hcz71_0 hcz71_1 hcz71_10 hcz71_2 hcz71_3 hcz71_4 hcz71_5 hcz71_6 hcz71_7 hcz71_8 hcz71_9;try clear hcz78_0 hcz78_1 hcz78_2 hcz78_3 hcz78_4 hcz78_5 hcz78_6 hcz78_7;try clear hcz81_0 hcz81_1 hcz81_2 hcz81_3 hcz81_4 hcz81_5 hcz81_6 hcz81_7;try clear hfz44_0 hfz44_1 hfz44_10 hfz44_2 hfz44_3 hfz44_4 hfz44_5 hfz44_6 hfz44_7 hfz44_8 hfz44_9;try clear hfz49_0 hfz49_1 hfz49_10 hfz49_2 hfz49_3 hfz49_4 hfz49_5 hfz49_6 hfz49_7 hfz49_8 hfz49_9;try clear hfz52_0 hfz52_1 hfz52_2 hfz52_3 hfz52_4 hfz52_5 hfz52_6 hfz52_7;try clear hfz57_0 hfz57_1 hfz57_10 hfz57_2 hfz57_3 hfz57_4 hfz57_5 hfz57_6 hfz57_7 hfz57_8 hfz57_9;try clear hfz61_0 hfz61_1 hfz61_2 hfz61_3 hfz61_4 hfz61_5 hfz61_6 hfz61_7;try clear hfz65_0 hfz65_1 hfz65_10 hfz65_2 hfz65_3 hfz65_4 hfz65_5 hfz65_6 hfz65_7 hfz65_8 hfz65_9;try clear hfz71_0 hfz71_1 hfz71_10 hfz71_2 hfz71_3 hfz71_4 hfz71_5 hfz71_6 hfz71_7 hfz71_8 hfz71_9;try clear hfz78_0 hfz78_1 hfz78_2 hfz78_3 hfz78_4 hfz78_5 hfz78_6 hfz78_7;try clear hfz81_0 hfz81_1 hfz81_2 hfz81_3 hfz81_4 hfz81_5 hfz81_6 hfz81_7;try clear hx254_0;try clear hx255_0;try clear p254;try clear p255;try clear q254;try clear q255
          obtain ⟨kq,x250007_61,u250007,HA,HJ61,HO_250007,BK242,BK243,BK249,HB⟩:=hcut
          cases kq with
          | zero=>exact absurd HA.out (by simp [table_Lookup.j4])
          | succ kj61 =>
           have H:=HA.out;clear HA
           simp only [table_Lookup.j4] at H
           have H':=Aside0.mk H;clear H
           go_wp2
           go_loopg [12] kj61 (fun kq v12 w'=>∃ (x12_5:Int) (x250005_5:Int),v12=.int .i64 x12_5∧Aside0 (table_Lookup.l1 kq a1 x12_5 a0_0 l0_1 l0_2 l0_3 a0_4 a0_5 l0_6 l0_7 l0_8 l0_9 l0_10 (wrap64 (a0_0+t246)) (wrap64 ((wrap64 (a0_0+t246))+t250)) x250002_22 t248 0 x250005_5 x250006_53 x250007_61=some (r1,r2,r3,r4,r5,r6,r7,r8,r9))∧Aside0 (kq≤kj61)∧Aside0 (Kd.R (Kd.int .i64) 3 w' w.heap.size (fun _=>True) u250007 x250007_61)∧Aside0 (w'.heap[gb242]?=some (.cells #[.int .i64 a0_0,(.slice A0_1 l0_1.length c0_1),(.slice A0_2 l0_2.length c0_2),(.slice A0_3 l0_3.length c0_3),.bool a0_4,.int .i64 a0_5,(.slice A0_6 l0_6.length c0_6),(.slice A0_7 l0_7.length c0_7),(.slice A0_8 l0_8.length c0_8),(.slice A0_9 l0_9.length c0_9),(.slice A0_10 l0_10.length c0_10)] 27 (0,0)))∧Aside0 (w'.heap[gb243]?=some (.cells #[.int .i64 0,.int .i64 0,.int .i64 0,.int .i64 0,.int .i64 0,.int .i64 0,.bool false,(.slice none 0 0)] 48 (0,0)))∧Aside0 (w'.heap[gb249]?=some (.cells #[.int .i64 (wrap64 (a0_0+t246)),.int .i64 (wrap64 ((wrap64 (a0_0+t246))+t250)),.int .i64 x250002_22,.int .i64 t248,.int .i64 0,.int .i64 x250005_5,.bool x250006_53,u250007] 48 (0,0)))∧Aside0 (Below w.heap.size w w'))
           case atStart=>exact ⟨(0),(0),okV,H',⟨Nat.le_refl _⟩,⟨rowV HO_250007.out⟩,⟨blkV BK242.out⟩,⟨blkV BK243.out⟩,⟨blkV BK249.out⟩,⟨belV3 HB.out GE242.out GE243.out GE249.out⟩⟩
           case round =>
            clear H'
            try clear c2;try clear p2 p2;try clear q2 q2;try clear hx2;try clear c4;try clear c5;try clear c6;try clear p6 p6;try clear c7;try clear c25;try clear p25 p25;try clear q25 q25;try clear hx25;try clear c42;try clear c43;try clear c45;try clear c45b0;try clear c45b1;try clear c47;try clear c48;try clear c51;try clear c55;try clear c56;try clear c58;try clear c59;try clear c60;try clear c63;try clear c64;try clear p64 p64;try clear c66;try clear c66b0;try clear c66b1;try clear c67;try clear c67b0;try clear c68;try clear c68b0;try clear c69;try clear c70;try clear c72;try clear c72b0;try clear c73;try clear c73b0;try clear c74;try clear c74b0;try clear c75;try clear c76;try clear c77;try clear hcz44_0 hcz44_1 hcz44_10 hcz44_2 hcz44_3 hcz44_4 hcz44_5 hcz44_6 hcz44_7 hcz44_8 hcz44_9;try clear hcz49_0 hcz49_1 hcz49_10 hcz49_2 hcz49_3 hcz49_4 hcz49_5 hcz49_6 hcz49_7 hcz49_8 hcz49_9;try clear hcz52_0 hcz52_1 hcz52_2 hcz52_3 hcz52_4 hcz52_5 hcz52_6 hcz52_7;try clear hcz57_0 hcz57_1 hcz57_10 hcz57_2 hcz57_3 hcz57_4 hcz57_5 hcz57_6 hcz57_7 hcz57_8 hcz57_9;try clear hcz61_0 hcz61_1 hcz61_2 hcz61_3 hcz61_4 hcz61_5 hcz61_6 hcz61_7;try clear hcz65_0 hcz65_1 hcz65_10 hcz65_2 hcz65_3 hcz65_4 hcz65_5 hcz65_6 hcz65_7 hcz65_8 hcz65_9;try clear hcz71_0 hcz71_1 hcz71_10 hcz71_2 hcz71_3 hcz71_4 hcz71_5 hcz71_6 hcz71_7 hcz71_8 hcz71_9;try clear hcz78_0 hcz78_1 hcz78_2 hcz78_3 hcz78_4 hcz78_5 hcz78_6 hcz78_7;try clear hcz81_0 hcz81_1 hcz81_2 hcz81_3 hcz81_4 hcz81_5 hcz81_6 hcz81_7;try clear hfz44_0 hfz44_1 hfz44_10 hfz44_2 hfz44_3 hfz44_4 hfz44_5 hfz44_6 hfz44_7 hfz44_8 hfz44_9;try clear hfz49_0 hfz49_1 hfz49_10 hfz49_2 hfz49_3 hfz49_4 hfz49_5 hfz49_6 hfz49_7 hfz49_8 hfz49_9;try clear hfz52_0 hfz52_1 hfz52_2 hfz52_3 hfz52_4 hfz52_5 hfz52_6 hfz52_7;try clear hfz57_0 hfz57_1 hfz57_10 hfz57_2 hfz57_3 hfz57_4 hfz57_5 hfz57_6 hfz57_7 hfz57_8 hfz57_9;try clear hfz61_0 hfz61_1 hfz61_2 hfz61_3 hfz61_4 hfz61_5 hfz61_6 hfz61_7;try clear hfz65_0 hfz65_1 hfz65_10 hfz65_2 hfz65_3 hfz65_4 hfz65_5 hfz65_6 hfz65_7 hfz65_8 hfz65_9;try clear hfz71_0 hfz71_1 hfz71_10 hfz71_2 hfz71_3 hfz71_4 hfz71_5 hfz71_6 hfz71_7 hfz71_8 hfz71_9;try clear hfz78_0 hfz78_1 hfz78_2 hfz78_3 hfz78_4 hfz78_5 hfz78_6 hfz78_7;try clear hfz81_0 hfz81_1 hfz81_2 hfz81_3 hfz81_4 hfz81_5 hfz81_6 hfz81_7;try clear hx254_0;try clear hx255_0;try clear p254;try clear p255;try clear q254;try clear q255
            obtain ⟨x12_5,x250005_5,rfl,HA,HK5,HO_250007,BK242,BK243,BK249,HB⟩:=hrel
            cases gk with
            | zero=>exact absurd HA.out (by simp [table_Lookup.l1])
            | succ k5 =>
             have H:=HA.out;clear HA
             simp only [table_Lookup.l1] at H
             replace H:=Option.bind_eq_some_iff.mp H
             obtain ⟨t259,A820,H⟩:=H
             replace H:(if (wrap64 (x12_5+t259))≤a1 then ((table_inChunk.f k5 a0_0 l0_1 l0_2 l0_3 a0_4 a0_5 l0_6 l0_7 l0_8 l0_9 l0_10 x250005_5).bind fun t260=>(table_Lookup.l1 k5 a1 (wrap64 (x12_5+t260)) a0_0 l0_1 l0_2 l0_3 a0_4 a0_5 l0_6 l0_7 l0_8 l0_9 l0_10 (wrap64 (a0_0+t246)) (wrap64 ((wrap64 (a0_0+t246))+t250)) x250002_22 t248 0 (wrap64 (x250005_5+1)) x250006_53 x250007_61)) else (if 0≤x250005_5 then (if x250005_5 < (l0_8.length:Int) then (table_Lookup.l2 k5 a1 x12_5 a0_0 l0_1 l0_2 l0_3 a0_4 a0_5 l0_6 l0_7 l0_8 l0_9 l0_10 (wrap64 (a0_0+t246)) (wrap64 ((wrap64 (a0_0+t246))+t250)) x250002_22 t248 (rd l0_8 x250005_5) x250005_5 x250006_53 x250007_61) else (none)) else (none)))=some (r1,r2,r3,r4,r5,r6,r7,r8,r9):=H
             have A82:=Aside0.mk A820;clear A820
             by_cases c83:(wrap64 (x12_5+t259))≤a1
             · rw [if_pos c83] at H
               have c83b0:decide ((wrap64 (x12_5+t259))≤a1)=true:=decide_eq_true c83;clear c83
               replace H:=Option.bind_eq_some_iff.mp H
               obtain ⟨t260,A840,H⟩:=H
               replace H:(table_Lookup.l1 k5 a1 (wrap64 (x12_5+t260)) a0_0 l0_1 l0_2 l0_3 a0_4 a0_5 l0_6 l0_7 l0_8 l0_9 l0_10 (wrap64 (a0_0+t246)) (wrap64 ((wrap64 (a0_0+t246))+t250)) x250002_22 t248 0 (wrap64 (x250005_5+1)) x250006_53 x250007_61)=some (r1,r2,r3,r4,r5,r6,r7,r8,r9):=H
               have A84:=Aside0.mk A840;clear A840
               have H':=Aside0.mk H;clear H
               have hnb85:=NB242_243.out
               have hnc85:=NB243_242.out
               have hnb86:=NB242_249.out
               have hnc86:=NB249_242.out
               obtain ⟨hcz87_0,hcz87_1,hcz87_2,hcz87_3,hcz87_4,hcz87_5,hcz87_6,hcz87_7,hcz87_8,hcz87_9,hcz87_10,hfz87_0,hfz87_1,hfz87_2,hfz87_3,hfz87_4,hfz87_5,hfz87_6,hfz87_7,hfz87_8,hfz87_9,hfz87_10⟩:=bcells11 BK242.out
               have hnb88:=NB249_243.out
               have hnc88:=NB243_249.out
               obtain ⟨hcz89_0,hcz89_1,hcz89_2,hcz89_3,hcz89_4,hcz89_5,hcz89_6,hcz89_7,hfz89_0,hfz89_1,hfz89_2,hfz89_3,hfz89_4,hfz89_5,hfz89_6,hfz89_7⟩:=bcells8 BK249.out
               go_wp2_with (first|((with_reducible refine gate_callee (f:=70) rfl ?_);refine goesL_ (some 100) rfl rfl Try.func70 (by kernel_rfl) rfl #[.agg #[.int .i64 a0_0,.slice A0_1 l0_1.length c0_1,.slice A0_2 l0_2.length c0_2,.slice A0_3 l0_3.length c0_3,.bool a0_4,.int .i64 a0_5,.slice A0_6 l0_6.length c0_6,.slice A0_7 l0_7.length c0_7,.slice A0_8 l0_8.length c0_8,.slice A0_9 l0_9.length c0_9,.slice A0_10 l0_10.length c0_10],.int .i64 x250005_5] rfl (by (try simp only [List.map_toArray,List.map_cons,List.map_nil]);first|done|rfl|(simp only [List.length_drop,List.length_take];rfl)) ?_;(with_reducible refine (table_inChunk.calls k5 a0_0 _ _ l0_1 _ _ l0_2 _ _ l0_3 a0_4 a0_5 _ _ l0_6 _ _ l0_7 _ _ l0_8 _ _ l0_9 _ _ l0_10 x250005_5 t259 _ ?side1 ?side2 ?side3 ?side4 ?side5 ?side6 ?side7 ?side8 ?side9 ?side10 ?side11 ?side12 ?side13 ?side14 ?side15 ?side16 A82.out).mono ?_);(case side1=>exact cV (Kd.C_below HR0_1.out HB.out));(case side2=>exact HC0_1.out);(case side3=>exact cV (Kd.C_below HR0_2.out HB.out));(case side4=>exact HC0_2.out);(case side5=>exact cV (Kd.C_below HR0_3.out HB.out));(case side6=>exact HC0_3.out);(case side7=>exact cV (Kd.C_below HR0_6.out HB.out));(case side8=>exact HC0_6.out);(case side9=>exact cV (Kd.C_below HR0_7.out HB.out));(case side10=>exact HC0_7.out);(case side11=>exact cV (Kd.C_below HR0_8.out HB.out));(case side12=>exact HC0_8.out);(case side13=>exact cV (Kd.C_below HR0_9.out HB.out));(case side14=>exact HC0_9.out);(case side15=>exact cV (Kd.C_below HR0_10.out HB.out));(case side16=>exact HC0_10.out);rintro e w90 ⟨rfl,hb⟩;refine ⟨_,rfl,?_⟩;have n0_:=Aside0.mk (Kd.R_below (rowV HO_250007.out) hb);have n1_:=Aside0.mk (blk_below (g:=gb242) (blkV BK242.out) hb);have n2_:=Aside0.mk (blk_below (g:=gb243) (blkV BK243.out) hb);have n3_:=Aside0.mk (blk_below (g:=gb249) (blkV BK249.out) hb);have n4_:=Aside0.mk (below_step (belV3 HB.out GE242.out GE243.out GE249.out) hb);clear HO_250007;clear BK242;clear BK243;clear BK249;clear HB;have HO_250007:=n0_;have BK242:=n1_;have BK243:=n2_;have BK249:=n3_;have HB:=n4_;clear n0_ n1_ n2_ n3_ n4_;(try clear hb);(try clear hb2);(try clear hk);(try clear hi);obtain ⟨hcz91_0,hcz91_1,hcz91_2,hcz91_3,hcz91_4,hcz91_5,hcz91_6,hcz91_7,hcz91_8,hcz91_9,hcz91_10,hfz91_0,hfz91_1,hfz91_2,hfz91_3,hfz91_4,hfz91_5,hfz91_6,hfz91_7,hfz91_8,hfz91_9,hfz91_10⟩:=bcells11 BK242.out;obtain ⟨hcz92_0,hcz92_1,hcz92_2,hcz92_3,hcz92_4,hcz92_5,hcz92_6,hcz92_7,hfz92_0,hfz92_1,hfz92_2,hfz92_3,hfz92_4,hfz92_5,hfz92_6,hfz92_7⟩:=bcells8 BK249.out)|((with_reducible refine gate_callee (f:=70) rfl ?_);refine goesL_ (some 108) rfl rfl Try.func70 (by kernel_rfl) rfl #[.agg #[.int .i64 a0_0,.slice A0_1 l0_1.length c0_1,.slice A0_2 l0_2.length c0_2,.slice A0_3 l0_3.length c0_3,.bool a0_4,.int .i64 a0_5,.slice A0_6 l0_6.length c0_6,.slice A0_7 l0_7.length c0_7,.slice A0_8 l0_8.length c0_8,.slice A0_9 l0_9.length c0_9,.slice A0_10 l0_10.length c0_10],.int .i64 x250005_5] rfl (by (try simp only [List.map_toArray,List.map_cons,List.map_nil]);first|done|rfl|(simp only [List.length_drop,List.length_take];rfl)) ?_;(with_reducible refine (table_inChunk.calls k5 a0_0 _ _ l0_1 _ _ l0_2 _ _ l0_3 a0_4 a0_5 _ _ l0_6 _ _ l0_7 _ _ l0_8 _ _ l0_9 _ _ l0_10 x250005_5 t260 _ ?side1 ?side2 ?side3 ?side4 ?side5 ?side6 ?side7 ?side8 ?side9 ?side10 ?side11 ?side12 ?side13 ?side14 ?side15 ?side16 A84.out).mono ?_);(case side1=>exact cV (Kd.C_below HR0_1.out HB.out));(case side2=>exact HC0_1.out);(case side3=>exact cV (Kd.C_below HR0_2.out HB.out));(case side4=>exact HC0_2.out);(case side5=>exact cV (Kd.C_below HR0_3.out HB.out));(case side6=>exact HC0_3.out);(case side7=>exact cV (Kd.C_below HR0_6.out HB.out));(case side8=>exact HC0_6.out);(case side9=>exact cV (Kd.C_below HR0_7.out HB.out));(case side10=>exact HC0_7.out);(case side11=>exact cV (Kd.C_below HR0_8.out HB.out));(case side12=>exact HC0_8.out);(case side13=>exact cV (Kd.C_below HR0_9.out HB.out));(case side14=>exact HC0_9.out);(case side15=>exact cV (Kd.C_below HR0_10.out HB.out));(case side16=>exact HC0_10.out);rintro e w93 ⟨rfl,hb⟩;refine ⟨_,rfl,?_⟩;have n0_:=Aside0.mk (Kd.R_below (rowV HO_250007.out) hb);have n1_:=Aside0.mk (blk_below (g:=gb242) (blkV BK242.out) hb);have n2_:=Aside0.mk (blk_below (g:=gb243) (blkV BK243.out) hb);have n3_:=Aside0.mk (blk_below (g:=gb249) (blkV BK249.out) hb);have n4_:=Aside0.mk (below_step (belV3 HB.out GE242.out GE243.out GE249.out) hb);clear HO_250007;clear BK242;clear BK243;clear BK249;clear HB;have HO_250007:=n0_;have BK242:=n1_;have BK243:=n2_;have BK249:=n3_;have HB:=n4_;clear n0_ n1_ n2_ n3_ n4_;(try clear hb);(try clear hb2);(try clear hk);(try clear hi);obtain ⟨hcz94_0,hcz94_1,hcz94_2,hcz94_3,hcz94_4,hcz94_5,hcz94_6,hcz94_7,hfz94_0,hfz94_1,hfz94_2,hfz94_3,hfz94_4,hfz94_5,hfz94_6,hfz94_7⟩:=bcells8 BK249.out))
               go_roundg k5
               case measure=>have:=HJ4.out;have:=HJ22.out;have:=HJ53.out;have:=HJ61.out;have:=HK5.out;omega
               case rel=>exact ⟨(wrap64 (x12_5+t260)),(wrap64 (x250005_5+1)),okV,H',⟨by have:=HJ4.out;have:=HJ22.out;have:=HJ53.out;have:=HJ61.out;have:=HK5.out;omega⟩,⟨by (with_reducible repeat (first|apply Kd.R_alloc|apply Kd.R_drewN|apply Kd.R_drew));exact Kd.R_mono (Kd.R_far (p:=⟨gb249,5,none⟩) (Kd.R_types HO_250007.out BK249.out (by decide)) (fun _ hk=>hk.2) (.int .i64 (wrap64 (x250005_5+1)))) (fun _ hk=>trivial)⟩,⟨blkW BK242.out NB242_249.out⟩,⟨blkW BK243.out NB243_249.out⟩,⟨by (with_reducible repeat (first|refine blk_drewN ?_ _|refine blk_drew ?_|refine blk_alloc ?_ _));refine blk_put (cs:=#[.int .i64 (wrap64 (a0_0+t246)),.int .i64 (wrap64 ((wrap64 (a0_0+t246))+t250)),.int .i64 x250002_22,.int .i64 t248,.int .i64 0,.int .i64 x250005_5,.bool x250006_53,u250007]) ?_ 5 _ rfl;(with_reducible repeat (first|refine blk_drewN ?_ _|refine blk_drew ?_|refine blk_alloc ?_ _));exact BK249.out⟩,⟨belV3 HB.out GE242.out GE243.out GE249.out⟩⟩
             rw [if_neg c83] at H
             have c83b0:decide ((wrap64 (x12_5+t259))≤a1)=false:=decide_eq_false c83;clear c83
             by_cases c95:0≤x250005_5
             · rw [if_pos c95] at H
               have c95b0:decide (0≤x250005_5)=true:=decide_eq_true c95;clear c95
               by_cases c96:x250005_5 < (l0_8.length:Int)
               · rw [if_pos c96] at H
                 have c96b0:decide (x250005_5 < (l0_8.length:Int))=true:=decide_eq_true c96;clear c96
                 have H':=Aside0.mk H;clear H
                 have hnb97:=NB242_243.out
                 have hnc97:=NB243_242.out
                 have hnb98:=NB242_249.out
                 have hnc98:=NB249_242.out
                 obtain ⟨hcz99_0,hcz99_1,hcz99_2,hcz99_3,hcz99_4,hcz99_5,hcz99_6,hcz99_7,hcz99_8,hcz99_9,hcz99_10,hfz99_0,hfz99_1,hfz99_2,hfz99_3,hfz99_4,hfz99_5,hfz99_6,hfz99_7,hfz99_8,hfz99_9,hfz99_10⟩:=bcells11 BK242.out
                 have hnb100:=NB249_243.out
                 have hnc100:=NB243_249.out
                 obtain ⟨hcz101_0,hcz101_1,hcz101_2,hcz101_3,hcz101_4,hcz101_5,hcz101_6,hcz101_7,hfz101_0,hfz101_1,hfz101_2,hfz101_3,hfz101_4,hfz101_5,hfz101_6,hfz101_7⟩:=bcells8 BK249.out
                 go_wp2_with (first|((with_reducible refine gate_callee (f:=70) rfl ?_);refine goesL_ (some 100) rfl rfl Try.func70 (by kernel_rfl) rfl #[.agg #[.int .i64 a0_0,.slice A0_1 l0_1.length c0_1,.slice A0_2 l0_2.length c0_2,.slice A0_3 l0_3.length c0_3,.bool a0_4,.int .i64 a0_5,.slice A0_6 l0_6.length c0_6,.slice A0_7 l0_7.length c0_7,.slice A0_8 l0_8.length c0_8,.slice A0_9 l0_9.length c0_9,.slice A0_10 l0_10.length c0_10],.int .i64 x250005_5] rfl (by (try simp only [List.map_toArray,List.map_cons,List.map_nil]);first|done|rfl|(simp only [List.length_drop,List.length_take];rfl)) ?_;(with_reducible refine (table_inChunk.calls k5 a0_0 _ _ l0_1 _ _ l0_2 _ _ l0_3 a0_4 a0_5 _ _ l0_6 _ _ l0_7 _ _ l0_8 _ _ l0_9 _ _ l0_10 x250005_5 t259 _ ?side1 ?side2 ?side3 ?side4 ?side5 ?side6 ?side7 ?side8 ?side9 ?side10 ?side11 ?side12 ?side13 ?side14 ?side15 ?side16 A82.out).mono ?_);(case side1=>exact cV (Kd.C_below HR0_1.out HB.out));(case side2=>exact HC0_1.out);(case side3=>exact cV (Kd.C_below HR0_2.out HB.out));(case side4=>exact HC0_2.out);(case side5=>exact cV (Kd.C_below HR0_3.out HB.out));(case side6=>exact HC0_3.out);(case side7=>exact cV (Kd.C_below HR0_6.out HB.out));(case side8=>exact HC0_6.out);(case side9=>exact cV (Kd.C_below HR0_7.out HB.out));(case side10=>exact HC0_7.out);(case side11=>exact cV (Kd.C_below HR0_8.out HB.out));(case side12=>exact HC0_8.out);(case side13=>exact cV (Kd.C_below HR0_9.out HB.out));(case side14=>exact HC0_9.out);(case side15=>exact cV (Kd.C_below HR0_10.out HB.out));(case side16=>exact HC0_10.out);rintro e w102 ⟨rfl,hb⟩;refine ⟨_,rfl,?_⟩;have n0_:=Aside0.mk (Kd.R_below (rowV HO_250007.out) hb);have n1_:=Aside0.mk (blk_below (g:=gb242) (blkV BK242.out) hb);have n2_:=Aside0.mk (blk_below (g:=gb243) (blkV BK243.out) hb);have n3_:=Aside0.mk (blk_below (g:=gb249) (blkV BK249.out) hb);have n4_:=Aside0.mk (below_step (belV3 HB.out GE242.out GE243.out GE249.out) hb);clear HO_250007;clear BK242;clear BK243;clear BK249;clear HB;have HO_250007:=n0_;have BK242:=n1_;have BK243:=n2_;have BK249:=n3_;have HB:=n4_;clear n0_ n1_ n2_ n3_ n4_;(try clear hb);(try clear hb2);(try clear hk);(try clear hi);obtain ⟨hcz103_0,hcz103_1,hcz103_2,hcz103_3,hcz103_4,hcz103_5,hcz103_6,hcz103_7,hcz103_8,hcz103_9,hcz103_10,hfz103_0,hfz103_1,hfz103_2,hfz103_3,hfz103_4,hfz103_5,hfz103_6,hfz103_7,hfz103_8,hfz103_9,hfz103_10⟩:=bcells11 BK242.out;obtain ⟨hcz104_0,hcz104_1,hcz104_2,hcz104_3,hcz104_4,hcz104_5,hcz104_6,hcz104_7,hfz104_0,hfz104_1,hfz104_2,hfz104_3,hfz104_4,hfz104_5,hfz104_6,hfz104_7⟩:=bcells8 BK249.out;have p261:0≤(x250005_5:Int):=of_decide_eq_true asV;have q261:x250005_5 < (l0_8.length:Int):=of_decide_eq_true asV;obtain ⟨ad261,e261,hx261_0⟩:=Kd.at_int HR0_8.out x250005_5 p261 q261;cases e261;replace hx261_0:=(HB.out.cell (World.block_lt_of_cell? w _ hx261_0)).trans hx261_0;replace p261:=eq_true p261;replace q261:=eq_true q261))
                 go_loopg [13] k5 (fun kq v13 w'=>∃ (x13_6:Int) (x250004_6:Int),v13=.int .i64 x13_6∧Aside0 (table_Lookup.l2 kq a1 x13_6 a0_0 l0_1 l0_2 l0_3 a0_4 a0_5 l0_6 l0_7 l0_8 l0_9 l0_10 (wrap64 (a0_0+t246)) (wrap64 ((wrap64 (a0_0+t246))+t250)) x250002_22 t248 x250004_6 x250005_5 x250006_53 x250007_61=some (r1,r2,r3,r4,r5,r6,r7,r8,r9))∧Aside0 (kq≤k5)∧Aside0 (Kd.R (Kd.int .i64) 3 w' w.heap.size (fun _=>True) u250007 x250007_61)∧Aside0 (w'.heap[gb242]?=some (.cells #[.int .i64 a0_0,(.slice A0_1 l0_1.length c0_1),(.slice A0_2 l0_2.length c0_2),(.slice A0_3 l0_3.length c0_3),.bool a0_4,.int .i64 a0_5,(.slice A0_6 l0_6.length c0_6),(.slice A0_7 l0_7.length c0_7),(.slice (some ad261) l0_8.length c0_8),(.slice A0_9 l0_9.length c0_9),(.slice A0_10 l0_10.length c0_10)] 27 (0,0)))∧Aside0 (w'.heap[gb243]?=some (.cells #[.int .i64 0,.int .i64 0,.int .i64 0,.int .i64 0,.int .i64 0,.int .i64 0,.bool false,(.slice none 0 0)] 48 (0,0)))∧Aside0 (w'.heap[gb249]?=some (.cells #[.int .i64 (wrap64 (a0_0+t246)),.int .i64 (wrap64 ((wrap64 (a0_0+t246))+t250)),.int .i64 x250002_22,.int .i64 t248,.int .i64 x250004_6,.int .i64 x250005_5,.bool x250006_53,u250007] 48 (0,0)))∧Aside0 (Below w.heap.size w w'))
                 case atStart=>exact ⟨(x12_5),(rd l0_8 x250005_5),okV,H',⟨Nat.le_refl _⟩,⟨by (with_reducible repeat (first|apply Kd.R_alloc|apply Kd.R_drewN|apply Kd.R_drew));exact Kd.R_mono (Kd.R_put1 HO_250007.out BK249.out (by decide)) (fun _ hk=>trivial)⟩,⟨blkW BK242.out NB242_249.out⟩,⟨blkW BK243.out NB243_249.out⟩,⟨by (with_reducible repeat (first|refine blk_drewN ?_ _|refine blk_drew ?_|refine blk_alloc ?_ _));refine blk_put (cs:=#[.int .i64 (wrap64 (a0_0+t246)),.int .i64 (wrap64 ((wrap64 (a0_0+t246))+t250)),.int .i64 x250002_22,.int .i64 t248,.int .i64 0,.int .i64 x250005_5,.bool x250006_53,u250007]) ?_ 4 _ rfl;(with_reducible repeat (first|refine blk_drewN ?_ _|refine blk_drew ?_|refine blk_alloc ?_ _));exact BK249.out⟩,⟨belV3 HB.out GE242.out GE243.out GE249.out⟩⟩
                 case round =>
                  clear H'
                  try clear c1;try clear c2;try clear p2 p2;try clear q2 q2;try clear hx2;try clear c4;try clear c5;try clear c6;try clear p6 p6;try clear c7;try clear c8;try clear c9;try clear c10;try clear c25;try clear p25 p25;try clear q25 q25;try clear hx25;try clear p26;try clear q26;try clear hx26;try clear c42;try clear c43;try clear c45;try clear c45b0;try clear c45b1;try clear c47;try clear c48;try clear c51;try clear c55;try clear c56;try clear c58;try clear c59;try clear c60;try clear c63;try clear c64;try clear p64 p64;try clear c66;try clear c66b0;try clear c66b1;try clear c67;try clear c67b0;try clear c68;try clear c68b0;try clear c69;try clear c70;try clear c72;try clear c72b0;try clear c73;try clear c73b0;try clear c74;try clear c74b0;try clear c75;try clear c76;try clear c77;try clear c83;try clear c83b0;try clear c85;try clear c86;try clear c88;try clear c95;try clear c95b0;try clear c96;try clear c96b0;try clear c97;try clear c98;try clear c100;try clear hcz101_0 hcz101_1 hcz101_2 hcz101_3 hcz101_4 hcz101_5 hcz101_6 hcz101_7;try clear hcz103_0 hcz103_1 hcz103_10 hcz103_2 hcz103_3 hcz103_4 hcz103_5 hcz103_6 hcz103_7 hcz103_8 hcz103_9;try clear hcz104_0 hcz104_1 hcz104_2 hcz104_3 hcz104_4 hcz104_5 hcz104_6 hcz104_7;try clear hcz44_0 hcz44_1 hcz44_10 hcz44_2 hcz44_3 hcz44_4 hcz44_5 hcz44_6 hcz44_7 hcz44_8 hcz44_9;try clear hcz49_0 hcz49_1 hcz49_10 hcz49_2 hcz49_3 hcz49_4 hcz49_5 hcz49_6 hcz49_7 hcz49_8 hcz49_9;try clear hcz52_0 hcz52_1 hcz52_2 hcz52_3 hcz52_4 hcz52_5 hcz52_6 hcz52_7;try clear hcz57_0 hcz57_1 hcz57_10 hcz57_2 hcz57_3 hcz57_4 hcz57_5 hcz57_6 hcz57_7 hcz57_8 hcz57_9;try clear hcz61_0 hcz61_1 hcz61_2 hcz61_3 hcz61_4 hcz61_5 hcz61_6 hcz61_7;try clear hcz65_0 hcz65_1 hcz65_10 hcz65_2 hcz65_3 hcz65_4 hcz65_5 hcz65_6 hcz65_7 hcz65_8 hcz65_9;try clear hcz71_0 hcz71_1 hcz71_10 hcz71_2 hcz71_3 hcz71_4 hcz71_5 hcz71_6 hcz71_7 hcz71_8 hcz71_9;try clear hcz78_0 hcz78_1 hcz78_2 hcz78_3 hcz78_4 hcz78_5 hcz78_6 hcz78_7;try clear hcz81_0 hcz81_1 hcz81_2 hcz81_3 hcz81_4 hcz81_5 hcz81_6 hcz81_7;try clear hcz87_0 hcz87_1 hcz87_10 hcz87_2 hcz87_3 hcz87_4 hcz87_5 hcz87_6 hcz87_7 hcz87_8 hcz87_9;try clear hcz89_0 hcz89_1 hcz89_2 hcz89_3 hcz89_4 hcz89_5 hcz89_6 hcz89_7;try clear hcz91_0 hcz91_1 hcz91_10 hcz91_2 hcz91_3 hcz91_4 hcz91_5 hcz91_6 hcz91_7 hcz91_8 hcz91_9;try clear hcz92_0 hcz92_1 hcz92_2 hcz92_3 hcz92_4 hcz92_5 hcz92_6 hcz92_7;try clear hcz94_0 hcz94_1 hcz94_2 hcz94_3 hcz94_4 hcz94_5 hcz94_6 hcz94_7;try clear hcz99_0 hcz99_1 hcz99_10 hcz99_2 hcz99_3 hcz99_4 hcz99_5 hcz99_6 hcz99_7 hcz99_8 hcz99_9;try clear hfz101_0 hfz101_1 hfz101_2 hfz101_3 hfz101_4 hfz101_5 hfz101_6 hfz101_7;try clear hfz103_0 hfz103_1 hfz103_10 hfz103_2 hfz103_3 hfz103_4 hfz103_5 hfz103_6 hfz103_7 hfz103_8 hfz103_9;try clear hfz104_0 hfz104_1 hfz104_2 hfz104_3 hfz104_4 hfz104_5 hfz104_6 hfz104_7;try clear hfz44_0 hfz44_1 hfz44_10 hfz44_2 hfz44_3 hfz44_4 hfz44_5 hfz44_6 hfz44_7 hfz44_8 hfz44_9;try clear hfz49_0 hfz49_1 hfz49_10 hfz49_2 hfz49_3 hfz49_4 hfz49_5 hfz49_6 hfz49_7 hfz49_8 hfz49_9;try clear hfz52_0 hfz52_1 hfz52_2 hfz52_3 hfz52_4 hfz52_5 hfz52_6 hfz52_7;try clear hfz57_0 hfz57_1 hfz57_10 hfz57_2 hfz57_3 hfz57_4 hfz57_5 hfz57_6 hfz57_7 hfz57_8 hfz57_9;try clear hfz61_0 hfz61_1 hfz61_2 hfz61_3 hfz61_4 hfz61_5 hfz61_6 hfz61_7;try clear hfz65_0 hfz65_1 hfz65_10 hfz65_2 hfz65_3 hfz65_4 hfz65_5 hfz65_6 hfz65_7 hfz65_8 hfz65_9;try clear hfz71_0 hfz71_1 hfz71_10 hfz71_2 hfz71_3 hfz71_4 hfz71_5 hfz71_6 hfz71_7 hfz71_8 hfz71_9;try clear hfz78_0 hfz78_1 hfz78_2 hfz78_3 hfz78_4 hfz78_5 hfz78_6 hfz78_7;try clear hfz81_0 hfz81_1 hfz81_2 hfz81_3 hfz81_4 hfz81_5 hfz81_6 hfz81_7;try clear hfz87_0 hfz87_1 hfz87_10 hfz87_2 hfz87_3 hfz87_4 hfz87_5 hfz87_6 hfz87_7 hfz87_8 hfz87_9;try clear hfz89_0 hfz89_1 hfz89_2 hfz89_3 hfz89_4 hfz89_5 hfz89_6 hfz89_7;try clear hfz91_0 hfz91_1 hfz91_10 hfz91_2 hfz91_3 hfz91_4 hfz91_5 hfz91_6 hfz91_7 hfz91_8 hfz91_9;try clear hfz92_0 hfz92_1 hfz92_2 hfz92_3 hfz92_4 hfz92_5 hfz92_6 hfz92_7;try clear hfz94_0 hfz94_1 hfz94_2 hfz94_3 hfz94_4 hfz94_5 hfz94_6 hfz94_7;try clear hfz99_0 hfz99_1 hfz99_10 hfz99_2 hfz99_3 hfz99_4 hfz99_5 hfz99_6 hfz99_7 hfz99_8 hfz99_9;try clear hx254_0;try clear hx255_0;try clear hx261_0;try clear p254;try clear p255;try clear p261;try clear q254;try clear q255;try clear q261
                  obtain ⟨x13_6,x250004_6,rfl,HA,HK6,HO_250007,BK242,BK243,BK249,HB⟩:=hrel
                  cases gk with
                  | zero=>exact absurd HA.out (by simp [table_Lookup.l2])
                  | succ k6 =>
                   have H:=HA.out;clear HA
                   simp only [table_Lookup.l2] at H
                   by_cases c105:x13_6 < a1
                   · rw [if_pos c105] at H
                     have c105b0:decide (x13_6 < a1)=true:=decide_eq_true c105;clear c105
                     replace H:=Option.bind_eq_some_iff.mp H
                     obtain ⟨t262,A1060,H⟩:=H
                     replace H:(table_Lookup.l2 k6 a1 (wrap64 (x13_6+1)) a0_0 l0_1 l0_2 l0_3 a0_4 a0_5 l0_6 l0_7 l0_8 l0_9 l0_10 (wrap64 (a0_0+t246)) (wrap64 ((wrap64 (a0_0+t246))+t250)) x250002_22 t248 (wrap64 (x250004_6+t262)) x250005_5 x250006_53 x250007_61)=some (r1,r2,r3,r4,r5,r6,r7,r8,r9):=H
                     have A106:=Aside0.mk A1060;clear A1060
                     have H':=Aside0.mk H;clear H
                     try go_wp2
                     have n0_:=Aside0.mk (Kd.R_drew HO_250007.out)
                     have n1_:=Aside0.mk (blk_drew BK242.out)
                     have n2_:=Aside0.mk (blk_drew BK243.out)
                     have n3_:=Aside0.mk (blk_drew BK249.out)
                     have n4_:=Aside0.mk (below_drew1 HB.out);clear HO_250007;clear BK242;clear BK243;clear BK249;clear HB;have HO_250007:=n0_;have BK242:=n1_;have BK243:=n2_;have BK249:=n3_;have HB:=n4_;clear n0_ n1_ n2_ n3_ n4_
                     refine start_ (n:=8) (S:=fun w'=>w'.cell? ⟨gb249,0,none⟩=some (.int .i64 (wrap64 (a0_0+t246)))∧w'.cell? ⟨gb249,1,none⟩=some (.int .i64 (wrap64 ((wrap64 (a0_0+t246))+t250)))∧w'.cell? ⟨gb249,2,none⟩=some (.int .i64 x250002_22)∧w'.cell? ⟨gb249,3,none⟩=some (.int .i64 t248)∧w'.cell? ⟨gb249,4,none⟩=some (.int .i64 x250004_6)∧w'.cell? ⟨gb249,5,none⟩=some (.int .i64 x250005_5)∧w'.cell? ⟨gb249,6,none⟩=some (.bool x250006_53)∧w'.cell? ⟨gb249,7,none⟩=some (u250007)∧w'.cell? ⟨gb242,0,none⟩=some (.int .i64 a0_0)∧w'.cell? ⟨gb242,1,none⟩=some (.slice A0_1 l0_1.length c0_1)∧w'.cell? ⟨gb242,2,none⟩=some (.slice A0_2 l0_2.length c0_2)∧w'.cell? ⟨gb242,3,none⟩=some (.slice A0_3 l0_3.length c0_3)∧w'.cell? ⟨gb242,4,none⟩=some (.bool a0_4)∧w'.cell? ⟨gb242,5,none⟩=some (.int .i64 a0_5)∧w'.cell? ⟨gb242,6,none⟩=some (.slice A0_6 l0_6.length c0_6)∧w'.cell? ⟨gb242,7,none⟩=some (.slice A0_7 l0_7.length c0_7)∧w'.cell? ⟨gb242,8,none⟩=some (.slice (some ad261) l0_8.length c0_8)∧w'.cell? ⟨gb242,9,none⟩=some (.slice A0_9 l0_9.length c0_9)∧w'.cell? ⟨gb242,10,none⟩=some (.slice A0_10 l0_10.length c0_10)) (ds:=[7]) ((bm false [8]).toArray) (by kernel_rfl) rfl rfl ⟨(blk_cell BK249.out 0).trans rfl,(blk_cell BK249.out 1).trans rfl,(blk_cell BK249.out 2).trans rfl,(blk_cell BK249.out 3).trans rfl,(blk_cell BK249.out 4).trans rfl,(blk_cell BK249.out 5).trans rfl,(blk_cell BK249.out 6).trans rfl,(blk_cell BK249.out 7).trans rfl,(blk_cell BK242.out 0).trans rfl,(blk_cell BK242.out 1).trans rfl,(blk_cell BK242.out 2).trans rfl,(blk_cell BK242.out 3).trans rfl,(blk_cell BK242.out 4).trans rfl,(blk_cell BK242.out 5).trans rfl,(blk_cell BK242.out 6).trans rfl,(blk_cell BK242.out 7).trans rfl,(blk_cell BK242.out 8).trans rfl,(blk_cell BK242.out 9).trans rfl,(blk_cell BK242.out 10).trans rfl⟩ (fun hHeld=>?_);refine with_tabW table_Lookup.tab27 table_Lookup.bits27 (fun HT_ HW_=>?_)
                     generalize wr.drew=w107 at HO_250007 BK242 BK243 BK249 HB hHeld ⊢
                     refine pure_ (i:=0) (N:=some 127) (v:=?_) (a':=?_) ((bm true [1,7]).toArray) rfl rfl (any_of HT_.out (by kernel_rfl)) (fun _ _ _ h=>h) (Or.inl ⟨by rfl,?_⟩) ?_ ?_;rotate_left
                     · intro w';go_simp;with_reducible rfl
                     rotate_left
                     · simp only [Act.put,List.setIfInBounds_toArray,List.set_cons_zero,List.set_cons_succ,i64_w,i32_w];rfl
                     refine pure_ (i:=3) (N:=some 130) (v:=?_) (a':=?_) ((bm true [1,2,1,4]).toArray) rfl rfl (any_of HT_.out (by kernel_rfl)) (fun _ _ _ h=>h) (Or.inl ⟨by rfl,?_⟩) ?_ ?_;rotate_left
                     · intro w';go_simp;with_reducible rfl
                     rotate_left
                     · simp only [Act.put,List.setIfInBounds_toArray,List.set_cons_zero,List.set_cons_succ,i64_w,i32_w];rfl
                     refine take_ (i:=1) (N:=some 128) (v:=?_) (a':=?_) ((bm true [2,1,1,4]).toArray) rfl rfl (take_ofW HT_.out HW_.out (by kernel_rfl)) (fun _ _ _ h=>h) (Or.inl ⟨by rfl,?_⟩) hHeld ?_ ?_;rotate_left
                     · rintro w' ⟨s0,s1,s2,s3,s4,s5,s6,s7,s8,s9,s10,s11,s12,s13,s14,s15,s16,s17,s18⟩
                       go_simp;with_reducible rfl
                     rotate_left
                     · simp only [Act.put,List.setIfInBounds_toArray,List.set_cons_zero,List.set_cons_succ,i64_w,i32_w];rfl
                     refine take_ (i:=2) (N:=some 129) (v:=?_) (a':=?_) ((bm true [4,4]).toArray) rfl rfl (take_ofW HT_.out HW_.out (by kernel_rfl)) (fun _ _ _ h=>h) (Or.inl ⟨by rfl,?_⟩) hHeld ?_ ?_;rotate_left
                     · rintro w' ⟨s0,s1,s2,s3,s4,s5,s6,s7,s8,s9,s10,s11,s12,s13,s14,s15,s16,s17,s18⟩
                       go_simp;with_reducible rfl
                     rotate_left
                     · simp only [Act.put,List.setIfInBounds_toArray,List.set_cons_zero,List.set_cons_succ,i64_w,i32_w];rfl
                     refine one_ (i:=4) (N:=some 131) ((bm true [5,3]).toArray) rfl rfl (one_of HT_.out (by kernel_rfl)) (by decide) (fun K hK=>?_)
                     refine goes_ Try.func74 (by kernel_rfl) rfl #[.agg #[.int .i64 a0_0,.slice A0_1 l0_1.length c0_1,.slice A0_2 l0_2.length c0_2,.slice A0_3 l0_3.length c0_3,.bool a0_4,.int .i64 a0_5,.slice A0_6 l0_6.length c0_6,.slice A0_7 l0_7.length c0_7,.slice (some ad261) l0_8.length c0_8,.slice A0_9 l0_9.length c0_9,.slice A0_10 l0_10.length c0_10],.int .i64 x13_6] (by rfl) rfl rfl (by (try simp only [List.map_toArray,List.map_cons,List.map_nil]);first|done|rfl|(simp only [List.length_drop,List.length_take];rfl)) ?_
                     with_reducible refine (table_size.calls a0_0 _ _ l0_1 _ _ l0_2 _ _ l0_3 a0_4 a0_5 _ _ l0_6 _ _ l0_7 _ _ l0_8 _ _ l0_9 _ _ l0_10 x13_6 t262 _ ?side1 ?side2 ?side3 ?side4 ?side5 ?side6 ?side7 ?side8 ?side9 ?side10 ?side11 ?side12 ?side13 ?side14 ?side15 ?side16 A106.out).mono ?_
                     (case side1=>exact cV (Kd.C_below HR0_1.out HB.out))
                     (case side2=>exact HC0_1.out)
                     (case side3=>exact cV (Kd.C_below HR0_2.out HB.out))
                     (case side4=>exact HC0_2.out)
                     (case side5=>exact cV (Kd.C_below HR0_3.out HB.out))
                     (case side6=>exact HC0_3.out)
                     (case side7=>exact cV (Kd.C_below HR0_6.out HB.out))
                     (case side8=>exact HC0_6.out)
                     (case side9=>exact cV (Kd.C_below HR0_7.out HB.out))
                     (case side10=>exact HC0_7.out)
                     (case side11=>exact cV (Kd.C_below HR0_8.out HB.out))
                     (case side12=>exact HC0_8.out)
                     (case side13=>exact cV (Kd.C_below HR0_9.out HB.out))
                     (case side14=>exact HC0_9.out)
                     (case side15=>exact cV (Kd.C_below HR0_10.out HB.out))
                     (case side16=>exact HC0_10.out)
                     rintro e w108 ⟨rfl,hb⟩
                     refine ⟨_,rfl,?_⟩
                     have n0_:=Aside0.mk (Kd.R_below (rowV HO_250007.out) hb)
                     have n1_:=Aside0.mk (blk_below (g:=gb242) (blkV BK242.out) hb)
                     have n2_:=Aside0.mk (blk_below (g:=gb243) (blkV BK243.out) hb)
                     have n3_:=Aside0.mk (blk_below (g:=gb249) (blkV BK249.out) hb)
                     have n4_:=Aside0.mk (below_step (belV3 HB.out GE242.out GE243.out GE249.out) hb);clear HO_250007;clear BK242;clear BK243;clear BK249;clear HB;have HO_250007:=n0_;have BK242:=n1_;have BK243:=n2_;have BK249:=n3_;have HB:=n4_;clear n0_ n1_ n2_ n3_ n4_
                     (try clear hb)
                     (try clear hb2)
                     (try clear hk)
                     (try clear hi)
                     refine hK.out _ _ ⟨(blk_cell BK249.out 0).trans rfl,(blk_cell BK249.out 1).trans rfl,(blk_cell BK249.out 2).trans rfl,(blk_cell BK249.out 3).trans rfl,(blk_cell BK249.out 4).trans rfl,(blk_cell BK249.out 5).trans rfl,(blk_cell BK249.out 6).trans rfl,(blk_cell BK249.out 7).trans rfl,(blk_cell BK242.out 0).trans rfl,(blk_cell BK242.out 1).trans rfl,(blk_cell BK242.out 2).trans rfl,(blk_cell BK242.out 3).trans rfl,(blk_cell BK242.out 4).trans rfl,(blk_cell BK242.out 5).trans rfl,(blk_cell BK242.out 6).trans rfl,(blk_cell BK242.out 7).trans rfl,(blk_cell BK242.out 8).trans rfl,(blk_cell BK242.out 9).trans rfl,(blk_cell BK242.out 10).trans rfl⟩ (fun hHeld=>?_)
                     clear hK K
                     refine norm_ (a':=?_) ?_ ?_;rotate_left
                     · show Act.put _ (some 131) _=_
                       simp only [Act.put,List.setIfInBounds_toArray,List.set_cons_zero,List.set_cons_succ,i64_w,i32_w];rfl
                     refine pure_ (i:=5) (N:=some 132) (v:=?_) (a':=?_) ((bm true [6,2]).toArray) rfl rfl (any_of HT_.out (by kernel_rfl)) (fun _ _ _ h=>h) (Or.inl ⟨by rfl,?_⟩) ?_ ?_;rotate_left
                     · intro w';go_simp;with_reducible rfl
                     rotate_left
                     · simp only [Act.put,List.setIfInBounds_toArray,List.set_cons_zero,List.set_cons_succ,i64_w,i32_w];rfl
                     refine pure_ (i:=6) (N:=some 133) (v:=?_) (a':=?_) ((bm true [7,1]).toArray) rfl rfl (any_of HT_.out (by kernel_rfl)) (fun _ _ _ h=>h) (Or.inl ⟨by rfl,?_⟩) ?_ ?_;rotate_left
                     · intro w';go_simp;with_reducible rfl
                     rotate_left
                     · simp only [Act.put,List.setIfInBounds_toArray,List.set_cons_zero,List.set_cons_succ,i64_w,i32_w];rfl
                     refine last_ (i:=7) (N:=none) ((bm true [8]).toArray) rfl rfl (one_of HT_.out (by kernel_rfl)) (by decide) (fun K hK=>?_)
                     have hs109:w108.cell? ⟨gb249,4,none⟩=some (.int .i64 x250004_6):=(blk_cell BK249.out 4).trans rfl
                     have hfs109:=blk_frozen BK249.out 4
                     have hns109_0:=NB242_249.out
                     have hns109_1:=NB243_249.out
                     have hms109_0:=NB249_242.out
                     have hms109_1:=NB249_243.out
                     refine skip_ (w1:=?_) (by rfl) rfl ?_ ?_;rotate_left
                     · go_simp;rfl
                     refine hK.out _ _ ?_;clear hK K
                     refine done_ (done_of HT_.out (by kernel_rfl)) ?_
                     try go_wp2
                     go_roundg k6
                     case measure=>have:=HJ4.out;have:=HJ22.out;have:=HJ53.out;have:=HJ61.out;have:=HK5.out;have:=HK6.out;omega
                     case rel=>exact ⟨(wrap64 (x13_6+1)),(wrap64 (x250004_6+t262)),okV,H',⟨by have:=HJ4.out;have:=HJ22.out;have:=HJ53.out;have:=HJ61.out;have:=HK5.out;have:=HK6.out;omega⟩,⟨by (with_reducible repeat (first|apply Kd.R_alloc|apply Kd.R_drewN|apply Kd.R_drew));exact Kd.R_mono (Kd.R_far (p:=⟨gb249,4,none⟩) (Kd.R_types HO_250007.out BK249.out (by decide)) (fun _ hk=>hk.2) (.int .i64 (wrap64 (x250004_6+t262)))) (fun _ hk=>trivial)⟩,⟨blkW BK242.out NB242_249.out⟩,⟨blkW BK243.out NB243_249.out⟩,⟨by (with_reducible repeat (first|refine blk_drewN ?_ _|refine blk_drew ?_|refine blk_alloc ?_ _));refine blk_put (cs:=#[.int .i64 (wrap64 (a0_0+t246)),.int .i64 (wrap64 ((wrap64 (a0_0+t246))+t250)),.int .i64 x250002_22,.int .i64 t248,.int .i64 x250004_6,.int .i64 x250005_5,.bool x250006_53,u250007]) ?_ 4 _ rfl;(with_reducible repeat (first|refine blk_drewN ?_ _|refine blk_drew ?_|refine blk_alloc ?_ _));exact BK249.out⟩,⟨belV3 HB.out GE242.out GE243.out GE249.out⟩⟩
                   rw [if_neg c105] at H
                   have c105b0:decide (x13_6 < a1)=false:=decide_eq_false c105;clear c105
                   simp only [Option.some.injEq,Prod.mk.injEq] at H
                   obtain ⟨rfl,rfl,rfl,rfl,rfl,rfl,rfl,rfl,rfl⟩:=H
                   have hnb110:=NB249_242.out
                   have hnc110:=NB242_249.out
                   have hnb111:=NB249_243.out
                   have hnc111:=NB243_249.out
                   obtain ⟨hcz112_0,hcz112_1,hcz112_2,hcz112_3,hcz112_4,hcz112_5,hcz112_6,hcz112_7,hfz112_0,hfz112_1,hfz112_2,hfz112_3,hfz112_4,hfz112_5,hfz112_6,hfz112_7⟩:=bcells8 BK249.out
                   have hnb113:=NB243_242.out
                   have hnc113:=NB242_243.out
                   obtain ⟨hcz114_0,hcz114_1,hcz114_2,hcz114_3,hcz114_4,hcz114_5,hcz114_6,hcz114_7,hfz114_0,hfz114_1,hfz114_2,hfz114_3,hfz114_4,hfz114_5,hfz114_6,hfz114_7⟩:=bcells8 BK243.out
                   obtain ⟨Ao115,co115,eo115⟩:=Kd.R_slice HO_250007.out;subst eo115
                   go_wp2
                   refine bodyPost_ret (results_ct rfl _ _ gb243 48 #[.int .i64 (wrap64 (a0_0+t246)),.int .i64 (wrap64 ((wrap64 (a0_0+t246))+t250)),.int .i64 x250002_22,.int .i64 t248,.int .i64 x250004_6,.int .i64 x250005_5,.bool x250006_53,.slice Ao115 x250007_61.length co115] (0,0) _ rfl (by (with_reducible repeat (first|refine blk_drewN ?_ _|refine blk_drew ?_|refine blk_alloc ?_ _));refine blk_put (cs:=#[.int .i64 (wrap64 (a0_0+t246)),.int .i64 (wrap64 ((wrap64 (a0_0+t246))+t250)),.int .i64 x250002_22,.int .i64 t248,.int .i64 x250004_6,.int .i64 x250005_5,.bool x250006_53,.slice none 0 0]) ?_ 7 _ rfl;(with_reducible repeat (first|refine blk_drewN ?_ _|refine blk_drew ?_|refine blk_alloc ?_ _));refine blk_put (cs:=#[.int .i64 (wrap64 (a0_0+t246)),.int .i64 (wrap64 ((wrap64 (a0_0+t246))+t250)),.int .i64 x250002_22,.int .i64 t248,.int .i64 x250004_6,.int .i64 x250005_5,.bool false,.slice none 0 0]) ?_ 6 _ rfl;(with_reducible repeat (first|refine blk_drewN ?_ _|refine blk_drew ?_|refine blk_alloc ?_ _));refine blk_put (cs:=#[.int .i64 (wrap64 (a0_0+t246)),.int .i64 (wrap64 ((wrap64 (a0_0+t246))+t250)),.int .i64 x250002_22,.int .i64 t248,.int .i64 x250004_6,.int .i64 0,.bool false,.slice none 0 0]) ?_ 5 _ rfl;(with_reducible repeat (first|refine blk_drewN ?_ _|refine blk_drew ?_|refine blk_alloc ?_ _));refine blk_put (cs:=#[.int .i64 (wrap64 (a0_0+t246)),.int .i64 (wrap64 ((wrap64 (a0_0+t246))+t250)),.int .i64 x250002_22,.int .i64 t248,.int .i64 0,.int .i64 0,.bool false,.slice none 0 0]) ?_ 4 _ rfl;(with_reducible repeat (first|refine blk_drewN ?_ _|refine blk_drew ?_|refine blk_alloc ?_ _));refine blk_put (cs:=#[.int .i64 (wrap64 (a0_0+t246)),.int .i64 (wrap64 ((wrap64 (a0_0+t246))+t250)),.int .i64 x250002_22,.int .i64 0,.int .i64 0,.int .i64 0,.bool false,.slice none 0 0]) ?_ 3 _ rfl;(with_reducible repeat (first|refine blk_drewN ?_ _|refine blk_drew ?_|refine blk_alloc ?_ _));refine blk_put (cs:=#[.int .i64 (wrap64 (a0_0+t246)),.int .i64 (wrap64 ((wrap64 (a0_0+t246))+t250)),.int .i64 0,.int .i64 0,.int .i64 0,.int .i64 0,.bool false,.slice none 0 0]) ?_ 2 _ rfl;(with_reducible repeat (first|refine blk_drewN ?_ _|refine blk_drew ?_|refine blk_alloc ?_ _));refine blk_put (cs:=#[.int .i64 (wrap64 (a0_0+t246)),.int .i64 0,.int .i64 0,.int .i64 0,.int .i64 0,.int .i64 0,.bool false,.slice none 0 0]) ?_ 1 _ rfl;(with_reducible repeat (first|refine blk_drewN ?_ _|refine blk_drew ?_|refine blk_alloc ?_ _));refine blk_put (cs:=#[.int .i64 0,.int .i64 0,.int .i64 0,.int .i64 0,.int .i64 0,.int .i64 0,.bool false,.slice none 0 0]) ?_ 0 _ rfl;(with_reducible repeat (first|refine blk_drewN ?_ _|refine blk_drew ?_|refine blk_alloc ?_ _));exact BK243.out) Try.underlying48 rfl (by kernel_rfl)) rfl ?_
                   exact ⟨_,by first|rfl|(simp [errW_none,errW_some] <;> rfl)|(simp [*,errW_none,errW_some] <;> rfl),by (with_reducible repeat (first|apply Kd.R_alloc|apply Kd.R_drewN|apply Kd.R_drew));exact Kd.R_mono (Kd.R_far (p:=⟨gb243,7,none⟩) (Kd.R_far (p:=⟨gb243,6,none⟩) (Kd.R_far (p:=⟨gb243,5,none⟩) (Kd.R_far (p:=⟨gb243,4,none⟩) (Kd.R_far (p:=⟨gb243,3,none⟩) (Kd.R_far (p:=⟨gb243,2,none⟩) (Kd.R_far (p:=⟨gb243,1,none⟩) (Kd.R_far (p:=⟨gb243,0,none⟩) (Kd.R_types HO_250007.out BK243.out (by decide)) (fun _ hk=>hk.2) (.int .i64 (wrap64 (a0_0+t246)))) (fun _ hk=>hk.2) (.int .i64 (wrap64 ((wrap64 (a0_0+t246))+t250)))) (fun _ hk=>hk.2) (.int .i64 x250002_22)) (fun _ hk=>hk.2) (.int .i64 t248)) (fun _ hk=>hk.2) (.int .i64 x250004_6)) (fun _ hk=>hk.2) (.int .i64 x250005_5)) (fun _ hk=>hk.2) (.bool x250006_53)) (fun _ hk=>hk.2) (.slice Ao115 x250007_61.length co115)) (fun _ hk=>trivial),by repeat (first|(with_reducible first|exact HB.out|apply below_alloc|apply pw_below_drewN|apply below_drew1|refine below_set ?_ GE242.out|refine below_set ?_ GE243.out|refine below_set ?_ GE249.out)|exact HB.out)⟩
               rw [if_neg c96] at H
               exact absurd H (by simp)
             rw [if_neg c95] at H
             exact absurd H (by simp)
 rw [if_neg c4] at H
 have c4b0:(t244 == 0)=false:=beq_eq_false_iff_ne.mpr c4
 have c4b1:(t244 != 0)=true:=bne_iff_ne.mpr c4
 simp only [Option.some.injEq,Prod.mk.injEq] at H
 obtain ⟨rfl,rfl,rfl,rfl,rfl,rfl,rfl,rfl,rfl⟩:=H
 go_enter Try.func28,Try.ntmps28
 go_wp2_with (first|((with_reducible refine gate_dst (N:=2) rfl ?_);refine box_event ?hg (N:=2) ?hd (cs:=#[.int .i64 a0_0,.slice A0_1 l0_1.length c0_1,.slice A0_2 l0_2.length c0_2,.slice A0_3 l0_3.length c0_3,.bool a0_4,.int .i64 a0_5,.slice A0_6 l0_6.length c0_6,.slice A0_7 l0_7.length c0_7,.slice A0_8 l0_8.length c0_8,.slice A0_9 l0_9.length c0_9,.slice A0_10 l0_10.length c0_10]) (t:=27) ?hr ?_;(case hd=>rfl);(case hg=>rfl);(case hr=>first|(go_simp;done)|(go_simp;rfl));intro gb242 hg w116 hbox hb;have n0_:=Aside0.mk (below_step (belV HB.out) hb);have n1_:=Aside0.mk (hbox);have n2_:=Aside0.mk ((by rw [hg];exact (below_size (belV HB.out)):w.heap.size≤gb242));have n3_:=Aside0.mk ((by rw [hg];exact (below_size (belV HB.out)):w.heap.size≤gb242));clear HB;have HB:=n0_;have BK242:=n1_;have GW242:=n2_;have GE242:=n3_;clear n0_ n1_ n2_ n3_;clear hb hbox hg)|((with_reducible refine gate_dst (N:=4) rfl ?_);refine box_event ?hg (N:=4) ?hd (cs:=#[.int .i64 0,.int .i64 0,.int .i64 0,.int .i64 0,.int .i64 0,.int .i64 0,.bool false,.slice none 0 0]) (t:=48) ?hr ?_;(case hd=>rfl);(case hg=>rfl);(case hr=>first|(go_simp;done)|(go_simp;rfl));intro gb243 hg w117 hbox hb;have n0_:=Aside0.mk (blk_below (g:=gb242) (blkV BK242.out) hb);have n1_:=Aside0.mk (below_step (belV1 HB.out GE242.out) hb);have n2_:=Aside0.mk (hbox);have n3_:=Aside0.mk ((by rw [hg];exact (below_size (belV1 HB.out GE242.out)):w.heap.size≤gb243));have n4_:=Aside0.mk ((by rw [hg];exact (below_size (belV1 HB.out GE242.out)):w.heap.size≤gb243));have n5_:=Aside0.mk ((by rw [hg];exact Nat.ne_of_lt (blk_lt (g:=gb242) (blkV BK242.out)):gb242≠gb243));have n6_:=Aside0.mk ((by rw [hg];exact Nat.ne_of_gt (blk_lt (g:=gb242) (blkV BK242.out)):gb243≠gb242));clear BK242;clear HB;have BK242:=n0_;have HB:=n1_;have BK243:=n2_;have GW243:=n3_;have GE243:=n4_;have NB242_243:=n5_;have NB243_242:=n6_;clear n0_ n1_ n2_ n3_ n4_ n5_ n6_;clear hb hbox hg;have hnb118:=NB242_243.out;have hnc118:=NB243_242.out;obtain ⟨hcz119_0,hcz119_1,hcz119_2,hcz119_3,hcz119_4,hcz119_5,hcz119_6,hcz119_7,hcz119_8,hcz119_9,hcz119_10,hfz119_0,hfz119_1,hfz119_2,hfz119_3,hfz119_4,hfz119_5,hfz119_6,hfz119_7,hfz119_8,hfz119_9,hfz119_10⟩:=bcells11 BK242.out)|((with_reducible refine gate_callee (f:=12) rfl ?_);refine goesL_ (some 15) rfl rfl Try.func12 (by kernel_rfl) rfl #[.agg #[.int .i64 a0_0,.slice A0_1 l0_1.length c0_1,.slice A0_2 l0_2.length c0_2,.slice A0_3 l0_3.length c0_3,.bool a0_4,.int .i64 a0_5,.slice A0_6 l0_6.length c0_6,.slice A0_7 l0_7.length c0_7,.slice A0_8 l0_8.length c0_8,.slice A0_9 l0_9.length c0_9,.slice A0_10 l0_10.length c0_10]] rfl (by (try simp only [List.map_toArray,List.map_cons,List.map_nil]);first|done|rfl|(simp only [List.length_drop,List.length_take];rfl)) ?_;(with_reducible refine (table_Check.calls a0_0 _ _ l0_1 _ _ l0_2 _ _ l0_3 a0_4 a0_5 _ _ l0_6 _ _ l0_7 _ _ l0_8 _ _ l0_9 _ _ l0_10 t244 _ ?side1 ?side2 ?side3 ?side4 ?side5 ?side6 ?side7 ?side8 ?side9 ?side10 ?side11 ?side12 ?side13 ?side14 ?side15 ?side16 A3.out).mono ?_);(case side1=>exact cV (Kd.C_below HR0_1.out HB.out));(case side2=>exact HC0_1.out);(case side3=>exact cV (Kd.C_below HR0_2.out HB.out));(case side4=>exact HC0_2.out);(case side5=>exact cV (Kd.C_below HR0_3.out HB.out));(case side6=>exact HC0_3.out);(case side7=>exact cV (Kd.C_below HR0_6.out HB.out));(case side8=>exact HC0_6.out);(case side9=>exact cV (Kd.C_below HR0_7.out HB.out));(case side10=>exact HC0_7.out);(case side11=>exact cV (Kd.C_below HR0_8.out HB.out));(case side12=>exact HC0_8.out);(case side13=>exact cV (Kd.C_below HR0_9.out HB.out));(case side14=>exact HC0_9.out);(case side15=>exact cV (Kd.C_below HR0_10.out HB.out));(case side16=>exact HC0_10.out);rintro e w120 ⟨rfl,hb⟩;refine ⟨_,rfl,?_⟩;have n0_:=Aside0.mk (blk_below (g:=gb242) (blkV BK242.out) hb);have n1_:=Aside0.mk (blk_below (g:=gb243) (blkV BK243.out) hb);have n2_:=Aside0.mk (below_step (belV2 HB.out GE242.out GE243.out) hb);clear BK242;clear BK243;clear HB;have BK242:=n0_;have BK243:=n1_;have HB:=n2_;clear n0_ n1_ n2_;(try clear hb);(try clear hb2);(try clear hk);(try clear hi);obtain ⟨hcz121_0,hcz121_1,hcz121_2,hcz121_3,hcz121_4,hcz121_5,hcz121_6,hcz121_7,hfz121_0,hfz121_1,hfz121_2,hfz121_3,hfz121_4,hfz121_5,hfz121_6,hfz121_7⟩:=bcells8 BK243.out))
 refine bodyPost_ret (results_ct rfl _ _ gb243 48 #[.int .i64 0,.int .i64 0,.int .i64 0,.int .i64 0,.int .i64 0,.int .i64 0,.bool false,.slice none 0 0] (0,0) _ rfl (by (with_reducible repeat (first|refine blk_drewN ?_ _|refine blk_drew ?_|refine blk_alloc ?_ _));refine blk_put (cs:=#[.int .i64 0,.int .i64 0,.int .i64 0,.int .i64 0,.int .i64 0,.int .i64 0,.bool false,.slice none 0 0]) ?_ 7 _ rfl;(with_reducible repeat (first|refine blk_drewN ?_ _|refine blk_drew ?_|refine blk_alloc ?_ _));refine blk_put (cs:=#[.int .i64 0,.int .i64 0,.int .i64 0,.int .i64 0,.int .i64 0,.int .i64 0,.bool false,.slice none 0 0]) ?_ 6 _ rfl;(with_reducible repeat (first|refine blk_drewN ?_ _|refine blk_drew ?_|refine blk_alloc ?_ _));refine blk_put (cs:=#[.int .i64 0,.int .i64 0,.int .i64 0,.int .i64 0,.int .i64 0,.int .i64 0,.bool false,.slice none 0 0]) ?_ 5 _ rfl;(with_reducible repeat (first|refine blk_drewN ?_ _|refine blk_drew ?_|refine blk_alloc ?_ _));refine blk_put (cs:=#[.int .i64 0,.int .i64 0,.int .i64 0,.int .i64 0,.int .i64 0,.int .i64 0,.bool false,.slice none 0 0]) ?_ 4 _ rfl;(with_reducible repeat (first|refine blk_drewN ?_ _|refine blk_drew ?_|refine blk_alloc ?_ _));refine blk_put (cs:=#[.int .i64 0,.int .i64 0,.int .i64 0,.int .i64 0,.int .i64 0,.int .i64 0,.bool false,.slice none 0 0]) ?_ 3 _ rfl;(with_reducible repeat (first|refine blk_drewN ?_ _|refine blk_drew ?_|refine blk_alloc ?_ _));refine blk_put (cs:=#[.int .i64 0,.int .i64 0,.int .i64 0,.int .i64 0,.int .i64 0,.int .i64 0,.bool false,.slice none 0 0]) ?_ 2 _ rfl;(with_reducible repeat (first|refine blk_drewN ?_ _|refine blk_drew ?_|refine blk_alloc ?_ _));refine blk_put (cs:=#[.int .i64 0,.int .i64 0,.int .i64 0,.int .i64 0,.int .i64 0,.int .i64 0,.bool false,.slice none 0 0]) ?_ 1 _ rfl;(with_reducible repeat (first|refine blk_drewN ?_ _|refine blk_drew ?_|refine blk_alloc ?_ _));refine blk_put (cs:=#[.int .i64 0,.int .i64 0,.int .i64 0,.int .i64 0,.int .i64 0,.int .i64 0,.bool false,.slice none 0 0]) ?_ 0 _ rfl;(with_reducible repeat (first|refine blk_drewN ?_ _|refine blk_drew ?_|refine blk_alloc ?_ _));exact BK243.out) Try.underlying48 rfl (by kernel_rfl)) rfl ?_
 exact ⟨_,by first|rfl|(simp [errW_none,errW_some] <;> rfl)|(simp [*,errW_none,errW_some] <;> rfl),by first|exact Kd.R_nil _ _ _ _ _|exact Kd.N_nil _ _ _ _ _|exact Kd.V_nil _ _ _ _ _|exact Kd.Q_nil _ _ _ _ _|exact Kd.S_nil _ _ _ _ _,by repeat (first|(with_reducible first|exact HB.out|apply below_alloc|apply pw_below_drewN|apply below_drew1|refine below_set ?_ GE242.out|refine below_set ?_ GE243.out)|exact HB.out)⟩

end Go.Proofs.Ytmbhafgnmdfjhaa.QTab
