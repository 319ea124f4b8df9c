/- Part of a proof: functions of the program as Lean functions, and that the machine's calls come to them. Made by a program of this session (wip/mp). -/
import Derived.Test.YtmbhafgnmdfjhaaQTabx0
import Derived.Test.YtmbhafgnmdfjhaaQTabx20
namespace Go.Proofs.Ytmbhafgnmdfjhaa.QTab
open Go.RowKit Go.Proofs.YtmbhafgnmdfjhaaV Go.Proofs.YtmbhafgnmdfjhaaW.PrintWords Go.Proofs.YtmbhafgnmdfjhaaW.PrintLast Go.Proofs.YtmbhafgnmdfjhaaW.PrintMore
attribute [local go_sem] max2_int min2_int max_two min_two max_three min_three max_four min_four   -- for this text's walks alone
set_option linter.unusedVariables false
set_option linter.unusedSimpArgs false

/-! ### dioramalaw09_all: function 27 -/
def dioramalaw09_all.l0 : Nat → List (S48) → List (S51) → Int → Option (Bool)
 | 0,_,_,_=>none
 | k+1,x0,x1,x5=>if x5 < (x0.length:Int) then (if 0≤x5 then (if x5 < (x1.length:Int) then ((dioramalaw09_same.f k ((rd_T48 x0 x5).f0) ((rd_T48 x0 x5).f1) ((rd_T48 x0 x5).f2) ((rd_T48 x0 x5).f3) ((rd_T48 x0 x5).f4) ((rd_T48 x0 x5).f5) ((rd_T48 x0 x5).f6) ((rd_T48 x0 x5).f7) ((rd_T51 x1 x5).f0) ((rd_T51 x1 x5).f1) ((rd_T51 x1 x5).f2) ((rd_T51 x1 x5).f3) ((rd_T51 x1 x5).f4) ((rd_T51 x1 x5).f5) ((rd_T51 x1 x5).f6) ((rd_T51 x1 x5).f7)).bind fun t222=>(if t222=true then (dioramalaw09_all.l0 k x0 x1 (wrap64 (x5+1))) else (some false))) else (none)) else (none)) else (some true)
def dioramalaw09_all.f (k : Nat) (l0 : List (S48)) (l1 : List (S51)) : Option (Bool) := if (l0.length : Int) = (l1.length : Int) then (dioramalaw09_all.l0 k l0 l1 0) else (some false)
theorem dioramalaw09_all.mono_l:∀ k,(∀ y0 y1 y2,LeO (dioramalaw09_all.l0 k y0 y1 y2) (dioramalaw09_all.l0 (k+1) y0 y1 y2))
 | 0=>fun _ _ _ r h=>by simp [dioramalaw09_all.l0] at h
 | k+1=>by
  have ih0:=dioramalaw09_all.mono_l k
  · intro y0 y1 y2
    unfold dioramalaw09_all.l0
    repeat' first
    | (with_reducible exact ih0 _ _ _)
    | (with_reducible exact dioramalaw09_same.mono _ _ _ _ _ _ _ _ _ _ _ _ _ _ _ _ _)
    | (with_reducible exact LeO.refl _)
    | (with_reducible exact LeO.none _)
    | (with_reducible refine LeO.ite ?_ ?_)
    | (with_reducible refine LeO.bind ?_ (fun _=>?_))
    | exact LeO.none _
    | refine LeO.ite ?_ ?_
    | refine LeO.bind ?_ (fun _=>?_)
theorem dioramalaw09_all.mono:∀ a0 a1 k,LeO (dioramalaw09_all.f k a0 a1) (dioramalaw09_all.f (k+1) a0 a1):=by
 intro a0 a1 k
 have ih0:=dioramalaw09_all.mono_l k
 unfold dioramalaw09_all.f
 repeat' first
  | (with_reducible exact ih0 _ _ _)
  | (with_reducible exact dioramalaw09_same.mono _ _ _ _ _ _ _ _ _ _ _ _ _ _ _ _ _)
  | (with_reducible exact LeO.refl _)
  | (with_reducible exact LeO.none _)
  | (with_reducible refine LeO.ite ?_ ?_)
  | (with_reducible refine LeO.bind ?_ (fun _=>?_))
  | exact LeO.none _
  | refine LeO.ite ?_ ?_
  | refine LeO.bind ?_ (fun _=>?_)
def dioramalaw09_all.T6 : Bool × List (List Nat × List Nat) := (true, [([], []), ([], []), ([0, 1], [0, 1]), ([2], [2]), ([], []), ([], []), ([4, 5], [4, 5]), ([6], [6]), ([3, 7], [3, 7]), ([8], [8])])
def dioramalaw09_all.B6 : List Nat := [0, 0, 3, 7, 0, 0, 48, 112, 255, 511]
theorem dioramalaw09_all.tab6:rtab .any (opsOf Try.f27 6)=dioramalaw09_all.T6:=by kernel_rfl
theorem dioramalaw09_all.bits6:waitsOk dioramalaw09_all.T6.2 dioramalaw09_all.B6=true:=by kernel_rfl
set_option maxHeartbeats 8000000 in
set_option maxRecDepth 100000 in
theorem dioramalaw09_all.calls (k:Nat) (A0:Option Addr) (c0:Nat) (l0:List (S48)) (A1:Option Addr) (c1:Nat) (l1:List (S51)) (r:Bool) (w:World) (hr0:Kd.C k48 w A0 l0.length l0) (hc0:l0.length≤c0) (hr1:Kd.C k51 w A1 l1.length l1) (hc1:l1.length≤c1) (h:dioramalaw09_all.f k l0 l1=some r) :
 Calls Try.prog 27 #[.slice A0 l0.length c0,.slice A1 l1.length c1] w fun e w'=>e=.returned (.bool r)∧Below w.heap.size w w':=by
 have hu48:=Try.underlying48
 have hu51:=Try.underlying51
 have HR0:=Aside0.mk hr0
 have HC0:=Aside0.mk hc0;clear hr0 hc0
 have HR1:=Aside0.mk hr1
 have HC1:=Aside0.mk hc1;clear hr1 hc1;have HB:=Aside0.mk (Below.refl w.heap.size w)
 have H:(if (l0.length:Int)=(l1.length:Int) then (dioramalaw09_all.l0 k l0 l1 0) else (some false))=some r:=h;clear h
 by_cases c3:(l0.length:Int)=(l1.length:Int)
 · rw [if_pos c3] at H
   have c3b0:((l0.length:Int) == (l1.length:Int))=true:=beq_iff_eq.mpr c3
   have c3b1:((l0.length:Int) != (l1.length:Int))=false:=bne_eq_false_iff_eq.mpr c3
   have c3b2:(l0.length == l1.length)=true:=by first|simpa using c3|(simp at c3 ⊢;omega)
   clear c3
   have H':=Aside0.mk H;clear H
   go_enter Try.func27,Try.ntmps27
   go_wp2
   go_loopg [5] k (fun kq v5 w'=>∃ (x5_1:Int),v5=.int .i64 x5_1∧Aside0 (dioramalaw09_all.l0 kq l0 l1 x5_1=some r)∧Aside0 (kq≤k)∧Aside0 (Below w.heap.size w w'))
   case atStart=>exact ⟨(0),okV,H',⟨Nat.le_refl _⟩,⟨belV HB.out⟩⟩
   case round =>
    clear H'
    try clear c1;try clear c2;try clear p2;try clear c3;try clear c3b0;try clear c3b1;try clear c3b2
    obtain ⟨x5_1,rfl,HA,HK1,HB⟩:=hrel
    cases gk with
    | zero=>exact absurd HA.out (by simp [dioramalaw09_all.l0])
    | succ k1 =>
     have H:=HA.out;clear HA
     simp only [dioramalaw09_all.l0] at H
     by_cases c4:x5_1 < (l0.length:Int)
     · rw [if_pos c4] at H
       have c4b0:decide (x5_1 < (l0.length:Int))=true:=decide_eq_true c4;clear c4
       by_cases c5:0≤x5_1
       · rw [if_pos c5] at H
         have c5b0:decide (0≤x5_1)=true:=decide_eq_true c5;clear c5
         by_cases c6:x5_1 < (l1.length:Int)
         · rw [if_pos c6] at H
           have c6b0:decide (x5_1 < (l1.length:Int))=true:=decide_eq_true c6;clear c6
           replace H:=Option.bind_eq_some_iff.mp H
           obtain ⟨t222,A70,H⟩:=H
           replace H:(if t222=true then (dioramalaw09_all.l0 k1 l0 l1 (wrap64 (x5_1+1))) else (some false))=some r:=H
           have A7:=Aside0.mk A70;clear A70
           by_cases c8:t222=true
           · subst c8
             have H1:(dioramalaw09_all.l0 k1 l0 l1 (wrap64 (x5_1+1)))=some r:=by rw [if_pos rfl] at H;exact H
             clear H
             have H:=H1;clear H1
             have H':=Aside0.mk H;clear H
             try go_wp2
             have n0_:=Aside0.mk (below_drew1 HB.out);clear HB;have HB:=n0_;clear n0_
             have p220:0≤(x5_1:Int):=of_decide_eq_true asV
             have q220:x5_1 < (l0.length:Int):=of_decide_eq_true asV
             obtain ⟨ad220,A220_7,c220_7,e220,hx220_0,hx220_1,hx220_2,hx220_3,hx220_4,hx220_5,hx220_6,hx220_7,hl220_7,hi220_7⟩:=at_T48 HR0.out x5_1 p220 q220
             have hw220_7:=hx220_7
             have hw220_6:=hx220_6
             have hw220_5:=hx220_5
             have hw220_4:=hx220_4
             have hw220_3:=hx220_3
             have hw220_2:=hx220_2
             have hw220_1:=hx220_1
             have hw220_0:=hx220_0
             cases e220
             replace hx220_0:=(HB.out.cell (World.block_lt_of_cell? w _ hx220_0)).trans hx220_0
             replace hx220_1:=(HB.out.cell (World.block_lt_of_cell? w _ hx220_1)).trans hx220_1
             replace hx220_2:=(HB.out.cell (World.block_lt_of_cell? w _ hx220_2)).trans hx220_2
             replace hx220_3:=(HB.out.cell (World.block_lt_of_cell? w _ hx220_3)).trans hx220_3
             replace hx220_4:=(HB.out.cell (World.block_lt_of_cell? w _ hx220_4)).trans hx220_4
             replace hx220_5:=(HB.out.cell (World.block_lt_of_cell? w _ hx220_5)).trans hx220_5
             replace hx220_6:=(HB.out.cell (World.block_lt_of_cell? w _ hx220_6)).trans hx220_6
             replace hx220_7:=(HB.out.cell (World.block_lt_of_cell? w _ hx220_7)).trans hx220_7
             have HR220_7:=Aside0.mk hi220_7
             have HC220_7:=Aside0.mk hl220_7;clear hi220_7 hl220_7
             replace p220:=eq_true p220
             replace q220:=eq_true q220
             have p221:0≤(x5_1:Int):=of_decide_eq_true asV
             have q221:x5_1 < (l1.length:Int):=of_decide_eq_true asV
             obtain ⟨ad221,A221_7,c221_7,e221,hx221_0,hx221_1,hx221_2,hx221_3,hx221_4,hx221_5,hx221_6,hx221_7,hl221_7,hi221_7⟩:=at_T51 HR1.out x5_1 p221 q221
             have hw221_7:=hx221_7
             have hw221_6:=hx221_6
             have hw221_5:=hx221_5
             have hw221_4:=hx221_4
             have hw221_3:=hx221_3
             have hw221_2:=hx221_2
             have hw221_1:=hx221_1
             have hw221_0:=hx221_0
             cases e221
             replace hx221_0:=(HB.out.cell (World.block_lt_of_cell? w _ hx221_0)).trans hx221_0
             replace hx221_1:=(HB.out.cell (World.block_lt_of_cell? w _ hx221_1)).trans hx221_1
             replace hx221_2:=(HB.out.cell (World.block_lt_of_cell? w _ hx221_2)).trans hx221_2
             replace hx221_3:=(HB.out.cell (World.block_lt_of_cell? w _ hx221_3)).trans hx221_3
             replace hx221_4:=(HB.out.cell (World.block_lt_of_cell? w _ hx221_4)).trans hx221_4
             replace hx221_5:=(HB.out.cell (World.block_lt_of_cell? w _ hx221_5)).trans hx221_5
             replace hx221_6:=(HB.out.cell (World.block_lt_of_cell? w _ hx221_6)).trans hx221_6
             replace hx221_7:=(HB.out.cell (World.block_lt_of_cell? w _ hx221_7)).trans hx221_7
             have HR221_7:=Aside0.mk hi221_7
             have HC221_7:=Aside0.mk hl221_7;clear hi221_7 hl221_7
             replace p221:=eq_true p221
             replace q221:=eq_true q221
             refine start_ (n:=10) (S:=fun w'=>w'.cell? (ad220.add ((x5_1).toNat*8))=some (.int .i64 ((rd_T48 l0 x5_1).f0))∧w'.cell? ⟨(ad220.add ((x5_1).toNat*8)).block,(ad220.add ((x5_1).toNat*8)).off+1,none⟩=some (.int .i64 ((rd_T48 l0 x5_1).f1))∧w'.cell? ⟨(ad220.add ((x5_1).toNat*8)).block,(ad220.add ((x5_1).toNat*8)).off+2,none⟩=some (.int .i64 ((rd_T48 l0 x5_1).f2))∧w'.cell? ⟨(ad220.add ((x5_1).toNat*8)).block,(ad220.add ((x5_1).toNat*8)).off+3,none⟩=some (.int .i64 ((rd_T48 l0 x5_1).f3))∧w'.cell? ⟨(ad220.add ((x5_1).toNat*8)).block,(ad220.add ((x5_1).toNat*8)).off+4,none⟩=some (.int .i64 ((rd_T48 l0 x5_1).f4))∧w'.cell? ⟨(ad220.add ((x5_1).toNat*8)).block,(ad220.add ((x5_1).toNat*8)).off+5,none⟩=some (.int .i64 ((rd_T48 l0 x5_1).f5))∧w'.cell? ⟨(ad220.add ((x5_1).toNat*8)).block,(ad220.add ((x5_1).toNat*8)).off+6,none⟩=some (.bool ((rd_T48 l0 x5_1).f6))∧w'.cell? ⟨(ad220.add ((x5_1).toNat*8)).block,(ad220.add ((x5_1).toNat*8)).off+7,none⟩=some (.slice A220_7 ((rd_T48 l0 x5_1).f7).length c220_7)∧w'.cell? (ad221.add ((x5_1).toNat*8))=some (.int .i64 ((rd_T51 l1 x5_1).f0))∧w'.cell? ⟨(ad221.add ((x5_1).toNat*8)).block,(ad221.add ((x5_1).toNat*8)).off+1,none⟩=some (.int .i64 ((rd_T51 l1 x5_1).f1))∧w'.cell? ⟨(ad221.add ((x5_1).toNat*8)).block,(ad221.add ((x5_1).toNat*8)).off+2,none⟩=some (.int .i64 ((rd_T51 l1 x5_1).f2))∧w'.cell? ⟨(ad221.add ((x5_1).toNat*8)).block,(ad221.add ((x5_1).toNat*8)).off+3,none⟩=some (.int .i64 ((rd_T51 l1 x5_1).f3))∧w'.cell? ⟨(ad221.add ((x5_1).toNat*8)).block,(ad221.add ((x5_1).toNat*8)).off+4,none⟩=some (.int .i64 ((rd_T51 l1 x5_1).f4))∧w'.cell? ⟨(ad221.add ((x5_1).toNat*8)).block,(ad221.add ((x5_1).toNat*8)).off+5,none⟩=some (.int .i64 ((rd_T51 l1 x5_1).f5))∧w'.cell? ⟨(ad221.add ((x5_1).toNat*8)).block,(ad221.add ((x5_1).toNat*8)).off+6,none⟩=some (.bool ((rd_T51 l1 x5_1).f6))∧w'.cell? ⟨(ad221.add ((x5_1).toNat*8)).block,(ad221.add ((x5_1).toNat*8)).off+7,none⟩=some (.slice A221_7 ((rd_T51 l1 x5_1).f7).length c221_7)) (ds:=[]) ((bm false [10]).toArray) (by kernel_rfl) rfl rfl ⟨((HB.out.cell (World.block_lt_of_cell? w _ hw220_0)).trans hw220_0),((HB.out.cell (World.block_lt_of_cell? w _ hw220_1)).trans hw220_1),((HB.out.cell (World.block_lt_of_cell? w _ hw220_2)).trans hw220_2),((HB.out.cell (World.block_lt_of_cell? w _ hw220_3)).trans hw220_3),((HB.out.cell (World.block_lt_of_cell? w _ hw220_4)).trans hw220_4),((HB.out.cell (World.block_lt_of_cell? w _ hw220_5)).trans hw220_5),((HB.out.cell (World.block_lt_of_cell? w _ hw220_6)).trans hw220_6),((HB.out.cell (World.block_lt_of_cell? w _ hw220_7)).trans hw220_7),((HB.out.cell (World.block_lt_of_cell? w _ hw221_0)).trans hw221_0),((HB.out.cell (World.block_lt_of_cell? w _ hw221_1)).trans hw221_1),((HB.out.cell (World.block_lt_of_cell? w _ hw221_2)).trans hw221_2),((HB.out.cell (World.block_lt_of_cell? w _ hw221_3)).trans hw221_3),((HB.out.cell (World.block_lt_of_cell? w _ hw221_4)).trans hw221_4),((HB.out.cell (World.block_lt_of_cell? w _ hw221_5)).trans hw221_5),((HB.out.cell (World.block_lt_of_cell? w _ hw221_6)).trans hw221_6),((HB.out.cell (World.block_lt_of_cell? w _ hw221_7)).trans hw221_7)⟩ (fun hHeld=>?_);refine with_tabW dioramalaw09_all.tab6 dioramalaw09_all.bits6 (fun HT_ HW_=>?_)
             generalize wr.drew=w9 at HB HR220_7 HR221_7 hx220_0 hx220_1 hx220_2 hx220_3 hx220_4 hx220_5 hx220_6 hx220_7 hx221_0 hx221_1 hx221_2 hx221_3 hx221_4 hx221_5 hx221_6 hx221_7 hHeld ⊢
             refine pure_ (i:=0) (N:=some 17) (v:=?_) (a':=?_) ((bm true [1,9]).toArray) rfl rfl (any_of HT_.out (by kernel_rfl)) (fun _ _ _ h=>h) (Or.inl ⟨by rfl,?_⟩) ?_ ?_;rotate_left
             · intro w';go_simp;with_reducible rfl
             rotate_left
             · simp only [Act.put,List.setIfInBounds_toArray,List.set_cons_zero,List.set_cons_succ,i64_w,i32_w];rfl
             refine pure_ (i:=1) (N:=some 18) (v:=?_) (a':=?_) ((bm true [2,8]).toArray) rfl rfl (any_of HT_.out (by kernel_rfl)) (fun _ _ _ h=>h) (Or.inl ⟨by rfl,?_⟩) ?_ ?_;rotate_left
             · intro w';go_simp;with_reducible rfl
             rotate_left
             · simp only [Act.put,List.setIfInBounds_toArray,List.set_cons_zero,List.set_cons_succ,i64_w,i32_w];rfl
             refine pure_ (i:=2) (N:=some 19) (v:=?_) (a':=?_) ((bm true [3,7]).toArray) rfl rfl (any_of HT_.out (by kernel_rfl)) (fun _ _ _ h=>h) (Or.inl ⟨by rfl,?_⟩) ?_ ?_;rotate_left
             · intro w';go_simp;with_reducible rfl
             rotate_left
             · simp only [Act.put,List.setIfInBounds_toArray,List.set_cons_zero,List.set_cons_succ,i64_w,i32_w];rfl
             refine pure_ (i:=4) (N:=some 21) (v:=?_) (a':=?_) ((bm true [3,1,1,5]).toArray) rfl rfl (any_of HT_.out (by kernel_rfl)) (fun _ _ _ h=>h) (Or.inl ⟨by rfl,?_⟩) ?_ ?_;rotate_left
             · intro w';go_simp;with_reducible rfl
             rotate_left
             · simp only [Act.put,List.setIfInBounds_toArray,List.set_cons_zero,List.set_cons_succ,i64_w,i32_w];rfl
             refine pure_ (i:=5) (N:=some 22) (v:=?_) (a':=?_) ((bm true [3,1,2,4]).toArray) rfl rfl (any_of HT_.out (by kernel_rfl)) (fun _ _ _ h=>h) (Or.inl ⟨by rfl,?_⟩) ?_ ?_;rotate_left
             · intro w';go_simp;with_reducible rfl
             rotate_left
             · simp only [Act.put,List.setIfInBounds_toArray,List.set_cons_zero,List.set_cons_succ,i64_w,i32_w];rfl
             refine pure_ (i:=6) (N:=some 23) (v:=?_) (a':=?_) ((bm true [3,1,3,3]).toArray) rfl rfl (any_of HT_.out (by kernel_rfl)) (fun _ _ _ h=>h) (Or.inl ⟨by rfl,?_⟩) ?_ ?_;rotate_left
             · intro w';go_simp;with_reducible rfl
             rotate_left
             · simp only [Act.put,List.setIfInBounds_toArray,List.set_cons_zero,List.set_cons_succ,i64_w,i32_w];rfl
             refine take_ (i:=3) (N:=some 20) (v:=?_) (a':=?_) ((bm true [7,3]).toArray) rfl rfl (take_ofW HT_.out HW_.out (by kernel_rfl)) (fun _ _ _ h=>h) (Or.inl ⟨by rfl,?_⟩) hHeld ?_ ?_;rotate_left
             · rintro w' ⟨s0,s1,s2,s3,s4,s5,s6,s7,s8,s9,s10,s11,s12,s13,s14,s15⟩
               go_simp;with_reducible rfl
             rotate_left
             · simp only [Act.put,List.setIfInBounds_toArray,List.set_cons_zero,List.set_cons_succ,i64_w,i32_w];rfl
             refine take_ (i:=7) (N:=some 24) (v:=?_) (a':=?_) ((bm true [8,2]).toArray) rfl rfl (take_ofW HT_.out HW_.out (by kernel_rfl)) (fun _ _ _ h=>h) (Or.inl ⟨by rfl,?_⟩) hHeld ?_ ?_;rotate_left
             · rintro w' ⟨s0,s1,s2,s3,s4,s5,s6,s7,s8,s9,s10,s11,s12,s13,s14,s15⟩
               go_simp;with_reducible rfl
             rotate_left
             · simp only [Act.put,List.setIfInBounds_toArray,List.set_cons_zero,List.set_cons_succ,i64_w,i32_w];rfl
             refine one_ (i:=8) (N:=some 25) ((bm true [9,1]).toArray) rfl rfl (one_of HT_.out (by kernel_rfl)) (by decide) (fun K hK=>?_)
             refine goes_ Try.func30 (by kernel_rfl) rfl #[.agg #[.int .i64 ((rd_T48 l0 x5_1).f0),.int .i64 ((rd_T48 l0 x5_1).f1),.int .i64 ((rd_T48 l0 x5_1).f2),.int .i64 ((rd_T48 l0 x5_1).f3),.int .i64 ((rd_T48 l0 x5_1).f4),.int .i64 ((rd_T48 l0 x5_1).f5),.bool ((rd_T48 l0 x5_1).f6),.slice A220_7 ((rd_T48 l0 x5_1).f7).length c220_7],.agg #[.int .i64 ((rd_T51 l1 x5_1).f0),.int .i64 ((rd_T51 l1 x5_1).f1),.int .i64 ((rd_T51 l1 x5_1).f2),.int .i64 ((rd_T51 l1 x5_1).f3),.int .i64 ((rd_T51 l1 x5_1).f4),.int .i64 ((rd_T51 l1 x5_1).f5),.bool ((rd_T51 l1 x5_1).f6),.slice A221_7 ((rd_T51 l1 x5_1).f7).length c221_7]] (by rfl) rfl rfl (by (try simp only [List.map_toArray,List.map_cons,List.map_nil]);first|done|rfl|(simp only [List.length_drop,List.length_take];rfl)) ?_
             with_reducible refine (dioramalaw09_same.calls k1 ((rd_T48 l0 x5_1).f0) ((rd_T48 l0 x5_1).f1) ((rd_T48 l0 x5_1).f2) ((rd_T48 l0 x5_1).f3) ((rd_T48 l0 x5_1).f4) ((rd_T48 l0 x5_1).f5) ((rd_T48 l0 x5_1).f6) _ _ ((rd_T48 l0 x5_1).f7) ((rd_T51 l1 x5_1).f0) ((rd_T51 l1 x5_1).f1) ((rd_T51 l1 x5_1).f2) ((rd_T51 l1 x5_1).f3) ((rd_T51 l1 x5_1).f4) ((rd_T51 l1 x5_1).f5) ((rd_T51 l1 x5_1).f6) _ _ ((rd_T51 l1 x5_1).f7) true _ ?side1 ?side2 ?side3 ?side4 A7.out).mono ?_
             (case side1=>exact cV (Kd.C_below HR220_7.out HB.out))
             (case side2=>exact HC220_7.out)
             (case side3=>exact cV (Kd.C_below HR221_7.out HB.out))
             (case side4=>exact HC221_7.out)
             rintro e w10 ⟨rfl,hb⟩
             refine ⟨_,rfl,?_⟩
             have n0_:=Aside0.mk (below_step (belV HB.out) hb);clear HB;have HB:=n0_;clear n0_
             (try clear hb)
             (try clear hb2)
             (try clear hk)
             (try clear hi)
             refine hK.out _ _ ⟨((HB.out.cell (World.block_lt_of_cell? w _ hw220_0)).trans hw220_0),((HB.out.cell (World.block_lt_of_cell? w _ hw220_1)).trans hw220_1),((HB.out.cell (World.block_lt_of_cell? w _ hw220_2)).trans hw220_2),((HB.out.cell (World.block_lt_of_cell? w _ hw220_3)).trans hw220_3),((HB.out.cell (World.block_lt_of_cell? w _ hw220_4)).trans hw220_4),((HB.out.cell (World.block_lt_of_cell? w _ hw220_5)).trans hw220_5),((HB.out.cell (World.block_lt_of_cell? w _ hw220_6)).trans hw220_6),((HB.out.cell (World.block_lt_of_cell? w _ hw220_7)).trans hw220_7),((HB.out.cell (World.block_lt_of_cell? w _ hw221_0)).trans hw221_0),((HB.out.cell (World.block_lt_of_cell? w _ hw221_1)).trans hw221_1),((HB.out.cell (World.block_lt_of_cell? w _ hw221_2)).trans hw221_2),((HB.out.cell (World.block_lt_of_cell? w _ hw221_3)).trans hw221_3),((HB.out.cell (World.block_lt_of_cell? w _ hw221_4)).trans hw221_4),((HB.out.cell (World.block_lt_of_cell? w _ hw221_5)).trans hw221_5),((HB.out.cell (World.block_lt_of_cell? w _ hw221_6)).trans hw221_6),((HB.out.cell (World.block_lt_of_cell? w _ hw221_7)).trans hw221_7)⟩ (fun hHeld=>?_)
             clear hK K
             refine norm_ (a':=?_) ?_ ?_;rotate_left
             · show Act.put _ (some 25) _=_
               simp only [Act.put,List.setIfInBounds_toArray,List.set_cons_zero,List.set_cons_succ,i64_w,i32_w];rfl
             refine pure_ (i:=9) (N:=some 26) (v:=?_) (a':=?_) ((bm true [10]).toArray) rfl rfl (any_of HT_.out (by kernel_rfl)) (fun _ _ _ h=>h) (Or.inl ⟨by rfl,?_⟩) ?_ ?_;rotate_left
             · intro w';go_simp;with_reducible rfl
             rotate_left
             · simp only [Act.put,List.setIfInBounds_toArray,List.set_cons_zero,List.set_cons_succ,i64_w,i32_w];rfl
             refine done_ (done_of HT_.out (by kernel_rfl)) ?_
             try go_wp2
             go_roundg k1
             case measure=>have:=HK1.out;omega
             case rel=>exact ⟨(wrap64 (x5_1+1)),okV,H',⟨by have:=HK1.out;omega⟩,⟨belV HB.out⟩⟩
           replace c8:=Bool.eq_false_iff.mpr c8;subst c8
           have H1:(some false)=some r:=by rw [if_neg (show ¬ (false=true) by decide)] at H;exact H
           clear H
           have H:=H1;clear H1
           obtain rfl:=Option.some.inj H
           try go_wp2
           have n0_:=Aside0.mk (below_drew1 HB.out);clear HB;have HB:=n0_;clear n0_
           have p220:0≤(x5_1:Int):=of_decide_eq_true asV
           have q220:x5_1 < (l0.length:Int):=of_decide_eq_true asV
           obtain ⟨ad220,A220_7,c220_7,e220,hx220_0,hx220_1,hx220_2,hx220_3,hx220_4,hx220_5,hx220_6,hx220_7,hl220_7,hi220_7⟩:=at_T48 HR0.out x5_1 p220 q220
           have hw220_7:=hx220_7
           have hw220_6:=hx220_6
           have hw220_5:=hx220_5
           have hw220_4:=hx220_4
           have hw220_3:=hx220_3
           have hw220_2:=hx220_2
           have hw220_1:=hx220_1
           have hw220_0:=hx220_0
           cases e220
           replace hx220_0:=(HB.out.cell (World.block_lt_of_cell? w _ hx220_0)).trans hx220_0
           replace hx220_1:=(HB.out.cell (World.block_lt_of_cell? w _ hx220_1)).trans hx220_1
           replace hx220_2:=(HB.out.cell (World.block_lt_of_cell? w _ hx220_2)).trans hx220_2
           replace hx220_3:=(HB.out.cell (World.block_lt_of_cell? w _ hx220_3)).trans hx220_3
           replace hx220_4:=(HB.out.cell (World.block_lt_of_cell? w _ hx220_4)).trans hx220_4
           replace hx220_5:=(HB.out.cell (World.block_lt_of_cell? w _ hx220_5)).trans hx220_5
           replace hx220_6:=(HB.out.cell (World.block_lt_of_cell? w _ hx220_6)).trans hx220_6
           replace hx220_7:=(HB.out.cell (World.block_lt_of_cell? w _ hx220_7)).trans hx220_7
           have HR220_7:=Aside0.mk hi220_7
           have HC220_7:=Aside0.mk hl220_7;clear hi220_7 hl220_7
           replace p220:=eq_true p220
           replace q220:=eq_true q220
           have p221:0≤(x5_1:Int):=of_decide_eq_true asV
           have q221:x5_1 < (l1.length:Int):=of_decide_eq_true asV
           obtain ⟨ad221,A221_7,c221_7,e221,hx221_0,hx221_1,hx221_2,hx221_3,hx221_4,hx221_5,hx221_6,hx221_7,hl221_7,hi221_7⟩:=at_T51 HR1.out x5_1 p221 q221
           have hw221_7:=hx221_7
           have hw221_6:=hx221_6
           have hw221_5:=hx221_5
           have hw221_4:=hx221_4
           have hw221_3:=hx221_3
           have hw221_2:=hx221_2
           have hw221_1:=hx221_1
           have hw221_0:=hx221_0
           cases e221
           replace hx221_0:=(HB.out.cell (World.block_lt_of_cell? w _ hx221_0)).trans hx221_0
           replace hx221_1:=(HB.out.cell (World.block_lt_of_cell? w _ hx221_1)).trans hx221_1
           replace hx221_2:=(HB.out.cell (World.block_lt_of_cell? w _ hx221_2)).trans hx221_2
           replace hx221_3:=(HB.out.cell (World.block_lt_of_cell? w _ hx221_3)).trans hx221_3
           replace hx221_4:=(HB.out.cell (World.block_lt_of_cell? w _ hx221_4)).trans hx221_4
           replace hx221_5:=(HB.out.cell (World.block_lt_of_cell? w _ hx221_5)).trans hx221_5
           replace hx221_6:=(HB.out.cell (World.block_lt_of_cell? w _ hx221_6)).trans hx221_6
           replace hx221_7:=(HB.out.cell (World.block_lt_of_cell? w _ hx221_7)).trans hx221_7
           have HR221_7:=Aside0.mk hi221_7
           have HC221_7:=Aside0.mk hl221_7;clear hi221_7 hl221_7
           replace p221:=eq_true p221
           replace q221:=eq_true q221
           refine start_ (n:=10) (S:=fun w'=>w'.cell? (ad220.add ((x5_1).toNat*8))=some (.int .i64 ((rd_T48 l0 x5_1).f0))∧w'.cell? ⟨(ad220.add ((x5_1).toNat*8)).block,(ad220.add ((x5_1).toNat*8)).off+1,none⟩=some (.int .i64 ((rd_T48 l0 x5_1).f1))∧w'.cell? ⟨(ad220.add ((x5_1).toNat*8)).block,(ad220.add ((x5_1).toNat*8)).off+2,none⟩=some (.int .i64 ((rd_T48 l0 x5_1).f2))∧w'.cell? ⟨(ad220.add ((x5_1).toNat*8)).block,(ad220.add ((x5_1).toNat*8)).off+3,none⟩=some (.int .i64 ((rd_T48 l0 x5_1).f3))∧w'.cell? ⟨(ad220.add ((x5_1).toNat*8)).block,(ad220.add ((x5_1).toNat*8)).off+4,none⟩=some (.int .i64 ((rd_T48 l0 x5_1).f4))∧w'.cell? ⟨(ad220.add ((x5_1).toNat*8)).block,(ad220.add ((x5_1).toNat*8)).off+5,none⟩=some (.int .i64 ((rd_T48 l0 x5_1).f5))∧w'.cell? ⟨(ad220.add ((x5_1).toNat*8)).block,(ad220.add ((x5_1).toNat*8)).off+6,none⟩=some (.bool ((rd_T48 l0 x5_1).f6))∧w'.cell? ⟨(ad220.add ((x5_1).toNat*8)).block,(ad220.add ((x5_1).toNat*8)).off+7,none⟩=some (.slice A220_7 ((rd_T48 l0 x5_1).f7).length c220_7)∧w'.cell? (ad221.add ((x5_1).toNat*8))=some (.int .i64 ((rd_T51 l1 x5_1).f0))∧w'.cell? ⟨(ad221.add ((x5_1).toNat*8)).block,(ad221.add ((x5_1).toNat*8)).off+1,none⟩=some (.int .i64 ((rd_T51 l1 x5_1).f1))∧w'.cell? ⟨(ad221.add ((x5_1).toNat*8)).block,(ad221.add ((x5_1).toNat*8)).off+2,none⟩=some (.int .i64 ((rd_T51 l1 x5_1).f2))∧w'.cell? ⟨(ad221.add ((x5_1).toNat*8)).block,(ad221.add ((x5_1).toNat*8)).off+3,none⟩=some (.int .i64 ((rd_T51 l1 x5_1).f3))∧w'.cell? ⟨(ad221.add ((x5_1).toNat*8)).block,(ad221.add ((x5_1).toNat*8)).off+4,none⟩=some (.int .i64 ((rd_T51 l1 x5_1).f4))∧w'.cell? ⟨(ad221.add ((x5_1).toNat*8)).block,(ad221.add ((x5_1).toNat*8)).off+5,none⟩=some (.int .i64 ((rd_T51 l1 x5_1).f5))∧w'.cell? ⟨(ad221.add ((x5_1).toNat*8)).block,(ad221.add ((x5_1).toNat*8)).off+6,none⟩=some (.bool ((rd_T51 l1 x5_1).f6))∧w'.cell? ⟨(ad221.add ((x5_1).toNat*8)).block,(ad221.add ((x5_1).toNat*8)).off+7,none⟩=some (.slice A221_7 ((rd_T51 l1 x5_1).f7).length c221_7)) (ds:=[]) ((bm false [10]).toArray) (by kernel_rfl) rfl rfl ⟨((HB.out.cell (World.block_lt_of_cell? w _ hw220_0)).trans hw220_0),((HB.out.cell (World.block_lt_of_cell? w _ hw220_1)).trans hw220_1),((HB.out.cell (World.block_lt_of_cell? w _ hw220_2)).trans hw220_2),((HB.out.cell (World.block_lt_of_cell? w _ hw220_3)).trans hw220_3),((HB.out.cell (World.block_lt_of_cell? w _ hw220_4)).trans hw220_4),((HB.out.cell (World.block_lt_of_cell? w _ hw220_5)).trans hw220_5),((HB.out.cell (World.block_lt_of_cell? w _ hw220_6)).trans hw220_6),((HB.out.cell (World.block_lt_of_cell? w _ hw220_7)).trans hw220_7),((HB.out.cell (World.block_lt_of_cell? w _ hw221_0)).trans hw221_0),((HB.out.cell (World.block_lt_of_cell? w _ hw221_1)).trans hw221_1),((HB.out.cell (World.block_lt_of_cell? w _ hw221_2)).trans hw221_2),((HB.out.cell (World.block_lt_of_cell? w _ hw221_3)).trans hw221_3),((HB.out.cell (World.block_lt_of_cell? w _ hw221_4)).trans hw221_4),((HB.out.cell (World.block_lt_of_cell? w _ hw221_5)).trans hw221_5),((HB.out.cell (World.block_lt_of_cell? w _ hw221_6)).trans hw221_6),((HB.out.cell (World.block_lt_of_cell? w _ hw221_7)).trans hw221_7)⟩ (fun hHeld=>?_);refine with_tabW dioramalaw09_all.tab6 dioramalaw09_all.bits6 (fun HT_ HW_=>?_)
           generalize wr.drew=w11 at HB HR220_7 HR221_7 hx220_0 hx220_1 hx220_2 hx220_3 hx220_4 hx220_5 hx220_6 hx220_7 hx221_0 hx221_1 hx221_2 hx221_3 hx221_4 hx221_5 hx221_6 hx221_7 hHeld ⊢
           refine pure_ (i:=0) (N:=some 17) (v:=?_) (a':=?_) ((bm true [1,9]).toArray) rfl rfl (any_of HT_.out (by kernel_rfl)) (fun _ _ _ h=>h) (Or.inl ⟨by rfl,?_⟩) ?_ ?_;rotate_left
           · intro w';go_simp;with_reducible rfl
           rotate_left
           · simp only [Act.put,List.setIfInBounds_toArray,List.set_cons_zero,List.set_cons_succ,i64_w,i32_w];rfl
           refine pure_ (i:=1) (N:=some 18) (v:=?_) (a':=?_) ((bm true [2,8]).toArray) rfl rfl (any_of HT_.out (by kernel_rfl)) (fun _ _ _ h=>h) (Or.inl ⟨by rfl,?_⟩) ?_ ?_;rotate_left
           · intro w';go_simp;with_reducible rfl
           rotate_left
           · simp only [Act.put,List.setIfInBounds_toArray,List.set_cons_zero,List.set_cons_succ,i64_w,i32_w];rfl
           refine pure_ (i:=2) (N:=some 19) (v:=?_) (a':=?_) ((bm true [3,7]).toArray) rfl rfl (any_of HT_.out (by kernel_rfl)) (fun _ _ _ h=>h) (Or.inl ⟨by rfl,?_⟩) ?_ ?_;rotate_left
           · intro w';go_simp;with_reducible rfl
           rotate_left
           · simp only [Act.put,List.setIfInBounds_toArray,List.set_cons_zero,List.set_cons_succ,i64_w,i32_w];rfl
           refine pure_ (i:=4) (N:=some 21) (v:=?_) (a':=?_) ((bm true [3,1,1,5]).toArray) rfl rfl (any_of HT_.out (by kernel_rfl)) (fun _ _ _ h=>h) (Or.inl ⟨by rfl,?_⟩) ?_ ?_;rotate_left
           · intro w';go_simp;with_reducible rfl
           rotate_left
           · simp only [Act.put,List.setIfInBounds_toArray,List.set_cons_zero,List.set_cons_succ,i64_w,i32_w];rfl
           refine pure_ (i:=5) (N:=some 22) (v:=?_) (a':=?_) ((bm true [3,1,2,4]).toArray) rfl rfl (any_of HT_.out (by kernel_rfl)) (fun _ _ _ h=>h) (Or.inl ⟨by rfl,?_⟩) ?_ ?_;rotate_left
           · intro w';go_simp;with_reducible rfl
           rotate_left
           · simp only [Act.put,List.setIfInBounds_toArray,List.set_cons_zero,List.set_cons_succ,i64_w,i32_w];rfl
           refine pure_ (i:=6) (N:=some 23) (v:=?_) (a':=?_) ((bm true [3,1,3,3]).toArray) rfl rfl (any_of HT_.out (by kernel_rfl)) (fun _ _ _ h=>h) (Or.inl ⟨by rfl,?_⟩) ?_ ?_;rotate_left
           · intro w';go_simp;with_reducible rfl
           rotate_left
           · simp only [Act.put,List.setIfInBounds_toArray,List.set_cons_zero,List.set_cons_succ,i64_w,i32_w];rfl
           refine take_ (i:=3) (N:=some 20) (v:=?_) (a':=?_) ((bm true [7,3]).toArray) rfl rfl (take_ofW HT_.out HW_.out (by kernel_rfl)) (fun _ _ _ h=>h) (Or.inl ⟨by rfl,?_⟩) hHeld ?_ ?_;rotate_left
           · rintro w' ⟨s0,s1,s2,s3,s4,s5,s6,s7,s8,s9,s10,s11,s12,s13,s14,s15⟩
             go_simp;with_reducible rfl
           rotate_left
           · simp only [Act.put,List.setIfInBounds_toArray,List.set_cons_zero,List.set_cons_succ,i64_w,i32_w];rfl
           refine take_ (i:=7) (N:=some 24) (v:=?_) (a':=?_) ((bm true [8,2]).toArray) rfl rfl (take_ofW HT_.out HW_.out (by kernel_rfl)) (fun _ _ _ h=>h) (Or.inl ⟨by rfl,?_⟩) hHeld ?_ ?_;rotate_left
           · rintro w' ⟨s0,s1,s2,s3,s4,s5,s6,s7,s8,s9,s10,s11,s12,s13,s14,s15⟩
             go_simp;with_reducible rfl
           rotate_left
           · simp only [Act.put,List.setIfInBounds_toArray,List.set_cons_zero,List.set_cons_succ,i64_w,i32_w];rfl
           refine one_ (i:=8) (N:=some 25) ((bm true [9,1]).toArray) rfl rfl (one_of HT_.out (by kernel_rfl)) (by decide) (fun K hK=>?_)
           refine goes_ Try.func30 (by kernel_rfl) rfl #[.agg #[.int .i64 ((rd_T48 l0 x5_1).f0),.int .i64 ((rd_T48 l0 x5_1).f1),.int .i64 ((rd_T48 l0 x5_1).f2),.int .i64 ((rd_T48 l0 x5_1).f3),.int .i64 ((rd_T48 l0 x5_1).f4),.int .i64 ((rd_T48 l0 x5_1).f5),.bool ((rd_T48 l0 x5_1).f6),.slice A220_7 ((rd_T48 l0 x5_1).f7).length c220_7],.agg #[.int .i64 ((rd_T51 l1 x5_1).f0),.int .i64 ((rd_T51 l1 x5_1).f1),.int .i64 ((rd_T51 l1 x5_1).f2),.int .i64 ((rd_T51 l1 x5_1).f3),.int .i64 ((rd_T51 l1 x5_1).f4),.int .i64 ((rd_T51 l1 x5_1).f5),.bool ((rd_T51 l1 x5_1).f6),.slice A221_7 ((rd_T51 l1 x5_1).f7).length c221_7]] (by rfl) rfl rfl (by (try simp only [List.map_toArray,List.map_cons,List.map_nil]);first|done|rfl|(simp only [List.length_drop,List.length_take];rfl)) ?_
           with_reducible refine (dioramalaw09_same.calls k1 ((rd_T48 l0 x5_1).f0) ((rd_T48 l0 x5_1).f1) ((rd_T48 l0 x5_1).f2) ((rd_T48 l0 x5_1).f3) ((rd_T48 l0 x5_1).f4) ((rd_T48 l0 x5_1).f5) ((rd_T48 l0 x5_1).f6) _ _ ((rd_T48 l0 x5_1).f7) ((rd_T51 l1 x5_1).f0) ((rd_T51 l1 x5_1).f1) ((rd_T51 l1 x5_1).f2) ((rd_T51 l1 x5_1).f3) ((rd_T51 l1 x5_1).f4) ((rd_T51 l1 x5_1).f5) ((rd_T51 l1 x5_1).f6) _ _ ((rd_T51 l1 x5_1).f7) false _ ?side1 ?side2 ?side3 ?side4 A7.out).mono ?_
           (case side1=>exact cV (Kd.C_below HR220_7.out HB.out))
           (case side2=>exact HC220_7.out)
           (case side3=>exact cV (Kd.C_below HR221_7.out HB.out))
           (case side4=>exact HC221_7.out)
           rintro e w12 ⟨rfl,hb⟩
           refine ⟨_,rfl,?_⟩
           have n0_:=Aside0.mk (below_step (belV HB.out) hb);clear HB;have HB:=n0_;clear n0_
           (try clear hb)
           (try clear hb2)
           (try clear hk)
           (try clear hi)
           refine hK.out _ _ ⟨((HB.out.cell (World.block_lt_of_cell? w _ hw220_0)).trans hw220_0),((HB.out.cell (World.block_lt_of_cell? w _ hw220_1)).trans hw220_1),((HB.out.cell (World.block_lt_of_cell? w _ hw220_2)).trans hw220_2),((HB.out.cell (World.block_lt_of_cell? w _ hw220_3)).trans hw220_3),((HB.out.cell (World.block_lt_of_cell? w _ hw220_4)).trans hw220_4),((HB.out.cell (World.block_lt_of_cell? w _ hw220_5)).trans hw220_5),((HB.out.cell (World.block_lt_of_cell? w _ hw220_6)).trans hw220_6),((HB.out.cell (World.block_lt_of_cell? w _ hw220_7)).trans hw220_7),((HB.out.cell (World.block_lt_of_cell? w _ hw221_0)).trans hw221_0),((HB.out.cell (World.block_lt_of_cell? w _ hw221_1)).trans hw221_1),((HB.out.cell (World.block_lt_of_cell? w _ hw221_2)).trans hw221_2),((HB.out.cell (World.block_lt_of_cell? w _ hw221_3)).trans hw221_3),((HB.out.cell (World.block_lt_of_cell? w _ hw221_4)).trans hw221_4),((HB.out.cell (World.block_lt_of_cell? w _ hw221_5)).trans hw221_5),((HB.out.cell (World.block_lt_of_cell? w _ hw221_6)).trans hw221_6),((HB.out.cell (World.block_lt_of_cell? w _ hw221_7)).trans hw221_7)⟩ (fun hHeld=>?_)
           clear hK K
           refine norm_ (a':=?_) ?_ ?_;rotate_left
           · show Act.put _ (some 25) _=_
             simp only [Act.put,List.setIfInBounds_toArray,List.set_cons_zero,List.set_cons_succ,i64_w,i32_w];rfl
           refine pure_ (i:=9) (N:=some 26) (v:=?_) (a':=?_) ((bm true [10]).toArray) rfl rfl (any_of HT_.out (by kernel_rfl)) (fun _ _ _ h=>h) (Or.inl ⟨by rfl,?_⟩) ?_ ?_;rotate_left
           · intro w';go_simp;with_reducible rfl
           rotate_left
           · simp only [Act.put,List.setIfInBounds_toArray,List.set_cons_zero,List.set_cons_succ,i64_w,i32_w];rfl
           refine done_ (done_of HT_.out (by kernel_rfl)) ?_
           try go_wp2
           go_ret
           exact ⟨by first|rfl|(simp [errW_none,errW_some] <;> rfl)|(simp [*,errW_none,errW_some] <;> rfl),by repeat (first|(with_reducible first|exact HB.out|apply below_alloc|apply pw_below_drewN|apply below_drew1)|exact HB.out)⟩
         rw [if_neg c6] at H
         exact absurd H (by simp)
       rw [if_neg c5] at H
       exact absurd H (by simp)
     rw [if_neg c4] at H
     have c4b0:decide (x5_1 < (l0.length:Int))=false:=decide_eq_false c4;clear c4
     obtain rfl:=Option.some.inj H
     go_wp2
     go_ret
     exact ⟨by first|rfl|(simp [errW_none,errW_some] <;> rfl)|(simp [*,errW_none,errW_some] <;> rfl),by repeat (first|(with_reducible first|exact HB.out|apply below_alloc|apply pw_below_drewN|apply below_drew1)|exact HB.out)⟩
 rw [if_neg c3] at H
 have c3b0:((l0.length:Int) == (l1.length:Int))=false:=beq_eq_false_iff_ne.mpr c3
 have c3b1:((l0.length:Int) != (l1.length:Int))=true:=bne_iff_ne.mpr c3
 have c3b2:(l0.length == l1.length)=false:=by first|simpa using c3|(simp at c3 ⊢;omega)
 obtain rfl:=Option.some.inj H
 go_enter Try.func27,Try.ntmps27
 go_wp2
 go_ret
 exact ⟨by first|rfl|(simp [errW_none,errW_some] <;> rfl)|(simp [*,errW_none,errW_some] <;> rfl),by repeat (first|(with_reducible first|exact HB.out|apply below_alloc|apply pw_below_drewN|apply below_drew1)|exact HB.out)⟩

end Go.Proofs.Ytmbhafgnmdfjhaa.QTab
