/- Part of a proof: functions of the program as Lean functions, and that the machine's calls come to them. Made by a program of this session (wip/mp). -/
import Derived.Test.YtmbhafgnmdfjhaaQTabx0
namespace Go.Proofs.Ytmbhafgnmdfjhaa.QTab
open Go.RowKit Go.Proofs.YtmbhafgnmdfjhaaV Go.Proofs.YtmbhafgnmdfjhaaW.PrintWords Go.Proofs.YtmbhafgnmdfjhaaW.PrintLast Go.Proofs.YtmbhafgnmdfjhaaW.PrintMore
attribute [local go_sem] max2_int min2_int max_two min_two max_three min_three max_four min_four   -- for this text's walks alone
set_option linter.unusedVariables false
set_option linter.unusedSimpArgs false

/-! ### dioramaref09_values: function 69 -/
mutual
def dioramaref09_values.l0 : Nat → List (S83) → List Int → Int → Option (List Int)
 | 0,_,_,_=>none
 | k+1,x0,x3,x4=>if x4 < (x0.length:Int) then (dioramaref09_values.l1 k x0 x3 x4 0) else (some x3)
def dioramaref09_values.l1 : Nat → List (S83) → List Int → Int → Int → Option (List Int)
 | 0,_,_,_,_=>none
 | k+1,x0,x3,x4,x5=>if 0≤x4 then (if x4 < (x0.length:Int) then (if x5 < ((rd_T83 x0 x4).f0) then (if x3.length < 17592186044416 then (dioramaref09_values.l1 k x0 (x3 ++ [(rd_T83 x0 x4).f1]) x4 (wrap64 (x5+1))) else (none)) else (dioramaref09_values.l0 k x0 x3 (wrap64 (x4+1)))) else (none)) else (none)
end
def dioramaref09_values.f (k : Nat) (l0 : List (S83)) : Option (List Int) := dioramaref09_values.l0 k l0 ([] : List Int) 0
theorem dioramaref09_values.mono_l:∀ k,(∀ y0 y1 y2,LeO (dioramaref09_values.l0 k y0 y1 y2) (dioramaref09_values.l0 (k+1) y0 y1 y2))∧(∀ y0 y1 y2 y3,LeO (dioramaref09_values.l1 k y0 y1 y2 y3) (dioramaref09_values.l1 (k+1) y0 y1 y2 y3))
 | 0=>⟨fun _ _ _ r h=>by simp [dioramaref09_values.l0] at h,fun _ _ _ _ r h=>by simp [dioramaref09_values.l1] at h⟩
 | k+1=>by
  obtain ⟨ih0,ih1⟩:=dioramaref09_values.mono_l k
  refine ⟨?_,?_⟩
  · intro y0 y1 y2
    unfold dioramaref09_values.l0
    repeat' first
    | (with_reducible exact ih0 _ _ _)
    | (with_reducible exact ih1 _ _ _ _)
    | (with_reducible exact LeO.refl _)
    | (with_reducible exact LeO.none _)
    | (with_reducible refine LeO.ite ?_ ?_)
    | (with_reducible refine LeO.bind ?_ (fun _=>?_))
    | exact LeO.none _
    | refine LeO.ite ?_ ?_
    | refine LeO.bind ?_ (fun _=>?_)
  intro y0 y1 y2 y3
  unfold dioramaref09_values.l1
  repeat' first
  | (with_reducible exact ih0 _ _ _)
  | (with_reducible exact ih1 _ _ _ _)
  | (with_reducible exact LeO.refl _)
  | (with_reducible exact LeO.none _)
  | (with_reducible refine LeO.ite ?_ ?_)
  | (with_reducible refine LeO.bind ?_ (fun _=>?_))
  | exact LeO.none _
  | refine LeO.ite ?_ ?_
  | refine LeO.bind ?_ (fun _=>?_)
theorem dioramaref09_values.mono:∀ a0 k,LeO (dioramaref09_values.f k a0) (dioramaref09_values.f (k+1) a0):=by
 intro a0 k
 obtain ⟨ih0,ih1⟩:=dioramaref09_values.mono_l k
 unfold dioramaref09_values.f
 repeat' first
  | (with_reducible exact ih0 _ _ _)
  | (with_reducible exact ih1 _ _ _ _)
  | (with_reducible exact LeO.refl _)
  | (with_reducible exact LeO.none _)
  | (with_reducible refine LeO.ite ?_ ?_)
  | (with_reducible refine LeO.bind ?_ (fun _=>?_))
  | exact LeO.none _
  | refine LeO.ite ?_ ?_
  | refine LeO.bind ?_ (fun _=>?_)
set_option maxHeartbeats 8000000 in
set_option maxRecDepth 100000 in
theorem dioramaref09_values.calls (k:Nat) (A0:Option Addr) (c0:Nat) (l0:List (S83)) (r:List Int) (w:World) (hr0:Kd.C k83 w A0 l0.length l0) (hc0:l0.length≤c0) (h:dioramaref09_values.f k l0=some r) :
 Calls Try.prog 69 #[.slice A0 l0.length c0] w fun e w'=>∃ v0_:Value,e=.returned (v0_)∧Kd.R (Kd.int .i64) 3 w' w.heap.size (fun _=>True) v0_ r∧Below w.heap.size w w':=by
 have HR0:=Aside0.mk hr0
 have HC0:=Aside0.mk hc0;clear hr0 hc0;have HB:=Aside0.mk (Below.refl w.heap.size w)
 have H:(dioramaref09_values.l0 k l0 ([]:List Int) 0)=some r:=h;clear h
 have H':=Aside0.mk H;clear H
 go_enter Try.func69,Try.ntmps69
 go_wp2
 go_loopg [3,4] k (fun kq v3 v4 w'=>∃ (x3_1:List Int) (x4_1:Int),v4=.int .i64 x4_1∧Aside0 (dioramaref09_values.l0 kq l0 x3_1 x4_1=some r)∧Aside0 (kq≤k)∧Aside0 (Kd.R (Kd.int .i64) 3 w' w.heap.size (fun _=>True) v3 x3_1)∧Aside0 (Below w.heap.size w w'))
 case atStart=>exact ⟨(([]:List Int)),(0),okV,H',⟨Nat.le_refl _⟩,⟨by first|exact Kd.R_nil _ _ _ _ _|exact Kd.N_nil _ _ _ _ _|exact Kd.V_nil _ _ _ _ _|exact Kd.Q_nil _ _ _ _ _|exact Kd.S_nil _ _ _ _ _⟩,⟨belV HB.out⟩⟩
 case round =>
  clear H'
  obtain ⟨x3_1,x4_1,rfl,HA,HK1,HO_3,HB⟩:=hrel
  cases gk with
  | zero=>exact absurd HA.out (by simp [dioramaref09_values.l0])
  | succ k1 =>
   have H:=HA.out;clear HA
   simp only [dioramaref09_values.l0] at H
   by_cases c2:x4_1 < (l0.length:Int)
   · rw [if_pos c2] at H
     have c2b0:decide (x4_1 < (l0.length:Int))=true:=decide_eq_true c2;clear c2
     have H':=Aside0.mk H;clear H
     go_wp2
     go_loopg [3,5] k1 (fun kq v3 v5 w'=>∃ (x3_2:List Int) (x5_2:Int),v5=.int .i64 x5_2∧Aside0 (dioramaref09_values.l1 kq l0 x3_2 x4_1 x5_2=some r)∧Aside0 (kq≤k1)∧Aside0 (Kd.R (Kd.int .i64) 3 w' w.heap.size (fun _=>True) v3 x3_2)∧Aside0 (Below w.heap.size w w'))
     case atStart=>exact ⟨(x3_1),(0),okV,H',⟨Nat.le_refl _⟩,⟨rowV HO_3.out⟩,⟨belV HB.out⟩⟩
     case round =>
      clear H'
      try clear c2;try clear c2b0;try clear p2
      obtain ⟨x3_2,x5_2,rfl,HA,HK2,HO_3,HB⟩:=hrel
      cases gk with
      | zero=>exact absurd HA.out (by simp [dioramaref09_values.l1])
      | succ k2 =>
       have H:=HA.out;clear HA
       simp only [dioramaref09_values.l1] at H
       by_cases c3:0≤x4_1
       · rw [if_pos c3] at H
         have c3b0:decide (0≤x4_1)=true:=decide_eq_true c3;clear c3
         by_cases c4:x4_1 < (l0.length:Int)
         · rw [if_pos c4] at H
           have c4b0:decide (x4_1 < (l0.length:Int))=true:=decide_eq_true c4;clear c4
           by_cases c5:x5_2 < ((rd_T83 l0 x4_1).f0)
           · rw [if_pos c5] at H
             have c5b0:decide (x5_2 < ((rd_T83 l0 x4_1).f0))=true:=decide_eq_true c5;clear c5
             by_cases c6:x3_2.length < 17592186044416
             · rw [if_pos c6] at H
               have LMc6:=Aside0.mk c6;clear c6
               obtain ⟨y142,hy142⟩:∃ y_:List Int,y_=(x3_2 ++ [(rd_T83 l0 x4_1).f1]):=⟨_,rfl⟩
               replace H:(dioramaref09_values.l1 k2 l0 y142 x4_1 (wrap64 (x5_2+1)))=some r:=by first|(rw [hy142];with_reducible exact H)|(have H2_:=(Option.bind_some _ _).symm.trans H;rw [hy142];with_reducible exact H2_)|(have H2_:=(Option.bind_some _ _).symm.trans H;with_reducible exact H2_)|with_reducible exact H|(rw [hy142];exact H)|exact H
               have Ny142:=Aside0.mk hy142;clear hy142
               have H':=Aside0.mk H;clear H
               have p140:0≤(x4_1:Int):=of_decide_eq_true asV
               have q140:x4_1 < (l0.length:Int):=of_decide_eq_true asV
               obtain ⟨ad140,e140,hx140_0,hx140_1⟩:=at_T83 HR0.out x4_1 p140 q140
               cases e140
               replace hx140_0:=(HB.out.cell (World.block_lt_of_cell? w _ hx140_0)).trans hx140_0
               replace hx140_1:=(HB.out.cell (World.block_lt_of_cell? w _ hx140_1)).trans hx140_1
               replace p140:=eq_true p140
               replace q140:=eq_true q140
               have p141:0≤(x4_1:Int):=of_decide_eq_true asV
               have q141:x4_1 < (l0.length:Int):=of_decide_eq_true asV
               obtain ⟨ad141,e141,hx141_0,hx141_1⟩:=at_T83 HR0.out x4_1 p141 q141
               obtain rfl:ad140=ad141:=(by injection e141)
               replace hx141_0:=(HB.out.cell (World.block_lt_of_cell? w _ hx141_0)).trans hx141_0
               replace hx141_1:=(HB.out.cell (World.block_lt_of_cell? w _ hx141_1)).trans hx141_1
               replace p141:=eq_true p141
               replace q141:=eq_true q141
               go_wp2_with (first|((with_reducible refine gate_builtin (b:=.append) (xs:=#[.tmp 21,.tmp 27]) rfl ?_);at_builtin;refine Kd.R_append (Kd.int .i64) (w0:=w) w.heap.size rfl (.tmp 21) (.tmp 27) 23 3 (.int .i64 0) 8 rfl Try.underlying23 info3 rfl (by decide) (by omega) u3 x3_2 ((rd_T83 l0 x4_1).f1) [.int .i64 ((rd_T83 l0 x4_1).f1)] (fun _=>True) (fun _=>False) rfl rfl ?aP (fun _ hk=>hk.elim) ?aF ?aO ?aB ?aS ?aL ?_;(case aP=>exact rfl);(case aB=>exact (belV HB.out));(case aF=>exact (fun _ _=>trivial));(case aO=>exact (rowV HO_3.out));(case aS=>exact (below_size (belV HB.out)));(case aL=>have:=LMc6.out;omega);intro v143 w7 ho hb hg hat;rw [← Ny142.out] at ho;have n0_:=Aside0.mk (hb);have n1_:=Aside0.mk (ho);clear HB;clear HO_3;have HB:=n0_;have HO144:=n1_;clear n0_ n1_;clear ho hb hg hat))
               go_roundg k2
               case measure=>have:=HK1.out;have:=HK2.out;omega
               case rel=>exact ⟨(y142),(wrap64 (x5_2+1)),okV,H',⟨by have:=HK1.out;have:=HK2.out;omega⟩,⟨rowV HO144.out⟩,⟨belV HB.out⟩⟩
             rw [if_neg c6] at H
             exact absurd H (by simp)
           rw [if_neg c5] at H
           have c5b0:decide (x5_2 < ((rd_T83 l0 x4_1).f0))=false:=decide_eq_false c5;clear c5
           have H':=Aside0.mk H;clear H
           have p140:0≤(x4_1:Int):=of_decide_eq_true asV
           have q140:x4_1 < (l0.length:Int):=of_decide_eq_true asV
           obtain ⟨ad140,e140,hx140_0,hx140_1⟩:=at_T83 HR0.out x4_1 p140 q140
           cases e140
           replace hx140_0:=(HB.out.cell (World.block_lt_of_cell? w _ hx140_0)).trans hx140_0
           replace hx140_1:=(HB.out.cell (World.block_lt_of_cell? w _ hx140_1)).trans hx140_1
           replace p140:=eq_true p140
           replace q140:=eq_true q140
           go_wp2
           go_roundg k2
           case measure=>have:=HK1.out;have:=HK2.out;omega
           case rel=>exact ⟨(x3_2),(wrap64 (x4_1+1)),okV,H',⟨by have:=HK1.out;have:=HK2.out;omega⟩,⟨rowV HO_3.out⟩,⟨belV HB.out⟩⟩
         rw [if_neg c4] at H
         exact absurd H (by simp)
       rw [if_neg c3] at H
       exact absurd H (by simp)
   rw [if_neg c2] at H
   have c2b0:decide (x4_1 < (l0.length:Int))=false:=decide_eq_false c2;clear c2
   obtain rfl:=Option.some.inj H
   go_wp2
   go_ret
   exact ⟨_,by first|rfl|(simp [errW_none,errW_some] <;> rfl)|(simp [*,errW_none,errW_some] <;> rfl),by (with_reducible repeat (first|apply Kd.R_alloc|apply Kd.R_drewN|apply Kd.R_drew));exact HO_3.out,by repeat (first|(with_reducible first|exact HB.out|apply below_alloc|apply pw_below_drewN|apply below_drew1)|exact HB.out)⟩

/-! ### dioramaref09_or: function 97 -/
def dioramaref09_or.f (k : Nat) (l0 : List (S83)) (l1 : List Int) : Option (List Int) := if (l0.length : Int) > 0 then ((dioramaref09_values.f k l0).bind fun t145 => (some t145)) else (some l1)
theorem dioramaref09_or.mono:∀ a0 a1 k,LeO (dioramaref09_or.f k a0 a1) (dioramaref09_or.f (k+1) a0 a1):=by
 intro a0 a1 k
 unfold dioramaref09_or.f
 repeat' first
  | (with_reducible exact dioramaref09_values.mono _ _)
  | (with_reducible exact LeO.refl _)
  | (with_reducible exact LeO.none _)
  | (with_reducible refine LeO.ite ?_ ?_)
  | (with_reducible refine LeO.bind ?_ (fun _=>?_))
  | exact LeO.none _
  | refine LeO.ite ?_ ?_
  | refine LeO.bind ?_ (fun _=>?_)
set_option maxHeartbeats 8000000 in
set_option maxRecDepth 100000 in
theorem dioramaref09_or.calls (k:Nat) (A0:Option Addr) (c0:Nat) (l0:List (S83)) (P1_:Nat→Prop) (u9000_:Value) (l1:List Int) (r:List Int) (w0 w:World) (hB:Below w0.heap.size w0 w) (hr0:∀ W_,Kept w W_ (fun k_=>P1_ k_)→Kd.C k83 W_ A0 l0.length l0) (hc0:l0.length≤c0) (ho1:Kd.R (Kd.int .i64) 3 w w0.heap.size P1_ u9000_ l1) (h:dioramaref09_or.f k l0 l1=some r) :
 Calls Try.prog 97 #[.slice A0 l0.length c0,u9000_] w fun e w'=>∃ v0_:Value,e=.returned (v0_)∧Kd.R (Kd.int .i64) 3 w' w0.heap.size (fun k_=>(P1_ k_∨w.heap.size≤k_)) v0_ r∧Below w0.heap.size w0 w'∧Kept w w' (fun k_=>P1_ k_):=by
 have HR0:=Aside0.mk hr0
 have HC0:=Aside0.mk hc0;clear hr0 hc0
 have HO1:=Aside0.mk (show Kd.R (Kd.int .i64) 3 w w0.heap.size (fun k_=>(P1_ k_∨w.heap.size≤k_)) u9000_ l1 from Kd.R_mono ho1 (fun k_ hk=>(.inl hk)))
 have HK:=Aside0.mk (Kept.refl w (fun k_=>P1_ k_))
 have HW0:=Aside0.mk hB.size;have HB:=Aside0.mk hB;clear hB
 have H:(if (l0.length:Int) > 0 then ((dioramaref09_values.f k l0).bind fun t145=>(some t145)) else (some l1))=some r:=h;clear h
 by_cases c3:(l0.length:Int) > 0
 · rw [if_pos c3] at H
   have c3b0:decide (0 < (l0.length:Int))=true:=decide_eq_true c3
   have c3b1:decide (0 < l0.length)=true:=decide_eq_true (by omega);clear c3
   replace H:=Option.bind_eq_some_iff.mp H
   obtain ⟨t145,A40,H⟩:=H
   replace H:(some t145)=some r:=H
   have A4:=Aside0.mk A40;clear A40
   obtain rfl:=Option.some.inj H
   go_enter Try.func97,Try.ntmps97
   go_wp2_with (first|((with_reducible refine gate_callee (f:=69) rfl ?_);refine goesL_ (some 9) rfl rfl Try.func69 (by kernel_rfl) rfl #[.slice A0 l0.length c0] rfl (by (try simp only [List.map_toArray,List.map_cons,List.map_nil]);first|done|rfl|(simp only [List.length_drop,List.length_take];rfl)) ?_;(with_reducible refine (dioramaref09_values.calls k _ _ l0 t145 _ ?side1 ?side2 A4.out).mono ?_);(case side1=>exact Kd.C_kept_now HR0.out (by repeat (first|(with_reducible first|exact HK.out|apply Kept.alloc|apply Kept.drewN|apply Kept.drew)|exact HK.out)));(case side2=>exact HC0.out);rintro e w5 ⟨v146,rfl,ho0,hb⟩;refine ⟨_,rfl,?_⟩;have n0_:=Aside0.mk (Kd.R_elder' (rowV HO1.out) (Kd.R_base ho0) hb);have n1_:=Aside0.mk (Kd.R_lower (Kd.R_new' (Kd.R_newM (M:=fun k_=>(P1_ k_∨w.heap.size≤k_)) ho0 (by first|exact HK.out.1|exact (show Kept w _ (fun k_=>P1_ k_) from by repeat (first|(with_reducible first|exact HK.out|apply Kept.alloc|apply Kept.drewN|apply Kept.drew)|exact HK.out)).1) (fun k_ h_=>.inr h_)) (Kd.R_lt (rowV HO1.out))) (below_size (belV HB.out)));have n2_:=Aside0.mk (Kept.below (S:=(fun k_=>P1_ k_)) (by repeat (first|(with_reducible first|exact HK.out|apply Kept.alloc|apply Kept.drewN|apply Kept.drew)|exact HK.out)) hb);have n3_:=Aside0.mk (below_step (belV HB.out) hb);clear HO1;clear HK;clear HB;have HO1:=n0_;have HO147:=n1_;have HK:=n2_;have HB:=n3_;clear n0_ n1_ n2_ n3_;(try clear hb);(try clear hb2);(try clear hk);(try clear hi);(try clear ho0)))
   go_ret
   exact ⟨_,by first|rfl|(simp [errW_none,errW_some] <;> rfl)|(simp [*,errW_none,errW_some] <;> rfl),by (with_reducible repeat (first|apply Kd.R_alloc|apply Kd.R_drewN|apply Kd.R_drew));exact Kd.R_mono HO147.out (fun _ hk=>hk.1.1),by repeat (first|(with_reducible first|exact HB.out|apply below_alloc|apply pw_below_drewN|apply below_drew1)|exact HB.out),by repeat (first|(with_reducible first|exact HK.out|apply Kept.alloc|apply Kept.drewN|apply Kept.drew)|exact HK.out)⟩
 rw [if_neg c3] at H
 have c3b0:decide (0 < (l0.length:Int))=false:=decide_eq_false c3
 have c3b1:decide (0 < l0.length)=false:=decide_eq_false (by omega);clear c3
 obtain rfl:=Option.some.inj H
 go_enter Try.func97,Try.ntmps97
 go_wp2
 go_ret
 exact ⟨_,by first|rfl|(simp [errW_none,errW_some] <;> rfl)|(simp [*,errW_none,errW_some] <;> rfl),by (with_reducible repeat (first|apply Kd.R_alloc|apply Kd.R_drewN|apply Kd.R_drew));exact HO1.out,by repeat (first|(with_reducible first|exact HB.out|apply below_alloc|apply pw_below_drewN|apply below_drew1)|exact HB.out),by repeat (first|(with_reducible first|exact HK.out|apply Kept.alloc|apply Kept.drewN|apply Kept.drew)|exact HK.out)⟩

end Go.Proofs.Ytmbhafgnmdfjhaa.QTab
