/- Part of a proof: functions of the program as Lean functions, and that the machine's calls come to them. Made by a program of this session (wip/mp). -/
import Derived.Test.YtmbhafgnmdfjhaaQTabx0
import Derived.Test.YtmbhafgnmdfjhaaQTabx9
import Derived.Test.YtmbhafgnmdfjhaaQTabx11
import Derived.Test.YtmbhafgnmdfjhaaQTabx17
namespace Go.Proofs.Ytmbhafgnmdfjhaa.QTab
open Go.RowKit Go.Proofs.YtmbhafgnmdfjhaaV Go.Proofs.YtmbhafgnmdfjhaaW.PrintWords Go.Proofs.YtmbhafgnmdfjhaaW.PrintLast Go.Proofs.YtmbhafgnmdfjhaaW.PrintMore
attribute [local go_sem] max2_int min2_int max_two min_two max_three min_three max_four min_four   -- for this text's walks alone
set_option linter.unusedVariables false
set_option linter.unusedSimpArgs false

/-! ### dioramaref09_Values: function 24 -/
def dioramaref09_Values.l0 : Nat → List (S83) → Int → Option (List Int × Int)
 | 0,_,_=>none
 | k+1,x0,x4=>if x4 < (x0.length:Int) then (if 0≤x4 then (if ((rd_T83 x0 x4).f0) < 1 then (some (([]:List Int),1)) else (dioramaref09_Values.l0 k x0 (wrap64 (x4+1)))) else (none)) else ((dioramaref09_counted.f k x0).bind fun t198=>(if t198 > 400 then (some (([]:List Int),2)) else ((dioramaref09_values.f k x0).bind fun t199=>(some (t199,0)))))
def dioramaref09_Values.f (k : Nat) (l0 : List (S83)) : Option (List Int × Int) := dioramaref09_Values.l0 k l0 0
theorem dioramaref09_Values.mono_l:∀ k,(∀ y0 y1,LeO (dioramaref09_Values.l0 k y0 y1) (dioramaref09_Values.l0 (k+1) y0 y1))
 | 0=>fun _ _ r h=>by simp [dioramaref09_Values.l0] at h
 | k+1=>by
  have ih0:=dioramaref09_Values.mono_l k
  · intro y0 y1
    unfold dioramaref09_Values.l0
    repeat' first
    | (with_reducible exact ih0 _ _)
    | (with_reducible exact dioramaref09_counted.mono _ _)
    | (with_reducible exact dioramaref09_values.mono _ _)
    | (with_reducible exact LeO.refl _)
    | (with_reducible exact LeO.none _)
    | (with_reducible refine LeO.ite ?_ ?_)
    | (with_reducible refine LeO.bind ?_ (fun _=>?_))
    | exact LeO.none _
    | refine LeO.ite ?_ ?_
    | refine LeO.bind ?_ (fun _=>?_)
theorem dioramaref09_Values.mono:∀ a0 k,LeO (dioramaref09_Values.f k a0) (dioramaref09_Values.f (k+1) a0):=by
 intro a0 k
 have ih0:=dioramaref09_Values.mono_l k
 unfold dioramaref09_Values.f
 repeat' first
  | (with_reducible exact ih0 _ _)
  | (with_reducible exact dioramaref09_counted.mono _ _)
  | (with_reducible exact dioramaref09_values.mono _ _)
  | (with_reducible exact LeO.refl _)
  | (with_reducible exact LeO.none _)
  | (with_reducible refine LeO.ite ?_ ?_)
  | (with_reducible refine LeO.bind ?_ (fun _=>?_))
  | exact LeO.none _
  | refine LeO.ite ?_ ?_
  | refine LeO.bind ?_ (fun _=>?_)
set_option maxHeartbeats 8000000 in
set_option maxRecDepth 100000 in
theorem dioramaref09_Values.calls (k:Nat) (A0:Option Addr) (c0:Nat) (l0:List (S83)) (r1:List Int) (r2:Int) (w:World) (hr0:Kd.C k83 w A0 l0.length l0) (hc0:l0.length≤c0) (h:dioramaref09_Values.f k l0=some (r1,r2)) :
 Calls Try.prog 24 #[.slice A0 l0.length c0] w fun e w'=>∃ v0_:Value,e=.returned (.tuple #[v0_,.int .i64 r2])∧Kd.R (Kd.int .i64) 3 w' w.heap.size (fun _=>True) v0_ r1∧Below w.heap.size w w':=by
 have HR0:=Aside0.mk hr0
 have HC0:=Aside0.mk hc0;clear hr0 hc0;have HB:=Aside0.mk (Below.refl w.heap.size w)
 have H:(dioramaref09_Values.l0 k l0 0)=some (r1,r2):=h;clear h
 have H':=Aside0.mk H;clear H
 go_enter Try.func24,Try.ntmps24
 go_wp2
 go_loopg [4] k (fun kq v4 w'=>∃ (x4_1:Int),v4=.int .i64 x4_1∧Aside0 (dioramaref09_Values.l0 kq l0 x4_1=some (r1,r2))∧Aside0 (kq≤k)∧Aside0 (Below w.heap.size w w'))
 case atStart=>exact ⟨(0),okV,H',⟨Nat.le_refl _⟩,⟨belV HB.out⟩⟩
 case round =>
  clear H'
  obtain ⟨x4_1,rfl,HA,HK1,HB⟩:=hrel
  cases gk with
  | zero=>exact absurd HA.out (by simp [dioramaref09_Values.l0])
  | succ k1 =>
   have H:=HA.out;clear HA
   simp only [dioramaref09_Values.l0] at H
   by_cases c2:x4_1 < (l0.length:Int)
   · rw [if_pos c2] at H
     have c2b0:decide (x4_1 < (l0.length:Int))=true:=decide_eq_true c2;clear c2
     by_cases c3:0≤x4_1
     · rw [if_pos c3] at H
       have c3b0:decide (0≤x4_1)=true:=decide_eq_true c3;clear c3
       by_cases c4:((rd_T83 l0 x4_1).f0) < 1
       · rw [if_pos c4] at H
         have c4b0:decide (((rd_T83 l0 x4_1).f0) < 1)=true:=decide_eq_true c4;clear c4
         simp only [Option.some.injEq,Prod.mk.injEq] at H
         obtain ⟨rfl,rfl⟩:=H
         have p197:0≤(x4_1:Int):=of_decide_eq_true asV
         have q197:x4_1 < (l0.length:Int):=of_decide_eq_true asV
         obtain ⟨ad197,e197,hx197_0,hx197_1⟩:=at_T83 HR0.out x4_1 p197 q197
         cases e197
         replace hx197_0:=(HB.out.cell (World.block_lt_of_cell? w _ hx197_0)).trans hx197_0
         replace hx197_1:=(HB.out.cell (World.block_lt_of_cell? w _ hx197_1)).trans hx197_1
         replace p197:=eq_true p197
         replace q197:=eq_true q197
         go_wp2
         go_ret2
         exact ⟨_,by first|rfl|(simp [errW_none,errW_some] <;> rfl)|(simp [*,errW_none,errW_some] <;> rfl),by first|exact Kd.R_nil _ _ _ _ _|exact Kd.N_nil _ _ _ _ _|exact Kd.V_nil _ _ _ _ _|exact Kd.Q_nil _ _ _ _ _|exact Kd.S_nil _ _ _ _ _,by repeat (first|(with_reducible first|exact HB.out|apply below_alloc|apply pw_below_drewN|apply below_drew1)|exact HB.out)⟩
       rw [if_neg c4] at H
       have c4b0:decide (((rd_T83 l0 x4_1).f0) < 1)=false:=decide_eq_false c4;clear c4
       have H':=Aside0.mk H;clear H
       have p197:0≤(x4_1:Int):=of_decide_eq_true asV
       have q197:x4_1 < (l0.length:Int):=of_decide_eq_true asV
       obtain ⟨ad197,e197,hx197_0,hx197_1⟩:=at_T83 HR0.out x4_1 p197 q197
       cases e197
       replace hx197_0:=(HB.out.cell (World.block_lt_of_cell? w _ hx197_0)).trans hx197_0
       replace hx197_1:=(HB.out.cell (World.block_lt_of_cell? w _ hx197_1)).trans hx197_1
       replace p197:=eq_true p197
       replace q197:=eq_true q197
       go_wp2
       go_roundg k1
       case measure=>have:=HK1.out;omega
       case rel=>exact ⟨(wrap64 (x4_1+1)),okV,H',⟨by have:=HK1.out;omega⟩,⟨belV HB.out⟩⟩
     rw [if_neg c3] at H
     exact absurd H (by simp)
   rw [if_neg c2] at H
   have c2b0:decide (x4_1 < (l0.length:Int))=false:=decide_eq_false c2;clear c2
   replace H:=Option.bind_eq_some_iff.mp H
   obtain ⟨t198,A50,H⟩:=H
   replace H:(if t198 > 400 then (some (([]:List Int),2)) else ((dioramaref09_values.f k1 l0).bind fun t199=>(some (t199,0))))=some (r1,r2):=H
   have A5:=Aside0.mk A50;clear A50
   by_cases c6:t198 > 400
   · rw [if_pos c6] at H
     have c6b0:decide (400 < t198)=true:=decide_eq_true c6;clear c6
     simp only [Option.some.injEq,Prod.mk.injEq] at H
     obtain ⟨rfl,rfl⟩:=H
     go_wp2_with (first|((with_reducible refine gate_callee (f:=55) rfl ?_);refine goesL_ (some 18) rfl rfl Try.func55 (by kernel_rfl) rfl #[.slice A0 l0.length c0] rfl (by (try simp only [List.map_toArray,List.map_cons,List.map_nil]);first|done|rfl|(simp only [List.length_drop,List.length_take];rfl)) ?_;(with_reducible refine (dioramaref09_counted.calls k1 _ _ l0 t198 _ ?side1 ?side2 A5.out).mono ?_);(case side1=>exact cV (Kd.C_below HR0.out HB.out));(case side2=>exact HC0.out);rintro e w' ⟨rfl,⟨nd,rfl⟩⟩;refine ⟨_,rfl,?_⟩))
     go_ret2
     exact ⟨_,by first|rfl|(simp [errW_none,errW_some] <;> rfl)|(simp [*,errW_none,errW_some] <;> rfl),by first|exact Kd.R_nil _ _ _ _ _|exact Kd.N_nil _ _ _ _ _|exact Kd.V_nil _ _ _ _ _|exact Kd.Q_nil _ _ _ _ _|exact Kd.S_nil _ _ _ _ _,by repeat (first|(with_reducible first|exact HB.out|apply below_alloc|apply pw_below_drewN|apply below_drew1)|exact HB.out)⟩
   rw [if_neg c6] at H
   have c6b0:decide (400 < t198)=false:=decide_eq_false c6;clear c6
   replace H:=Option.bind_eq_some_iff.mp H
   obtain ⟨t199,A70,H⟩:=H
   replace H:(some (t199,0))=some (r1,r2):=H
   have A7:=Aside0.mk A70;clear A70
   simp only [Option.some.injEq,Prod.mk.injEq] at H
   obtain ⟨rfl,rfl⟩:=H
   go_wp2_with (first|((with_reducible refine gate_callee (f:=55) rfl ?_);refine goesL_ (some 18) rfl rfl Try.func55 (by kernel_rfl) rfl #[.slice A0 l0.length c0] rfl (by (try simp only [List.map_toArray,List.map_cons,List.map_nil]);first|done|rfl|(simp only [List.length_drop,List.length_take];rfl)) ?_;(with_reducible refine (dioramaref09_counted.calls k1 _ _ l0 t198 _ ?side1 ?side2 A5.out).mono ?_);(case side1=>exact cV (Kd.C_below HR0.out HB.out));(case side2=>exact HC0.out);rintro e w' ⟨rfl,⟨nd,rfl⟩⟩;refine ⟨_,rfl,?_⟩)|((with_reducible refine gate_callee (f:=69) rfl ?_);refine goesL_ (some 21) rfl rfl Try.func69 (by kernel_rfl) rfl #[.slice A0 l0.length c0] rfl (by (try simp only [List.map_toArray,List.map_cons,List.map_nil]);first|done|rfl|(simp only [List.length_drop,List.length_take];rfl)) ?_;(with_reducible refine (dioramaref09_values.calls k1 _ _ l0 t199 _ ?side1 ?side2 A7.out).mono ?_);(case side1=>repeat (first|exact (Kd.C_below HR0.out (belV HB.out))|(with_reducible refine Kd.C_alloc ?_ _)|(with_reducible refine Kd.C_drewN ?_ _)|(with_reducible refine Kd.C_drew ?_)));(case side2=>exact HC0.out);rintro e w8 ⟨v200,rfl,ho0,hb⟩;refine ⟨_,rfl,?_⟩;have n0_:=Aside0.mk (Kd.R_lower ho0 (below_size (belV HB.out)));have n1_:=Aside0.mk (below_step (belV HB.out) hb);clear HB;have HO201:=n0_;have HB:=n1_;clear n0_ n1_;(try clear hb);(try clear hb2);(try clear hk);(try clear hi);(try clear ho0)))
   go_ret2
   exact ⟨_,by first|rfl|(simp [errW_none,errW_some] <;> rfl)|(simp [*,errW_none,errW_some] <;> rfl),by (with_reducible repeat (first|apply Kd.R_alloc|apply Kd.R_drewN|apply Kd.R_drew));exact HO201.out,by repeat (first|(with_reducible first|exact HB.out|apply below_alloc|apply pw_below_drewN|apply below_drew1)|exact HB.out)⟩

-- NOT PRINTED: function 4 (dioramalaw09_TableRuns)

-- NOT PRINTED: function 71 (dioramaref09_expand)

-- NOT PRINTED: function 26 (dioramaref09_Expand)

/-! ### dioramalaw09_same: function 30 -/
def dioramalaw09_same.f (k : Nat) (a0_0 : Int) (a0_1 : Int) (a0_2 : Int) (a0_3 : Int) (a0_4 : Int) (a0_5 : Int) (a0_6 : Bool) (l0_7 : List Int) (a1_0 : Int) (a1_1 : Int) (a1_2 : Int) (a1_3 : Int) (a1_4 : Int) (a1_5 : Int) (a1_6 : Bool) (l1_7 : List Int) : Option (Bool) := if a0_0 = a1_0 then (if a0_1 = a1_1 then (if a0_2 = a1_2 then (if a0_3 = a1_3 then (if a0_4 = a1_4 then (if a0_5 = a1_5 then (if (a0_6 == a1_6) = true then ((dioramaref00_EqInts.f k l0_7 l1_7).bind fun t219 => (some t219)) else (some false)) else (some false)) else (some false)) else (some false)) else (some false)) else (some false)) else (some false)
theorem dioramalaw09_same.mono:∀ a0 a1 a2 a3 a4 a5 a6 a7 a8 a9 a10 a11 a12 a13 a14 a15 k,LeO (dioramalaw09_same.f k a0 a1 a2 a3 a4 a5 a6 a7 a8 a9 a10 a11 a12 a13 a14 a15) (dioramalaw09_same.f (k+1) a0 a1 a2 a3 a4 a5 a6 a7 a8 a9 a10 a11 a12 a13 a14 a15):=by
 intro a0 a1 a2 a3 a4 a5 a6 a7 a8 a9 a10 a11 a12 a13 a14 a15 k
 unfold dioramalaw09_same.f
 repeat' first
  | (with_reducible exact dioramaref00_EqInts.mono _ _ _)
  | (with_reducible exact LeO.refl _)
  | (with_reducible exact LeO.none _)
  | (with_reducible refine LeO.ite ?_ ?_)
  | (with_reducible refine LeO.bind ?_ (fun _=>?_))
  | exact LeO.none _
  | refine LeO.ite ?_ ?_
  | refine LeO.bind ?_ (fun _=>?_)
set_option maxHeartbeats 8000000 in
set_option maxRecDepth 100000 in
theorem dioramalaw09_same.calls (k:Nat) (a0_0:Int) (a0_1:Int) (a0_2:Int) (a0_3:Int) (a0_4:Int) (a0_5:Int) (a0_6:Bool) (A0_7:Option Addr) (c0_7:Nat) (l0_7:List Int) (a1_0:Int) (a1_1:Int) (a1_2:Int) (a1_3:Int) (a1_4:Int) (a1_5:Int) (a1_6:Bool) (A1_7:Option Addr) (c1_7:Nat) (l1_7:List Int) (r:Bool) (w:World) (hr0_7:Kd.C (Kd.int .i64) w A0_7 l0_7.length l0_7) (hc0_7:l0_7.length≤c0_7) (hr1_7:Kd.C (Kd.int .i64) w A1_7 l1_7.length l1_7) (hc1_7:l1_7.length≤c1_7) (h:dioramalaw09_same.f k a0_0 a0_1 a0_2 a0_3 a0_4 a0_5 a0_6 l0_7 a1_0 a1_1 a1_2 a1_3 a1_4 a1_5 a1_6 l1_7=some r) :
 Calls Try.prog 30 #[.agg #[.int .i64 a0_0,.int .i64 a0_1,.int .i64 a0_2,.int .i64 a0_3,.int .i64 a0_4,.int .i64 a0_5,.bool a0_6,.slice A0_7 l0_7.length c0_7],.agg #[.int .i64 a1_0,.int .i64 a1_1,.int .i64 a1_2,.int .i64 a1_3,.int .i64 a1_4,.int .i64 a1_5,.bool a1_6,.slice A1_7 l1_7.length c1_7]] w fun e w'=>e=.returned (.bool r)∧Below w.heap.size w w':=by
 have hu48:=Try.underlying48
 have hu51:=Try.underlying51
 have HR0_7:=Aside0.mk hr0_7
 have HC0_7:=Aside0.mk hc0_7;clear hr0_7 hc0_7
 have HR1_7:=Aside0.mk hr1_7
 have HC1_7:=Aside0.mk hc1_7;clear hr1_7 hc1_7;have HB:=Aside0.mk (Below.refl w.heap.size w)
 have H:(if a0_0=a1_0 then (if a0_1=a1_1 then (if a0_2=a1_2 then (if a0_3=a1_3 then (if a0_4=a1_4 then (if a0_5=a1_5 then (if (a0_6 == a1_6)=true then ((dioramaref00_EqInts.f k l0_7 l1_7).bind fun t219=>(some t219)) else (some false)) else (some false)) else (some false)) else (some false)) else (some false)) else (some false)) else (some false))=some r:=h;clear h
 by_cases c3:a0_0=a1_0
 · rw [if_pos c3] at H
   have c3b0:(a0_0 == a1_0)=true:=beq_iff_eq.mpr c3
   have c3b1:(a0_0 != a1_0)=false:=bne_eq_false_iff_eq.mpr c3;clear c3
   by_cases c4:a0_1=a1_1
   · rw [if_pos c4] at H
     have c4b0:(a0_1 == a1_1)=true:=beq_iff_eq.mpr c4
     have c4b1:(a0_1 != a1_1)=false:=bne_eq_false_iff_eq.mpr c4;clear c4
     by_cases c5:a0_2=a1_2
     · rw [if_pos c5] at H
       have c5b0:(a0_2 == a1_2)=true:=beq_iff_eq.mpr c5
       have c5b1:(a0_2 != a1_2)=false:=bne_eq_false_iff_eq.mpr c5;clear c5
       by_cases c6:a0_3=a1_3
       · rw [if_pos c6] at H
         have c6b0:(a0_3 == a1_3)=true:=beq_iff_eq.mpr c6
         have c6b1:(a0_3 != a1_3)=false:=bne_eq_false_iff_eq.mpr c6;clear c6
         by_cases c7:a0_4=a1_4
         · rw [if_pos c7] at H
           have c7b0:(a0_4 == a1_4)=true:=beq_iff_eq.mpr c7
           have c7b1:(a0_4 != a1_4)=false:=bne_eq_false_iff_eq.mpr c7;clear c7
           by_cases c8:a0_5=a1_5
           · rw [if_pos c8] at H
             have c8b0:(a0_5 == a1_5)=true:=beq_iff_eq.mpr c8
             have c8b1:(a0_5 != a1_5)=false:=bne_eq_false_iff_eq.mpr c8;clear c8
             by_cases c9:(a0_6 == a1_6)=true
             · rw [if_pos c9] at H
               have c9b0:(a0_6 == a1_6)=true:=c9
               (try (have c9b1:decide (a0_6=a1_6)=true:=by simpa using c9))
               (try (have c9b2:(a0_6 == a1_6)=true:=by simpa using c9))
               clear c9
               replace H:=Option.bind_eq_some_iff.mp H
               obtain ⟨t219,A100,H⟩:=H
               replace H:(some t219)=some r:=H
               have A10:=Aside0.mk A100;clear A100
               obtain rfl:=Option.some.inj H
               go_enter Try.func30,Try.ntmps30
               go_wp2_with (first|((with_reducible refine gate_dst (N:=2) rfl ?_);refine box_event ?hg (N:=2) ?hd (cs:=#[.int .i64 a0_0,.int .i64 a0_1,.int .i64 a0_2,.int .i64 a0_3,.int .i64 a0_4,.int .i64 a0_5,.bool a0_6,.slice A0_7 l0_7.length c0_7]) (t:=48) ?hr ?_;(case hd=>rfl);(case hg=>rfl);(case hr=>first|(go_simp;done)|(go_simp;rfl));intro gb217 hg w11 hbox hb;have n0_:=Aside0.mk (below_step (belV HB.out) hb);have n1_:=Aside0.mk (hbox);have n2_:=Aside0.mk ((by rw [hg];exact (below_size (belV HB.out)):w.heap.size≤gb217));have n3_:=Aside0.mk ((by rw [hg];exact (below_size (belV HB.out)):w.heap.size≤gb217));clear HB;have HB:=n0_;have BK217:=n1_;have GW217:=n2_;have GE217:=n3_;clear n0_ n1_ n2_ n3_;clear hb hbox hg)|((with_reducible refine gate_dst (N:=3) rfl ?_);refine box_event ?hg (N:=3) ?hd (cs:=#[.int .i64 a1_0,.int .i64 a1_1,.int .i64 a1_2,.int .i64 a1_3,.int .i64 a1_4,.int .i64 a1_5,.bool a1_6,.slice A1_7 l1_7.length c1_7]) (t:=51) ?hr ?_;(case hd=>rfl);(case hg=>rfl);(case hr=>first|(go_simp;done)|(go_simp;rfl));intro gb218 hg w12 hbox hb;have n0_:=Aside0.mk (blk_below (g:=gb217) (blkV BK217.out) hb);have n1_:=Aside0.mk (below_step (belV1 HB.out GE217.out) hb);have n2_:=Aside0.mk (hbox);have n3_:=Aside0.mk ((by rw [hg];exact (below_size (belV1 HB.out GE217.out)):w.heap.size≤gb218));have n4_:=Aside0.mk ((by rw [hg];exact (below_size (belV1 HB.out GE217.out)):w.heap.size≤gb218));have n5_:=Aside0.mk ((by rw [hg];exact Nat.ne_of_lt (blk_lt (g:=gb217) (blkV BK217.out)):gb217≠gb218));have n6_:=Aside0.mk ((by rw [hg];exact Nat.ne_of_gt (blk_lt (g:=gb217) (blkV BK217.out)):gb218≠gb217));clear BK217;clear HB;have BK217:=n0_;have HB:=n1_;have BK218:=n2_;have GW218:=n3_;have GE218:=n4_;have NB217_218:=n5_;have NB218_217:=n6_;clear n0_ n1_ n2_ n3_ n4_ n5_ n6_;clear hb hbox hg;have hnb13:=NB217_218.out;have hnc13:=NB218_217.out;obtain ⟨hcz14_0,hcz14_1,hcz14_2,hcz14_3,hcz14_4,hcz14_5,hcz14_6,hcz14_7,hfz14_0,hfz14_1,hfz14_2,hfz14_3,hfz14_4,hfz14_5,hfz14_6,hfz14_7⟩:=bcells8 BK217.out;obtain ⟨hcz15_0,hcz15_1,hcz15_2,hcz15_3,hcz15_4,hcz15_5,hcz15_6,hcz15_7,hfz15_0,hfz15_1,hfz15_2,hfz15_3,hfz15_4,hfz15_5,hfz15_6,hfz15_7⟩:=bcells8 BK218.out)|(go_at_call 23;(with_reducible refine (dioramaref00_EqInts.calls k _ _ l0_7 _ _ l1_7 t219 _ ?side1 ?side2 ?side3 ?side4 A10.out).mono ?_);(case side1=>exact cV (Kd.C_below HR0_7.out HB.out));(case side2=>exact HC0_7.out);(case side3=>exact cV (Kd.C_below HR1_7.out HB.out));(case side4=>exact HC1_7.out);rintro e w' ⟨rfl,⟨nd,rfl⟩⟩))
               go_ret
               exact ⟨by first|rfl|(simp [errW_none,errW_some] <;> rfl)|(simp [*,errW_none,errW_some] <;> rfl),by repeat (first|(with_reducible first|exact HB.out|apply below_alloc|apply pw_below_drewN|apply below_drew1|refine below_set ?_ GE217.out|refine below_set ?_ GE218.out)|exact HB.out)⟩
             rw [if_neg c9] at H
             have c9b0:(a0_6 == a1_6)=false:=by simpa using c9
             (try (have c9b1:decide (a0_6=a1_6)=false:=by simpa using c9))
             (try (have c9b2:(a0_6 == a1_6)=false:=by simpa using c9))
             (try (have c9b3:¬ (a0_6=a1_6):=by simpa using c9))
             clear c9
             obtain rfl:=Option.some.inj H
             go_enter Try.func30,Try.ntmps30
             go_wp2_with (first|((with_reducible refine gate_dst (N:=2) rfl ?_);refine box_event ?hg (N:=2) ?hd (cs:=#[.int .i64 a0_0,.int .i64 a0_1,.int .i64 a0_2,.int .i64 a0_3,.int .i64 a0_4,.int .i64 a0_5,.bool a0_6,.slice A0_7 l0_7.length c0_7]) (t:=48) ?hr ?_;(case hd=>rfl);(case hg=>rfl);(case hr=>first|(go_simp;done)|(go_simp;rfl));intro gb217 hg w16 hbox hb;have n0_:=Aside0.mk (below_step (belV HB.out) hb);have n1_:=Aside0.mk (hbox);have n2_:=Aside0.mk ((by rw [hg];exact (below_size (belV HB.out)):w.heap.size≤gb217));have n3_:=Aside0.mk ((by rw [hg];exact (below_size (belV HB.out)):w.heap.size≤gb217));clear HB;have HB:=n0_;have BK217:=n1_;have GW217:=n2_;have GE217:=n3_;clear n0_ n1_ n2_ n3_;clear hb hbox hg)|((with_reducible refine gate_dst (N:=3) rfl ?_);refine box_event ?hg (N:=3) ?hd (cs:=#[.int .i64 a1_0,.int .i64 a1_1,.int .i64 a1_2,.int .i64 a1_3,.int .i64 a1_4,.int .i64 a1_5,.bool a1_6,.slice A1_7 l1_7.length c1_7]) (t:=51) ?hr ?_;(case hd=>rfl);(case hg=>rfl);(case hr=>first|(go_simp;done)|(go_simp;rfl));intro gb218 hg w17 hbox hb;have n0_:=Aside0.mk (blk_below (g:=gb217) (blkV BK217.out) hb);have n1_:=Aside0.mk (below_step (belV1 HB.out GE217.out) hb);have n2_:=Aside0.mk (hbox);have n3_:=Aside0.mk ((by rw [hg];exact (below_size (belV1 HB.out GE217.out)):w.heap.size≤gb218));have n4_:=Aside0.mk ((by rw [hg];exact (below_size (belV1 HB.out GE217.out)):w.heap.size≤gb218));have n5_:=Aside0.mk ((by rw [hg];exact Nat.ne_of_lt (blk_lt (g:=gb217) (blkV BK217.out)):gb217≠gb218));have n6_:=Aside0.mk ((by rw [hg];exact Nat.ne_of_gt (blk_lt (g:=gb217) (blkV BK217.out)):gb218≠gb217));clear BK217;clear HB;have BK217:=n0_;have HB:=n1_;have BK218:=n2_;have GW218:=n3_;have GE218:=n4_;have NB217_218:=n5_;have NB218_217:=n6_;clear n0_ n1_ n2_ n3_ n4_ n5_ n6_;clear hb hbox hg;have hnb18:=NB217_218.out;have hnc18:=NB218_217.out;obtain ⟨hcz19_0,hcz19_1,hcz19_2,hcz19_3,hcz19_4,hcz19_5,hcz19_6,hcz19_7,hfz19_0,hfz19_1,hfz19_2,hfz19_3,hfz19_4,hfz19_5,hfz19_6,hfz19_7⟩:=bcells8 BK217.out;obtain ⟨hcz20_0,hcz20_1,hcz20_2,hcz20_3,hcz20_4,hcz20_5,hcz20_6,hcz20_7,hfz20_0,hfz20_1,hfz20_2,hfz20_3,hfz20_4,hfz20_5,hfz20_6,hfz20_7⟩:=bcells8 BK218.out))
             go_ret
             exact ⟨by first|rfl|(simp [errW_none,errW_some] <;> rfl)|(simp [*,errW_none,errW_some] <;> rfl),by repeat (first|(with_reducible first|exact HB.out|apply below_alloc|apply pw_below_drewN|apply below_drew1|refine below_set ?_ GE217.out|refine below_set ?_ GE218.out)|exact HB.out)⟩
           rw [if_neg c8] at H
           have c8b0:(a0_5 == a1_5)=false:=beq_eq_false_iff_ne.mpr c8
           have c8b1:(a0_5 != a1_5)=true:=bne_iff_ne.mpr c8
           obtain rfl:=Option.some.inj H
           go_enter Try.func30,Try.ntmps30
           go_wp2_with (first|((with_reducible refine gate_dst (N:=2) rfl ?_);refine box_event ?hg (N:=2) ?hd (cs:=#[.int .i64 a0_0,.int .i64 a0_1,.int .i64 a0_2,.int .i64 a0_3,.int .i64 a0_4,.int .i64 a0_5,.bool a0_6,.slice A0_7 l0_7.length c0_7]) (t:=48) ?hr ?_;(case hd=>rfl);(case hg=>rfl);(case hr=>first|(go_simp;done)|(go_simp;rfl));intro gb217 hg w21 hbox hb;have n0_:=Aside0.mk (below_step (belV HB.out) hb);have n1_:=Aside0.mk (hbox);have n2_:=Aside0.mk ((by rw [hg];exact (below_size (belV HB.out)):w.heap.size≤gb217));have n3_:=Aside0.mk ((by rw [hg];exact (below_size (belV HB.out)):w.heap.size≤gb217));clear HB;have HB:=n0_;have BK217:=n1_;have GW217:=n2_;have GE217:=n3_;clear n0_ n1_ n2_ n3_;clear hb hbox hg)|((with_reducible refine gate_dst (N:=3) rfl ?_);refine box_event ?hg (N:=3) ?hd (cs:=#[.int .i64 a1_0,.int .i64 a1_1,.int .i64 a1_2,.int .i64 a1_3,.int .i64 a1_4,.int .i64 a1_5,.bool a1_6,.slice A1_7 l1_7.length c1_7]) (t:=51) ?hr ?_;(case hd=>rfl);(case hg=>rfl);(case hr=>first|(go_simp;done)|(go_simp;rfl));intro gb218 hg w22 hbox hb;have n0_:=Aside0.mk (blk_below (g:=gb217) (blkV BK217.out) hb);have n1_:=Aside0.mk (below_step (belV1 HB.out GE217.out) hb);have n2_:=Aside0.mk (hbox);have n3_:=Aside0.mk ((by rw [hg];exact (below_size (belV1 HB.out GE217.out)):w.heap.size≤gb218));have n4_:=Aside0.mk ((by rw [hg];exact (below_size (belV1 HB.out GE217.out)):w.heap.size≤gb218));have n5_:=Aside0.mk ((by rw [hg];exact Nat.ne_of_lt (blk_lt (g:=gb217) (blkV BK217.out)):gb217≠gb218));have n6_:=Aside0.mk ((by rw [hg];exact Nat.ne_of_gt (blk_lt (g:=gb217) (blkV BK217.out)):gb218≠gb217));clear BK217;clear HB;have BK217:=n0_;have HB:=n1_;have BK218:=n2_;have GW218:=n3_;have GE218:=n4_;have NB217_218:=n5_;have NB218_217:=n6_;clear n0_ n1_ n2_ n3_ n4_ n5_ n6_;clear hb hbox hg;have hnb23:=NB217_218.out;have hnc23:=NB218_217.out;obtain ⟨hcz24_0,hcz24_1,hcz24_2,hcz24_3,hcz24_4,hcz24_5,hcz24_6,hcz24_7,hfz24_0,hfz24_1,hfz24_2,hfz24_3,hfz24_4,hfz24_5,hfz24_6,hfz24_7⟩:=bcells8 BK217.out;obtain ⟨hcz25_0,hcz25_1,hcz25_2,hcz25_3,hcz25_4,hcz25_5,hcz25_6,hcz25_7,hfz25_0,hfz25_1,hfz25_2,hfz25_3,hfz25_4,hfz25_5,hfz25_6,hfz25_7⟩:=bcells8 BK218.out))
           go_ret
           exact ⟨by first|rfl|(simp [errW_none,errW_some] <;> rfl)|(simp [*,errW_none,errW_some] <;> rfl),by repeat (first|(with_reducible first|exact HB.out|apply below_alloc|apply pw_below_drewN|apply below_drew1|refine below_set ?_ GE217.out|refine below_set ?_ GE218.out)|exact HB.out)⟩
         rw [if_neg c7] at H
         have c7b0:(a0_4 == a1_4)=false:=beq_eq_false_iff_ne.mpr c7
         have c7b1:(a0_4 != a1_4)=true:=bne_iff_ne.mpr c7
         obtain rfl:=Option.some.inj H
         go_enter Try.func30,Try.ntmps30
         go_wp2_with (first|((with_reducible refine gate_dst (N:=2) rfl ?_);refine box_event ?hg (N:=2) ?hd (cs:=#[.int .i64 a0_0,.int .i64 a0_1,.int .i64 a0_2,.int .i64 a0_3,.int .i64 a0_4,.int .i64 a0_5,.bool a0_6,.slice A0_7 l0_7.length c0_7]) (t:=48) ?hr ?_;(case hd=>rfl);(case hg=>rfl);(case hr=>first|(go_simp;done)|(go_simp;rfl));intro gb217 hg w26 hbox hb;have n0_:=Aside0.mk (below_step (belV HB.out) hb);have n1_:=Aside0.mk (hbox);have n2_:=Aside0.mk ((by rw [hg];exact (below_size (belV HB.out)):w.heap.size≤gb217));have n3_:=Aside0.mk ((by rw [hg];exact (below_size (belV HB.out)):w.heap.size≤gb217));clear HB;have HB:=n0_;have BK217:=n1_;have GW217:=n2_;have GE217:=n3_;clear n0_ n1_ n2_ n3_;clear hb hbox hg)|((with_reducible refine gate_dst (N:=3) rfl ?_);refine box_event ?hg (N:=3) ?hd (cs:=#[.int .i64 a1_0,.int .i64 a1_1,.int .i64 a1_2,.int .i64 a1_3,.int .i64 a1_4,.int .i64 a1_5,.bool a1_6,.slice A1_7 l1_7.length c1_7]) (t:=51) ?hr ?_;(case hd=>rfl);(case hg=>rfl);(case hr=>first|(go_simp;done)|(go_simp;rfl));intro gb218 hg w27 hbox hb;have n0_:=Aside0.mk (blk_below (g:=gb217) (blkV BK217.out) hb);have n1_:=Aside0.mk (below_step (belV1 HB.out GE217.out) hb);have n2_:=Aside0.mk (hbox);have n3_:=Aside0.mk ((by rw [hg];exact (below_size (belV1 HB.out GE217.out)):w.heap.size≤gb218));have n4_:=Aside0.mk ((by rw [hg];exact (below_size (belV1 HB.out GE217.out)):w.heap.size≤gb218));have n5_:=Aside0.mk ((by rw [hg];exact Nat.ne_of_lt (blk_lt (g:=gb217) (blkV BK217.out)):gb217≠gb218));have n6_:=Aside0.mk ((by rw [hg];exact Nat.ne_of_gt (blk_lt (g:=gb217) (blkV BK217.out)):gb218≠gb217));clear BK217;clear HB;have BK217:=n0_;have HB:=n1_;have BK218:=n2_;have GW218:=n3_;have GE218:=n4_;have NB217_218:=n5_;have NB218_217:=n6_;clear n0_ n1_ n2_ n3_ n4_ n5_ n6_;clear hb hbox hg;have hnb28:=NB217_218.out;have hnc28:=NB218_217.out;obtain ⟨hcz29_0,hcz29_1,hcz29_2,hcz29_3,hcz29_4,hcz29_5,hcz29_6,hcz29_7,hfz29_0,hfz29_1,hfz29_2,hfz29_3,hfz29_4,hfz29_5,hfz29_6,hfz29_7⟩:=bcells8 BK217.out;obtain ⟨hcz30_0,hcz30_1,hcz30_2,hcz30_3,hcz30_4,hcz30_5,hcz30_6,hcz30_7,hfz30_0,hfz30_1,hfz30_2,hfz30_3,hfz30_4,hfz30_5,hfz30_6,hfz30_7⟩:=bcells8 BK218.out))
         go_ret
         exact ⟨by first|rfl|(simp [errW_none,errW_some] <;> rfl)|(simp [*,errW_none,errW_some] <;> rfl),by repeat (first|(with_reducible first|exact HB.out|apply below_alloc|apply pw_below_drewN|apply below_drew1|refine below_set ?_ GE217.out|refine below_set ?_ GE218.out)|exact HB.out)⟩
       rw [if_neg c6] at H
       have c6b0:(a0_3 == a1_3)=false:=beq_eq_false_iff_ne.mpr c6
       have c6b1:(a0_3 != a1_3)=true:=bne_iff_ne.mpr c6
       obtain rfl:=Option.some.inj H
       go_enter Try.func30,Try.ntmps30
       go_wp2_with (first|((with_reducible refine gate_dst (N:=2) rfl ?_);refine box_event ?hg (N:=2) ?hd (cs:=#[.int .i64 a0_0,.int .i64 a0_1,.int .i64 a0_2,.int .i64 a0_3,.int .i64 a0_4,.int .i64 a0_5,.bool a0_6,.slice A0_7 l0_7.length c0_7]) (t:=48) ?hr ?_;(case hd=>rfl);(case hg=>rfl);(case hr=>first|(go_simp;done)|(go_simp;rfl));intro gb217 hg w31 hbox hb;have n0_:=Aside0.mk (below_step (belV HB.out) hb);have n1_:=Aside0.mk (hbox);have n2_:=Aside0.mk ((by rw [hg];exact (below_size (belV HB.out)):w.heap.size≤gb217));have n3_:=Aside0.mk ((by rw [hg];exact (below_size (belV HB.out)):w.heap.size≤gb217));clear HB;have HB:=n0_;have BK217:=n1_;have GW217:=n2_;have GE217:=n3_;clear n0_ n1_ n2_ n3_;clear hb hbox hg)|((with_reducible refine gate_dst (N:=3) rfl ?_);refine box_event ?hg (N:=3) ?hd (cs:=#[.int .i64 a1_0,.int .i64 a1_1,.int .i64 a1_2,.int .i64 a1_3,.int .i64 a1_4,.int .i64 a1_5,.bool a1_6,.slice A1_7 l1_7.length c1_7]) (t:=51) ?hr ?_;(case hd=>rfl);(case hg=>rfl);(case hr=>first|(go_simp;done)|(go_simp;rfl));intro gb218 hg w32 hbox hb;have n0_:=Aside0.mk (blk_below (g:=gb217) (blkV BK217.out) hb);have n1_:=Aside0.mk (below_step (belV1 HB.out GE217.out) hb);have n2_:=Aside0.mk (hbox);have n3_:=Aside0.mk ((by rw [hg];exact (below_size (belV1 HB.out GE217.out)):w.heap.size≤gb218));have n4_:=Aside0.mk ((by rw [hg];exact (below_size (belV1 HB.out GE217.out)):w.heap.size≤gb218));have n5_:=Aside0.mk ((by rw [hg];exact Nat.ne_of_lt (blk_lt (g:=gb217) (blkV BK217.out)):gb217≠gb218));have n6_:=Aside0.mk ((by rw [hg];exact Nat.ne_of_gt (blk_lt (g:=gb217) (blkV BK217.out)):gb218≠gb217));clear BK217;clear HB;have BK217:=n0_;have HB:=n1_;have BK218:=n2_;have GW218:=n3_;have GE218:=n4_;have NB217_218:=n5_;have NB218_217:=n6_;clear n0_ n1_ n2_ n3_ n4_ n5_ n6_;clear hb hbox hg;have hnb33:=NB217_218.out;have hnc33:=NB218_217.out;obtain ⟨hcz34_0,hcz34_1,hcz34_2,hcz34_3,hcz34_4,hcz34_5,hcz34_6,hcz34_7,hfz34_0,hfz34_1,hfz34_2,hfz34_3,hfz34_4,hfz34_5,hfz34_6,hfz34_7⟩:=bcells8 BK217.out;obtain ⟨hcz35_0,hcz35_1,hcz35_2,hcz35_3,hcz35_4,hcz35_5,hcz35_6,hcz35_7,hfz35_0,hfz35_1,hfz35_2,hfz35_3,hfz35_4,hfz35_5,hfz35_6,hfz35_7⟩:=bcells8 BK218.out))
       go_ret
       exact ⟨by first|rfl|(simp [errW_none,errW_some] <;> rfl)|(simp [*,errW_none,errW_some] <;> rfl),by repeat (first|(with_reducible first|exact HB.out|apply below_alloc|apply pw_below_drewN|apply below_drew1|refine below_set ?_ GE217.out|refine below_set ?_ GE218.out)|exact HB.out)⟩
     rw [if_neg c5] at H
     have c5b0:(a0_2 == a1_2)=false:=beq_eq_false_iff_ne.mpr c5
     have c5b1:(a0_2 != a1_2)=true:=bne_iff_ne.mpr c5
     obtain rfl:=Option.some.inj H
     go_enter Try.func30,Try.ntmps30
     go_wp2_with (first|((with_reducible refine gate_dst (N:=2) rfl ?_);refine box_event ?hg (N:=2) ?hd (cs:=#[.int .i64 a0_0,.int .i64 a0_1,.int .i64 a0_2,.int .i64 a0_3,.int .i64 a0_4,.int .i64 a0_5,.bool a0_6,.slice A0_7 l0_7.length c0_7]) (t:=48) ?hr ?_;(case hd=>rfl);(case hg=>rfl);(case hr=>first|(go_simp;done)|(go_simp;rfl));intro gb217 hg w36 hbox hb;have n0_:=Aside0.mk (below_step (belV HB.out) hb);have n1_:=Aside0.mk (hbox);have n2_:=Aside0.mk ((by rw [hg];exact (below_size (belV HB.out)):w.heap.size≤gb217));have n3_:=Aside0.mk ((by rw [hg];exact (below_size (belV HB.out)):w.heap.size≤gb217));clear HB;have HB:=n0_;have BK217:=n1_;have GW217:=n2_;have GE217:=n3_;clear n0_ n1_ n2_ n3_;clear hb hbox hg)|((with_reducible refine gate_dst (N:=3) rfl ?_);refine box_event ?hg (N:=3) ?hd (cs:=#[.int .i64 a1_0,.int .i64 a1_1,.int .i64 a1_2,.int .i64 a1_3,.int .i64 a1_4,.int .i64 a1_5,.bool a1_6,.slice A1_7 l1_7.length c1_7]) (t:=51) ?hr ?_;(case hd=>rfl);(case hg=>rfl);(case hr=>first|(go_simp;done)|(go_simp;rfl));intro gb218 hg w37 hbox hb;have n0_:=Aside0.mk (blk_below (g:=gb217) (blkV BK217.out) hb);have n1_:=Aside0.mk (below_step (belV1 HB.out GE217.out) hb);have n2_:=Aside0.mk (hbox);have n3_:=Aside0.mk ((by rw [hg];exact (below_size (belV1 HB.out GE217.out)):w.heap.size≤gb218));have n4_:=Aside0.mk ((by rw [hg];exact (below_size (belV1 HB.out GE217.out)):w.heap.size≤gb218));have n5_:=Aside0.mk ((by rw [hg];exact Nat.ne_of_lt (blk_lt (g:=gb217) (blkV BK217.out)):gb217≠gb218));have n6_:=Aside0.mk ((by rw [hg];exact Nat.ne_of_gt (blk_lt (g:=gb217) (blkV BK217.out)):gb218≠gb217));clear BK217;clear HB;have BK217:=n0_;have HB:=n1_;have BK218:=n2_;have GW218:=n3_;have GE218:=n4_;have NB217_218:=n5_;have NB218_217:=n6_;clear n0_ n1_ n2_ n3_ n4_ n5_ n6_;clear hb hbox hg;have hnb38:=NB217_218.out;have hnc38:=NB218_217.out;obtain ⟨hcz39_0,hcz39_1,hcz39_2,hcz39_3,hcz39_4,hcz39_5,hcz39_6,hcz39_7,hfz39_0,hfz39_1,hfz39_2,hfz39_3,hfz39_4,hfz39_5,hfz39_6,hfz39_7⟩:=bcells8 BK217.out;obtain ⟨hcz40_0,hcz40_1,hcz40_2,hcz40_3,hcz40_4,hcz40_5,hcz40_6,hcz40_7,hfz40_0,hfz40_1,hfz40_2,hfz40_3,hfz40_4,hfz40_5,hfz40_6,hfz40_7⟩:=bcells8 BK218.out))
     go_ret
     exact ⟨by first|rfl|(simp [errW_none,errW_some] <;> rfl)|(simp [*,errW_none,errW_some] <;> rfl),by repeat (first|(with_reducible first|exact HB.out|apply below_alloc|apply pw_below_drewN|apply below_drew1|refine below_set ?_ GE217.out|refine below_set ?_ GE218.out)|exact HB.out)⟩
   rw [if_neg c4] at H
   have c4b0:(a0_1 == a1_1)=false:=beq_eq_false_iff_ne.mpr c4
   have c4b1:(a0_1 != a1_1)=true:=bne_iff_ne.mpr c4
   obtain rfl:=Option.some.inj H
   go_enter Try.func30,Try.ntmps30
   go_wp2_with (first|((with_reducible refine gate_dst (N:=2) rfl ?_);refine box_event ?hg (N:=2) ?hd (cs:=#[.int .i64 a0_0,.int .i64 a0_1,.int .i64 a0_2,.int .i64 a0_3,.int .i64 a0_4,.int .i64 a0_5,.bool a0_6,.slice A0_7 l0_7.length c0_7]) (t:=48) ?hr ?_;(case hd=>rfl);(case hg=>rfl);(case hr=>first|(go_simp;done)|(go_simp;rfl));intro gb217 hg w41 hbox hb;have n0_:=Aside0.mk (below_step (belV HB.out) hb);have n1_:=Aside0.mk (hbox);have n2_:=Aside0.mk ((by rw [hg];exact (below_size (belV HB.out)):w.heap.size≤gb217));have n3_:=Aside0.mk ((by rw [hg];exact (below_size (belV HB.out)):w.heap.size≤gb217));clear HB;have HB:=n0_;have BK217:=n1_;have GW217:=n2_;have GE217:=n3_;clear n0_ n1_ n2_ n3_;clear hb hbox hg)|((with_reducible refine gate_dst (N:=3) rfl ?_);refine box_event ?hg (N:=3) ?hd (cs:=#[.int .i64 a1_0,.int .i64 a1_1,.int .i64 a1_2,.int .i64 a1_3,.int .i64 a1_4,.int .i64 a1_5,.bool a1_6,.slice A1_7 l1_7.length c1_7]) (t:=51) ?hr ?_;(case hd=>rfl);(case hg=>rfl);(case hr=>first|(go_simp;done)|(go_simp;rfl));intro gb218 hg w42 hbox hb;have n0_:=Aside0.mk (blk_below (g:=gb217) (blkV BK217.out) hb);have n1_:=Aside0.mk (below_step (belV1 HB.out GE217.out) hb);have n2_:=Aside0.mk (hbox);have n3_:=Aside0.mk ((by rw [hg];exact (below_size (belV1 HB.out GE217.out)):w.heap.size≤gb218));have n4_:=Aside0.mk ((by rw [hg];exact (below_size (belV1 HB.out GE217.out)):w.heap.size≤gb218));have n5_:=Aside0.mk ((by rw [hg];exact Nat.ne_of_lt (blk_lt (g:=gb217) (blkV BK217.out)):gb217≠gb218));have n6_:=Aside0.mk ((by rw [hg];exact Nat.ne_of_gt (blk_lt (g:=gb217) (blkV BK217.out)):gb218≠gb217));clear BK217;clear HB;have BK217:=n0_;have HB:=n1_;have BK218:=n2_;have GW218:=n3_;have GE218:=n4_;have NB217_218:=n5_;have NB218_217:=n6_;clear n0_ n1_ n2_ n3_ n4_ n5_ n6_;clear hb hbox hg;have hnb43:=NB217_218.out;have hnc43:=NB218_217.out;obtain ⟨hcz44_0,hcz44_1,hcz44_2,hcz44_3,hcz44_4,hcz44_5,hcz44_6,hcz44_7,hfz44_0,hfz44_1,hfz44_2,hfz44_3,hfz44_4,hfz44_5,hfz44_6,hfz44_7⟩:=bcells8 BK217.out;obtain ⟨hcz45_0,hcz45_1,hcz45_2,hcz45_3,hcz45_4,hcz45_5,hcz45_6,hcz45_7,hfz45_0,hfz45_1,hfz45_2,hfz45_3,hfz45_4,hfz45_5,hfz45_6,hfz45_7⟩:=bcells8 BK218.out))
   go_ret
   exact ⟨by first|rfl|(simp [errW_none,errW_some] <;> rfl)|(simp [*,errW_none,errW_some] <;> rfl),by repeat (first|(with_reducible first|exact HB.out|apply below_alloc|apply pw_below_drewN|apply below_drew1|refine below_set ?_ GE217.out|refine below_set ?_ GE218.out)|exact HB.out)⟩
 rw [if_neg c3] at H
 have c3b0:(a0_0 == a1_0)=false:=beq_eq_false_iff_ne.mpr c3
 have c3b1:(a0_0 != a1_0)=true:=bne_iff_ne.mpr c3
 obtain rfl:=Option.some.inj H
 go_enter Try.func30,Try.ntmps30
 go_wp2_with (first|((with_reducible refine gate_dst (N:=2) rfl ?_);refine box_event ?hg (N:=2) ?hd (cs:=#[.int .i64 a0_0,.int .i64 a0_1,.int .i64 a0_2,.int .i64 a0_3,.int .i64 a0_4,.int .i64 a0_5,.bool a0_6,.slice A0_7 l0_7.length c0_7]) (t:=48) ?hr ?_;(case hd=>rfl);(case hg=>rfl);(case hr=>first|(go_simp;done)|(go_simp;rfl));intro gb217 hg w46 hbox hb;have n0_:=Aside0.mk (below_step (belV HB.out) hb);have n1_:=Aside0.mk (hbox);have n2_:=Aside0.mk ((by rw [hg];exact (below_size (belV HB.out)):w.heap.size≤gb217));have n3_:=Aside0.mk ((by rw [hg];exact (below_size (belV HB.out)):w.heap.size≤gb217));clear HB;have HB:=n0_;have BK217:=n1_;have GW217:=n2_;have GE217:=n3_;clear n0_ n1_ n2_ n3_;clear hb hbox hg)|((with_reducible refine gate_dst (N:=3) rfl ?_);refine box_event ?hg (N:=3) ?hd (cs:=#[.int .i64 a1_0,.int .i64 a1_1,.int .i64 a1_2,.int .i64 a1_3,.int .i64 a1_4,.int .i64 a1_5,.bool a1_6,.slice A1_7 l1_7.length c1_7]) (t:=51) ?hr ?_;(case hd=>rfl);(case hg=>rfl);(case hr=>first|(go_simp;done)|(go_simp;rfl));intro gb218 hg w47 hbox hb;have n0_:=Aside0.mk (blk_below (g:=gb217) (blkV BK217.out) hb);have n1_:=Aside0.mk (below_step (belV1 HB.out GE217.out) hb);have n2_:=Aside0.mk (hbox);have n3_:=Aside0.mk ((by rw [hg];exact (below_size (belV1 HB.out GE217.out)):w.heap.size≤gb218));have n4_:=Aside0.mk ((by rw [hg];exact (below_size (belV1 HB.out GE217.out)):w.heap.size≤gb218));have n5_:=Aside0.mk ((by rw [hg];exact Nat.ne_of_lt (blk_lt (g:=gb217) (blkV BK217.out)):gb217≠gb218));have n6_:=Aside0.mk ((by rw [hg];exact Nat.ne_of_gt (blk_lt (g:=gb217) (blkV BK217.out)):gb218≠gb217));clear BK217;clear HB;have BK217:=n0_;have HB:=n1_;have BK218:=n2_;have GW218:=n3_;have GE218:=n4_;have NB217_218:=n5_;have NB218_217:=n6_;clear n0_ n1_ n2_ n3_ n4_ n5_ n6_;clear hb hbox hg;have hnb48:=NB217_218.out;have hnc48:=NB218_217.out;obtain ⟨hcz49_0,hcz49_1,hcz49_2,hcz49_3,hcz49_4,hcz49_5,hcz49_6,hcz49_7,hfz49_0,hfz49_1,hfz49_2,hfz49_3,hfz49_4,hfz49_5,hfz49_6,hfz49_7⟩:=bcells8 BK217.out;obtain ⟨hcz50_0,hcz50_1,hcz50_2,hcz50_3,hcz50_4,hcz50_5,hcz50_6,hcz50_7,hfz50_0,hfz50_1,hfz50_2,hfz50_3,hfz50_4,hfz50_5,hfz50_6,hfz50_7⟩:=bcells8 BK218.out))
 go_ret
 exact ⟨by first|rfl|(simp [errW_none,errW_some] <;> rfl)|(simp [*,errW_none,errW_some] <;> rfl),by repeat (first|(with_reducible first|exact HB.out|apply below_alloc|apply pw_below_drewN|apply below_drew1|refine below_set ?_ GE217.out|refine below_set ?_ GE218.out)|exact HB.out)⟩

end Go.Proofs.Ytmbhafgnmdfjhaa.QTab
