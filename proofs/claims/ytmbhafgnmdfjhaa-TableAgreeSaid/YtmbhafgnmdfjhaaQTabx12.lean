/- Part of a proof: functions of the program as Lean functions, and that the machine's calls come to them. Made by a program of this session (wip/mp). -/
import Derived.Test.YtmbhafgnmdfjhaaQTabx0
import Derived.Test.YtmbhafgnmdfjhaaQTabx9
import Derived.Test.YtmbhafgnmdfjhaaQTabx11
namespace Go.Proofs.Ytmbhafgnmdfjhaa.QTab
open Go.RowKit Go.Proofs.YtmbhafgnmdfjhaaV Go.Proofs.YtmbhafgnmdfjhaaW.PrintWords Go.Proofs.YtmbhafgnmdfjhaaW.PrintLast Go.Proofs.YtmbhafgnmdfjhaaW.PrintMore
attribute [local go_sem] max2_int min2_int max_two min_two max_three min_three max_four min_four   -- for this text's walks alone
set_option linter.unusedVariables false
set_option linter.unusedSimpArgs false

/-! ### dioramaref09_times: function 51 -/
mutual
def dioramaref09_times.l0 : Nat → Int → List Int → Int → Int → List (S83) → List (S83) → List Int → Bool → Int → List Int → List (S86) → List Int → List (S83) → List (List Int) → Option (Int)
 | 0,_,_,_,_,_,_,_,_,_,_,_,_,_,_=>none
 | k+1,x1,x5,x6,x149000,x149001,x149002,x149003,x149004,x149005,x149006,x149007,x149008,x149009,x149010=>if (wrap64 (x6+1)) < x1 then (if 0≤x6 then (if x6 < (x5.length:Int) then (if (rd x5 x6)=0 then (some 31) else (dioramaref09_times.l0 k x1 x5 (wrap64 (x6+1)) x149000 x149001 x149002 x149003 x149004 x149005 x149006 x149007 x149008 x149009 x149010)) else (none)) else (none)) else (if 0≤x1 then (if (x1:Int).toNat≤35184372088832 then ((dioramaref09_or.f k x149002 (List.replicate (x1:Int).toNat 0)).bind fun t156=>(dioramaref09_times.l1 k x1 x5 t156 x149000 0)) else (none)) else (none))
def dioramaref09_times.l1 : Nat → Int → List Int → List Int → Int → Int → Option (Int)
 | 0,_,_,_,_,_=>none
 | k+1,x1,x5,x7,x8,x9=>if x9 < x1 then ((dioramaref09_in.f x8 (-1099511627776) 1099511627776).bind fun t159=>(if t159=true then (if 0≤x9 then (if x9 < (x7.length:Int) then ((dioramaref09_in.f (wrap64 (x8+(rd x7 x9))) (-1099511627776) 1099511627776).bind fun t161=>(if t161=true then (if x9 < (x5.length:Int) then (dioramaref09_times.l1 k x1 x5 x7 (wrap64 (x8+(rd x5 x9))) (wrap64 (x9+1))) else (none)) else (some 1))) else (none)) else (none)) else (some 1))) else (some 0)
end
def dioramaref09_times.f (k : Nat) (a0_0 : Int) (l0_1 : List (S83)) (l0_2 : List (S83)) (l0_3 : List Int) (a0_4 : Bool) (a0_5 : Int) (l0_6 : List Int) (l0_7 : List (S86)) (l0_8 : List Int) (l0_9 : List (S83)) (l0_10 : List (List Int)) (a1 : Int) : Option (Int) := (dioramaref09_values.f k l0_1).bind fun t149 => (dioramaref09_times.l0 k a1 t149 0 a0_0 l0_1 l0_2 l0_3 a0_4 a0_5 l0_6 l0_7 l0_8 l0_9 l0_10)
theorem dioramaref09_times.mono_l:∀ k,(∀ y0 y1 y2 y3 y4 y5 y6 y7 y8 y9 y10 y11 y12 y13,LeO (dioramaref09_times.l0 k y0 y1 y2 y3 y4 y5 y6 y7 y8 y9 y10 y11 y12 y13) (dioramaref09_times.l0 (k+1) y0 y1 y2 y3 y4 y5 y6 y7 y8 y9 y10 y11 y12 y13))∧(∀ y0 y1 y2 y3 y4,LeO (dioramaref09_times.l1 k y0 y1 y2 y3 y4) (dioramaref09_times.l1 (k+1) y0 y1 y2 y3 y4))
 | 0=>⟨fun _ _ _ _ _ _ _ _ _ _ _ _ _ _ r h=>by simp [dioramaref09_times.l0] at h,fun _ _ _ _ _ r h=>by simp [dioramaref09_times.l1] at h⟩
 | k+1=>by
  obtain ⟨ih0,ih1⟩:=dioramaref09_times.mono_l k
  refine ⟨?_,?_⟩
  · intro y0 y1 y2 y3 y4 y5 y6 y7 y8 y9 y10 y11 y12 y13
    unfold dioramaref09_times.l0
    repeat' first
    | (with_reducible exact ih0 _ _ _ _ _ _ _ _ _ _ _ _ _ _)
    | (with_reducible exact ih1 _ _ _ _ _)
    | (with_reducible exact dioramaref09_or.mono _ _ _)
    | (with_reducible exact dioramaref09_values.mono _ _)
    | (with_reducible exact LeO.refl _)
    | (with_reducible exact LeO.none _)
    | (with_reducible refine LeO.ite ?_ ?_)
    | (with_reducible refine LeO.bind ?_ (fun _=>?_))
    | exact LeO.none _
    | refine LeO.ite ?_ ?_
    | refine LeO.bind ?_ (fun _=>?_)
  intro y0 y1 y2 y3 y4
  unfold dioramaref09_times.l1
  repeat' first
  | (with_reducible exact ih0 _ _ _ _ _ _ _ _ _ _ _ _ _ _)
  | (with_reducible exact ih1 _ _ _ _ _)
  | (with_reducible exact dioramaref09_or.mono _ _ _)
  | (with_reducible exact dioramaref09_values.mono _ _)
  | (with_reducible exact LeO.refl _)
  | (with_reducible exact LeO.none _)
  | (with_reducible refine LeO.ite ?_ ?_)
  | (with_reducible refine LeO.bind ?_ (fun _=>?_))
  | exact LeO.none _
  | refine LeO.ite ?_ ?_
  | refine LeO.bind ?_ (fun _=>?_)
theorem dioramaref09_times.mono:∀ a0 a1 a2 a3 a4 a5 a6 a7 a8 a9 a10 a11 k,LeO (dioramaref09_times.f k a0 a1 a2 a3 a4 a5 a6 a7 a8 a9 a10 a11) (dioramaref09_times.f (k+1) a0 a1 a2 a3 a4 a5 a6 a7 a8 a9 a10 a11):=by
 intro a0 a1 a2 a3 a4 a5 a6 a7 a8 a9 a10 a11 k
 obtain ⟨ih0,ih1⟩:=dioramaref09_times.mono_l k
 unfold dioramaref09_times.f
 repeat' first
  | (with_reducible exact ih0 _ _ _ _ _ _ _ _ _ _ _ _ _ _)
  | (with_reducible exact ih1 _ _ _ _ _)
  | (with_reducible exact dioramaref09_or.mono _ _ _)
  | (with_reducible exact dioramaref09_values.mono _ _)
  | (with_reducible exact LeO.refl _)
  | (with_reducible exact LeO.none _)
  | (with_reducible refine LeO.ite ?_ ?_)
  | (with_reducible refine LeO.bind ?_ (fun _=>?_))
  | exact LeO.none _
  | refine LeO.ite ?_ ?_
  | refine LeO.bind ?_ (fun _=>?_)
set_option maxHeartbeats 8000000 in
set_option maxRecDepth 100000 in
theorem dioramaref09_times.calls (k:Nat) (a0_0:Int) (A0_1:Option Addr) (c0_1:Nat) (l0_1:List (S83)) (A0_2:Option Addr) (c0_2:Nat) (l0_2:List (S83)) (A0_3:Option Addr) (c0_3:Nat) (l0_3:List Int) (a0_4:Bool) (a0_5:Int) (A0_6:Option Addr) (c0_6:Nat) (l0_6:List Int) (A0_7:Option Addr) (c0_7:Nat) (l0_7:List (S86)) (A0_8:Option Addr) (c0_8:Nat) (l0_8:List Int) (A0_9:Option Addr) (c0_9:Nat) (l0_9:List (S83)) (A0_10:Option Addr) (c0_10:Nat) (l0_10:List (List Int)) (a1:Int) (r:Int) (w:World) (hr0_1:Kd.C k83 w A0_1 l0_1.length l0_1) (hc0_1:l0_1.length≤c0_1) (hr0_2:Kd.C k83 w A0_2 l0_2.length l0_2) (hc0_2:l0_2.length≤c0_2) (hr0_3:Kd.C (Kd.int .i64) w A0_3 l0_3.length l0_3) (hc0_3:l0_3.length≤c0_3) (hr0_6:Kd.C (Kd.int .i64) w A0_6 l0_6.length l0_6) (hc0_6:l0_6.length≤c0_6) (hr0_7:Kd.C k86 w A0_7 l0_7.length l0_7) (hc0_7:l0_7.length≤c0_7) (hr0_8:Kd.C (Kd.int .i64) w A0_8 l0_8.length l0_8) (hc0_8:l0_8.length≤c0_8) (hr0_9:Kd.C k83 w A0_9 l0_9.length l0_9) (hc0_9:l0_9.length≤c0_9) (hr0_10:Kd.C (Kd.slice 3 (Kd.int .i64)) w A0_10 l0_10.length l0_10) (hc0_10:l0_10.length≤c0_10) (h:dioramaref09_times.f k a0_0 l0_1 l0_2 l0_3 a0_4 a0_5 l0_6 l0_7 l0_8 l0_9 l0_10 a1=some r) :
 Calls Try.prog 51 #[.agg #[.int .i64 a0_0,.slice A0_1 l0_1.length c0_1,.slice A0_2 l0_2.length c0_2,.slice A0_3 l0_3.length c0_3,.bool a0_4,.int .i64 a0_5,.slice A0_6 l0_6.length c0_6,.slice A0_7 l0_7.length c0_7,.slice A0_8 l0_8.length c0_8,.slice A0_9 l0_9.length c0_9,.slice A0_10 l0_10.length c0_10],.int .i64 a1] w fun e w'=>e=.returned (.int .i64 r)∧Below w.heap.size w w':=by
 have hu27:=Try.underlying27
 have HR0_1:=Aside0.mk hr0_1
 have HC0_1:=Aside0.mk hc0_1;clear hr0_1 hc0_1
 have HR0_2:=Aside0.mk hr0_2
 have HC0_2:=Aside0.mk hc0_2;clear hr0_2 hc0_2
 have HR0_3:=Aside0.mk hr0_3
 have HC0_3:=Aside0.mk hc0_3;clear hr0_3 hc0_3
 have HR0_6:=Aside0.mk hr0_6
 have HC0_6:=Aside0.mk hc0_6;clear hr0_6 hc0_6
 have HR0_7:=Aside0.mk hr0_7
 have HC0_7:=Aside0.mk hc0_7;clear hr0_7 hc0_7
 have HR0_8:=Aside0.mk hr0_8
 have HC0_8:=Aside0.mk hc0_8;clear hr0_8 hc0_8
 have HR0_9:=Aside0.mk hr0_9
 have HC0_9:=Aside0.mk hc0_9;clear hr0_9 hc0_9
 have HR0_10:=Aside0.mk hr0_10
 have HC0_10:=Aside0.mk hc0_10;clear hr0_10 hc0_10;have HB:=Aside0.mk (Below.refl w.heap.size w)
 have H:((dioramaref09_values.f k l0_1).bind fun t149=>(dioramaref09_times.l0 k a1 t149 0 a0_0 l0_1 l0_2 l0_3 a0_4 a0_5 l0_6 l0_7 l0_8 l0_9 l0_10))=some r:=h;clear h
 replace H:=Option.bind_eq_some_iff.mp H
 obtain ⟨t149,A30,H⟩:=H
 replace H:(dioramaref09_times.l0 k a1 t149 0 a0_0 l0_1 l0_2 l0_3 a0_4 a0_5 l0_6 l0_7 l0_8 l0_9 l0_10)=some r:=H
 have A3:=Aside0.mk A30;clear A30
 have H':=Aside0.mk H;clear H
 go_enter Try.func51,Try.ntmps51
 go_wp2_with (first|((with_reducible refine gate_dst (N:=2) rfl ?_);refine box_event ?hg (N:=2) ?hd (cs:=#[.int .i64 a0_0,.slice A0_1 l0_1.length c0_1,.slice A0_2 l0_2.length c0_2,.slice A0_3 l0_3.length c0_3,.bool a0_4,.int .i64 a0_5,.slice A0_6 l0_6.length c0_6,.slice A0_7 l0_7.length c0_7,.slice A0_8 l0_8.length c0_8,.slice A0_9 l0_9.length c0_9,.slice A0_10 l0_10.length c0_10]) (t:=27) ?hr ?_;(case hd=>rfl);(case hg=>rfl);(case hr=>first|(go_simp;done)|(go_simp;rfl));intro gb148 hg w4 hbox hb;have n0_:=Aside0.mk (below_step (belV HB.out) hb);have n1_:=Aside0.mk (hbox);have n2_:=Aside0.mk ((by rw [hg];exact (below_size (belV HB.out)):w.heap.size≤gb148));have n3_:=Aside0.mk ((by rw [hg];exact (below_size (belV HB.out)):w.heap.size≤gb148));clear HB;have HB:=n0_;have BK148:=n1_;have GW148:=n2_;have GE148:=n3_;clear n0_ n1_ n2_ n3_;clear hb hbox hg;obtain ⟨hcz5_0,hcz5_1,hcz5_2,hcz5_3,hcz5_4,hcz5_5,hcz5_6,hcz5_7,hcz5_8,hcz5_9,hcz5_10,hfz5_0,hfz5_1,hfz5_2,hfz5_3,hfz5_4,hfz5_5,hfz5_6,hfz5_7,hfz5_8,hfz5_9,hfz5_10⟩:=bcells11 BK148.out)|((with_reducible refine gate_callee (f:=69) rfl ?_);refine goesL_ (some 12) rfl rfl Try.func69 (by kernel_rfl) rfl #[.slice A0_1 l0_1.length c0_1] rfl (by (try simp only [List.map_toArray,List.map_cons,List.map_nil]);first|done|rfl|(simp only [List.length_drop,List.length_take];rfl)) ?_;(with_reducible refine (dioramaref09_values.calls k _ _ l0_1 t149 _ ?side1 ?side2 A3.out).mono ?_);(case side1=>exact cV (Kd.C_below HR0_1.out HB.out));(case side2=>exact HC0_1.out);rintro e w6 ⟨v150,rfl,ho0,hb⟩;refine ⟨_,rfl,?_⟩;have n0_:=Aside0.mk (Kd.R_lower ho0 (below_size (belV1 HB.out GE148.out)));have n1_:=Aside0.mk (blk_below (g:=gb148) (blkV BK148.out) hb);have n2_:=Aside0.mk (below_step (belV1 HB.out GE148.out) hb);clear BK148;clear HB;have HO151:=n0_;have BK148:=n1_;have HB:=n2_;clear n0_ n1_ n2_;(try clear hb);(try clear hb2);(try clear hk);(try clear hi);(try clear ho0)))
 go_loopg [6] k (fun kq v6 w'=>∃ (x6_1:Int),v6=.int .i64 x6_1∧Aside0 (dioramaref09_times.l0 kq a1 t149 x6_1 a0_0 l0_1 l0_2 l0_3 a0_4 a0_5 l0_6 l0_7 l0_8 l0_9 l0_10=some r)∧Aside0 (kq≤k)∧Aside0 (Kd.R (Kd.int .i64) 3 w' w.heap.size (fun _=>True) v150 t149)∧Aside0 (w'.heap[gb148]?=some (.cells #[.int .i64 a0_0,(.slice A0_1 l0_1.length c0_1),(.slice A0_2 l0_2.length c0_2),(.slice A0_3 l0_3.length c0_3),.bool a0_4,.int .i64 a0_5,(.slice A0_6 l0_6.length c0_6),(.slice A0_7 l0_7.length c0_7),(.slice A0_8 l0_8.length c0_8),(.slice A0_9 l0_9.length c0_9),(.slice A0_10 l0_10.length c0_10)] 27 (0,0)))∧Aside0 (Below w.heap.size w w'))
 case atStart=>exact ⟨(0),okV,H',⟨Nat.le_refl _⟩,⟨rowV HO151.out⟩,⟨blkV BK148.out⟩,⟨belV1 HB.out GE148.out⟩⟩
 case round =>
  clear H'
  try clear p2;try clear c5;try clear c6;try clear hcz5_0 hcz5_1 hcz5_10 hcz5_2 hcz5_3 hcz5_4 hcz5_5 hcz5_6 hcz5_7 hcz5_8 hcz5_9;try clear hfz5_0 hfz5_1 hfz5_10 hfz5_2 hfz5_3 hfz5_4 hfz5_5 hfz5_6 hfz5_7 hfz5_8 hfz5_9
  obtain ⟨x6_1,rfl,HA,HK1,HO_5,BK148,HB⟩:=hrel
  cases gk with
  | zero=>exact absurd HA.out (by simp [dioramaref09_times.l0])
  | succ k1 =>
   have H:=HA.out;clear HA
   simp only [dioramaref09_times.l0] at H
   by_cases c7:(wrap64 (x6_1+1)) < a1
   · rw [if_pos c7] at H
     have c7b0:decide ((wrap64 (x6_1+1)) < a1)=true:=decide_eq_true c7;clear c7
     by_cases c8:0≤x6_1
     · rw [if_pos c8] at H
       have c8b0:decide (0≤x6_1)=true:=decide_eq_true c8;clear c8
       by_cases c9:x6_1 < (t149.length:Int)
       · rw [if_pos c9] at H
         have c9b0:decide (x6_1 < (t149.length:Int))=true:=decide_eq_true c9;clear c9
         by_cases c10:(rd t149 x6_1)=0
         · rw [if_pos c10] at H
           have c10b0:((rd t149 x6_1) == 0)=true:=beq_iff_eq.mpr c10
           have c10b1:((rd t149 x6_1) != 0)=false:=bne_eq_false_iff_eq.mpr c10;clear c10
           obtain rfl:=Option.some.inj H
           obtain ⟨Ao11,co11,eo11⟩:=Kd.R_slice HO_5.out;subst eo11
           have p152:0≤(x6_1:Int):=of_decide_eq_true asV
           have q152:x6_1 < (t149.length:Int):=of_decide_eq_true asV
           obtain ⟨ad152,e152,hx152_0⟩:=Kd.at_int (Kd.R_reads' HO_5.out).2.2 x6_1 p152 q152
           cases e152
           replace p152:=eq_true p152
           replace q152:=eq_true q152
           go_wp2
           go_ret
           exact ⟨by first|rfl|(simp [errW_none,errW_some] <;> rfl)|(simp [*,errW_none,errW_some] <;> rfl),by repeat (first|(with_reducible first|exact HB.out|apply below_alloc|apply pw_below_drewN|apply below_drew1|refine below_set ?_ GE148.out)|exact HB.out)⟩
         rw [if_neg c10] at H
         have c10b0:((rd t149 x6_1) == 0)=false:=beq_eq_false_iff_ne.mpr c10
         have c10b1:((rd t149 x6_1) != 0)=true:=bne_iff_ne.mpr c10
         have H':=Aside0.mk H;clear H
         obtain ⟨Ao12,co12,eo12⟩:=Kd.R_slice HO_5.out;subst eo12
         have p152:0≤(x6_1:Int):=of_decide_eq_true asV
         have q152:x6_1 < (t149.length:Int):=of_decide_eq_true asV
         obtain ⟨ad152,e152,hx152_0⟩:=Kd.at_int (Kd.R_reads' HO_5.out).2.2 x6_1 p152 q152
         cases e152
         replace p152:=eq_true p152
         replace q152:=eq_true q152
         go_wp2
         go_roundg k1
         case measure=>have:=HK1.out;omega
         case rel=>exact ⟨(wrap64 (x6_1+1)),okV,H',⟨by have:=HK1.out;omega⟩,⟨rowV HO_5.out⟩,⟨blkV BK148.out⟩,⟨belV1 HB.out GE148.out⟩⟩
       rw [if_neg c9] at H
       exact absurd H (by simp)
     rw [if_neg c8] at H
     exact absurd H (by simp)
   rw [if_neg c7] at H
   have c7b0:decide ((wrap64 (x6_1+1)) < a1)=false:=decide_eq_false c7;clear c7
   by_cases c13:0≤a1
   · rw [if_pos c13] at H
     have c13b0:=eq_true c13
     have c13b1:decide (0≤a1)=true:=decide_eq_true c13;clear c13
     by_cases c14:(a1:Int).toNat≤35184372088832
     · rw [if_pos c14] at H
       have c14b0:=eq_true c14
       have c14b1:decide ((a1:Int).toNat≤35184372088832)=true:=decide_eq_true c14;clear c14
       obtain ⟨y153,hy153⟩:∃ y_:List Int,y_=(List.replicate (a1:Int).toNat 0):=⟨_,rfl⟩
       replace H:((dioramaref09_or.f k1 l0_2 y153).bind fun t156=>(dioramaref09_times.l1 k1 a1 t149 t156 a0_0 0))=some r:=by first|(rw [hy153];with_reducible exact H)|(have H2_:=(Option.bind_some _ _).symm.trans H;rw [hy153];with_reducible exact H2_)|(have H2_:=(Option.bind_some _ _).symm.trans H;with_reducible exact H2_)|with_reducible exact H|(rw [hy153];exact H)|exact H
       have Ny153:=Aside0.mk hy153;clear hy153
       replace H:=Option.bind_eq_some_iff.mp H
       obtain ⟨t156,A150,H⟩:=H
       replace H:(dioramaref09_times.l1 k1 a1 t149 t156 a0_0 0)=some r:=H
       have A15:=Aside0.mk A150;clear A150
       have H':=Aside0.mk H;clear H
       try go_wp2
       have n0_:=Aside0.mk (Kd.R_drew HO_5.out)
       have n1_:=Aside0.mk (blk_drew BK148.out)
       have n2_:=Aside0.mk (below_drew1 HB.out);clear HO_5;clear BK148;clear HB;have HO_5:=n0_;have BK148:=n1_;have HB:=n2_;clear n0_ n1_ n2_
       refine start_ (n:=6) (S:=fun w'=>w'.cell? ⟨gb148,0,none⟩=some (.int .i64 a0_0)∧w'.cell? ⟨gb148,1,none⟩=some (.slice A0_1 l0_1.length c0_1)∧w'.cell? ⟨gb148,2,none⟩=some (.slice A0_2 l0_2.length c0_2)∧w'.cell? ⟨gb148,3,none⟩=some (.slice A0_3 l0_3.length c0_3)∧w'.cell? ⟨gb148,4,none⟩=some (.bool a0_4)∧w'.cell? ⟨gb148,5,none⟩=some (.int .i64 a0_5)∧w'.cell? ⟨gb148,6,none⟩=some (.slice A0_6 l0_6.length c0_6)∧w'.cell? ⟨gb148,7,none⟩=some (.slice A0_7 l0_7.length c0_7)∧w'.cell? ⟨gb148,8,none⟩=some (.slice A0_8 l0_8.length c0_8)∧w'.cell? ⟨gb148,9,none⟩=some (.slice A0_9 l0_9.length c0_9)∧w'.cell? ⟨gb148,10,none⟩=some (.slice A0_10 l0_10.length c0_10)) (ds:=[]) #[false,false,false,false,false,false] (by kernel_rfl) rfl rfl ⟨(blk_cell BK148.out 0).trans rfl,(blk_cell BK148.out 1).trans rfl,(blk_cell BK148.out 2).trans rfl,(blk_cell BK148.out 3).trans rfl,(blk_cell BK148.out 4).trans rfl,(blk_cell BK148.out 5).trans rfl,(blk_cell BK148.out 6).trans rfl,(blk_cell BK148.out 7).trans rfl,(blk_cell BK148.out 8).trans rfl,(blk_cell BK148.out 9).trans rfl,(blk_cell BK148.out 10).trans rfl⟩ (fun hHeld=>?_)
       generalize wr.drew=w16 at HO_5 BK148 HB hHeld ⊢
       refine pure_ (i:=0) (N:=some 24) (v:=?_) (a':=?_) #[true,false,false,false,false,false] rfl rfl (by kernel_rfl) (fun _ _ _ h=>h) (Or.inl ⟨by rfl,?_⟩) ?_ ?_;rotate_left
       · intro w';go_simp;with_reducible rfl
       rotate_left
       · simp only [Act.put,List.setIfInBounds_toArray,List.set_cons_zero,List.set_cons_succ,i64_w,i32_w];rfl
       refine pure_ (i:=2) (N:=some 26) (v:=?_) (a':=?_) #[true,false,true,false,false,false] rfl rfl (by kernel_rfl) (fun _ _ _ h=>h) (Or.inl ⟨by rfl,?_⟩) ?_ ?_;rotate_left
       · intro w';go_simp;with_reducible rfl
       rotate_left
       · simp only [Act.put,List.setIfInBounds_toArray,List.set_cons_zero,List.set_cons_succ,i64_w,i32_w];rfl
       refine take_ (i:=1) (N:=some 25) (v:=?_) (a':=?_) #[true,true,true,false,false,false] rfl rfl (by kernel_rfl) (fun _ _ _ h=>h) (Or.inl ⟨by rfl,?_⟩) hHeld ?_ ?_;rotate_left
       · rintro w' ⟨s0,s1,s2,s3,s4,s5,s6,s7,s8,s9,s10⟩
         go_simp;with_reducible rfl
       rotate_left
       · simp only [Act.put,List.setIfInBounds_toArray,List.set_cons_zero,List.set_cons_succ,i64_w,i32_w];rfl
       refine one_ (i:=3) (N:=some 27) #[true,true,true,true,false,false] rfl rfl (by kernel_rfl) (by decide) (fun K hK=>?_)
       refine Kd.R_make_step (Kd.int .i64) _ 3 (by rfl) (N:=27) rfl 23 _ _ rfl a1 rfl rfl Try.underlying23 (.int .i64 0) 8 info3 rfl (by decide) (by omega) 0 (ok:=fun _=>True) (okp:=fun _=>True) rfl (fun _ hk=>hk) trivial (of_decide_eq_true asV) (Nat.le_trans (Nat.mul_le_mul_right _ (of_decide_eq_true asV:a1.toNat≤35184372088832)) (by omega)) (Below.refl _ _) (Nat.le_refl _) ?_
       intro v154 w17 ho18 hb hg_ hnew_;clear hg_ hnew_
       (first|rw [← Ny153.out] at ho18|(simp only [Int.reduceToNat] at ho18;rw [← Ny153.out] at ho18))
       have n0_:=Aside0.mk (Kd.R_elder' (rowV HO_5.out) (Kd.R_base ho18) hb)
       have n1_:=Aside0.mk (Kd.R_lower (Kd.R_new' ho18 (Kd.R_lt (rowV HO_5.out))) (below_size (belV1 HB.out GE148.out)))
       have n2_:=Aside0.mk (blk_below (g:=gb148) (blkV BK148.out) hb)
       have n3_:=Aside0.mk (below_step (belV1 HB.out GE148.out) hb);clear HO_5;clear BK148;clear HB;have HO_5:=n0_;have HO155:=n1_;have BK148:=n2_;have HB:=n3_;clear n0_ n1_ n2_ n3_;clear hb ho18
       obtain ⟨Ao19,co19,eo19⟩:=Kd.R_slice HO155.out
       (first|subst eo19|(injection eo19 with f1_ f2_ f3_;have f4_:=f1_.symm;have f5_:=f3_.symm;clear f1_ f2_ f3_;subst f4_;subst f5_))
       refine hK.out _ _ ⟨(blk_cell BK148.out 0).trans rfl,(blk_cell BK148.out 1).trans rfl,(blk_cell BK148.out 2).trans rfl,(blk_cell BK148.out 3).trans rfl,(blk_cell BK148.out 4).trans rfl,(blk_cell BK148.out 5).trans rfl,(blk_cell BK148.out 6).trans rfl,(blk_cell BK148.out 7).trans rfl,(blk_cell BK148.out 8).trans rfl,(blk_cell BK148.out 9).trans rfl,(blk_cell BK148.out 10).trans rfl⟩ (fun hHeld=>?_);clear hK K
       refine norm_ (a':=?_) ?_ ?_;rotate_left
       · show Act.put _ (some 27) _=_
         simp only [Act.put,List.setIfInBounds_toArray,List.set_cons_zero,List.set_cons_succ,i64_w,i32_w];rfl
       refine one_ (i:=4) (N:=some 28) #[true,true,true,true,true,false] rfl rfl (by kernel_rfl) (by decide) (fun K hK=>?_)
       refine goes_ Try.func97 (by kernel_rfl) rfl #[.slice A0_2 l0_2.length c0_2,.slice Ao19 y153.length co19] (by rfl) rfl rfl (by (try simp only [List.map_toArray,List.map_cons,List.map_nil]);first|done|rfl|(simp only [List.length_drop,List.length_take];rfl)) ?_
       with_reducible refine (dioramaref09_or.calls k1 _ _ l0_2 (fun k_=>some k_=(.slice Ao19 y153.length co19:Value).ownBlock) (.slice Ao19 y153.length co19) y153 t156 w _ ?side1 ?side2 ?side3 ?side4 A15.out).mono ?_
       (case side1=>exact belV1 HB.out GE148.out)
       (case side2=>exact Kd.C_kept_came k83_heap HR0_2.out (belV1 HB.out GE148.out) (fun k_ hs_=>(fun e_=>Kd.R_base HO155.out k_ e_.symm) hs_))
       (case side3=>exact HC0_2.out)
       (case side4=>exact Kd.R_tight rfl HO155.out)
       rintro e w20 ⟨v157,rfl,ho0,hb,hkp⟩
       refine ⟨_,rfl,?_⟩
       have n0_:=Aside0.mk (Kd.R_mono (ok':=fun k_=>some k_≠(v157:Value).ownBlock) (Kd.R_keptB (HO_5.out) hkp (fun k_ hk_ hs_=>(hk_.2) hs_)) (fun k_ hk_=>fun e_=>Or.elim (ho0.1 k_ e_.symm) (fun hs_=>hk_.2.1 hs_) (fun hn_=>Nat.not_le.2 hk_.2.2 hn_)))
       have n1_:=Aside0.mk (blk_kept (blkV BK148.out) hkp (fun hs_=>(fun e_=>(Kd.R_ne HO155.out BK148.out (by decide)) e_) hs_))
       have n2_:=Aside0.mk (Kd.R_mono (ok':=fun k_=>some k_≠(v150:Value).ownBlock) ho0 (fun k_ hk_=>Or.elim hk_ (fun hs_=>fun e_=>(((HO_5.out).1 k_ e_.symm).2) hs_) (fun hn_=>(Kd.fresh' (Kd.R_lt (rowV HO_5.out)) k_ hn_))))
       have n3_:=Aside0.mk (hb);clear HO_5;clear BK148;clear HB;clear HO155;have HO_5:=n0_;have BK148:=n1_;have HO158:=n2_;have HB:=n3_;clear n0_ n1_ n2_ n3_
       (try clear hb)
       (try clear hkp)
       (try clear ho0)
       refine hK.out _ _ ⟨(blk_cell BK148.out 0).trans rfl,(blk_cell BK148.out 1).trans rfl,(blk_cell BK148.out 2).trans rfl,(blk_cell BK148.out 3).trans rfl,(blk_cell BK148.out 4).trans rfl,(blk_cell BK148.out 5).trans rfl,(blk_cell BK148.out 6).trans rfl,(blk_cell BK148.out 7).trans rfl,(blk_cell BK148.out 8).trans rfl,(blk_cell BK148.out 9).trans rfl,(blk_cell BK148.out 10).trans rfl⟩ (fun hHeld=>?_);clear hK K
       refine norm_ (a':=?_) ?_ ?_;rotate_left
       · show Act.put _ (some 28) _=_
         simp only [Act.put,List.setIfInBounds_toArray,List.set_cons_zero,List.set_cons_succ,i64_w,i32_w];rfl
       refine pure_ (i:=5) (N:=some 7) (v:=?_) (a':=?_) #[true,true,true,true,true,true] rfl rfl (by kernel_rfl) (fun _ _ _ h=>h) (Or.inl ⟨by rfl,?_⟩) ?_ ?_;rotate_left
       · intro w';go_simp;with_reducible rfl
       rotate_left
       · simp only [Act.put,List.setIfInBounds_toArray,List.set_cons_zero,List.set_cons_succ,i64_w,i32_w];rfl
       refine done_ (by kernel_rfl) ?_
       obtain ⟨hcz21_0,hcz21_1,hcz21_2,hcz21_3,hcz21_4,hcz21_5,hcz21_6,hcz21_7,hcz21_8,hcz21_9,hcz21_10,hfz21_0,hfz21_1,hfz21_2,hfz21_3,hfz21_4,hfz21_5,hfz21_6,hfz21_7,hfz21_8,hfz21_9,hfz21_10⟩:=bcells11 BK148.out
       try go_wp2
       go_loopg [8,9] k1 (fun kq v8 v9 w'=>∃ (x8_2:Int) (x9_2:Int),v8=.int .i64 x8_2∧v9=.int .i64 x9_2∧Aside0 (dioramaref09_times.l1 kq a1 t149 t156 x8_2 x9_2=some r)∧Aside0 (kq≤k1)∧Aside0 (Kd.R (Kd.int .i64) 3 w' w.heap.size (fun k_=>some k_≠(v157:Value).ownBlock) v150 t149)∧Aside0 (Kd.R (Kd.int .i64) 3 w' w.heap.size (fun k_=>some k_≠(v150:Value).ownBlock) v157 t156)∧Aside0 (w'.heap[gb148]?=some (.cells #[.int .i64 a0_0,(.slice A0_1 l0_1.length c0_1),(.slice A0_2 l0_2.length c0_2),(.slice A0_3 l0_3.length c0_3),.bool a0_4,.int .i64 a0_5,(.slice A0_6 l0_6.length c0_6),(.slice A0_7 l0_7.length c0_7),(.slice A0_8 l0_8.length c0_8),(.slice A0_9 l0_9.length c0_9),(.slice A0_10 l0_10.length c0_10)] 27 (0,0)))∧Aside0 (Below w.heap.size w w'))
       case atStart=>exact ⟨(a0_0),(0),okV,okV,H',⟨Nat.le_refl _⟩,⟨rowV HO_5.out⟩,⟨rowV HO158.out⟩,⟨blkV BK148.out⟩,⟨belV1 HB.out GE148.out⟩⟩
       case round =>
        clear H'
        try clear c1;try clear p1;try clear q1;try clear hx1;try clear p2 p2;try clear c5;try clear c6;try clear p6;try clear c7;try clear c7b0;try clear c8;try clear c8b0;try clear c9;try clear c9b0;try clear c10;try clear c10b0;try clear c10b1;try clear c13;try clear c13b0;try clear c13b1;try clear c14;try clear c14b0;try clear c14b1;try clear p15;try clear q15;try clear hx15;try clear hcz21_0 hcz21_1 hcz21_10 hcz21_2 hcz21_3 hcz21_4 hcz21_5 hcz21_6 hcz21_7 hcz21_8 hcz21_9;try clear hcz5_0 hcz5_1 hcz5_10 hcz5_2 hcz5_3 hcz5_4 hcz5_5 hcz5_6 hcz5_7 hcz5_8 hcz5_9;try clear hfz21_0 hfz21_1 hfz21_10 hfz21_2 hfz21_3 hfz21_4 hfz21_5 hfz21_6 hfz21_7 hfz21_8 hfz21_9;try clear hfz5_0 hfz5_1 hfz5_10 hfz5_2 hfz5_3 hfz5_4 hfz5_5 hfz5_6 hfz5_7 hfz5_8 hfz5_9;try clear hx152_0;try clear p152;try clear q152
        obtain ⟨x8_2,x9_2,rfl,rfl,HA,HK2,HO_5,HO_7,BK148,HB⟩:=hrel
        cases gk with
        | zero=>exact absurd HA.out (by simp [dioramaref09_times.l1])
        | succ k2 =>
         have H:=HA.out;clear HA
         simp only [dioramaref09_times.l1] at H
         by_cases c22:x9_2 < a1
         · rw [if_pos c22] at H
           have c22b0:decide (x9_2 < a1)=true:=decide_eq_true c22;clear c22
           replace H:=Option.bind_eq_some_iff.mp H
           obtain ⟨t159,A230,H⟩:=H
           replace H:(if t159=true then (if 0≤x9_2 then (if x9_2 < (t156.length:Int) then ((dioramaref09_in.f (wrap64 (x8_2+(rd t156 x9_2))) (-1099511627776) 1099511627776).bind fun t161=>(if t161=true then (if x9_2 < (t149.length:Int) then (dioramaref09_times.l1 k2 a1 t149 t156 (wrap64 (x8_2+(rd t149 x9_2))) (wrap64 (x9_2+1))) else (none)) else (some 1))) else (none)) else (none)) else (some 1))=some r:=H
           have A23:=Aside0.mk A230;clear A230
           by_cases c24:t159=true
           · subst c24
             have H1:(if 0≤x9_2 then (if x9_2 < (t156.length:Int) then ((dioramaref09_in.f (wrap64 (x8_2+(rd t156 x9_2))) (-1099511627776) 1099511627776).bind fun t161=>(if t161=true then (if x9_2 < (t149.length:Int) then (dioramaref09_times.l1 k2 a1 t149 t156 (wrap64 (x8_2+(rd t149 x9_2))) (wrap64 (x9_2+1))) else (none)) else (some 1))) else (none)) else (none))=some r:=by rw [if_pos rfl] at H;exact H
             clear H
             have H:=H1;clear H1
             by_cases c25:0≤x9_2
             · rw [if_pos c25] at H
               have c25b0:decide (0≤x9_2)=true:=decide_eq_true c25;clear c25
               by_cases c26:x9_2 < (t156.length:Int)
               · rw [if_pos c26] at H
                 have c26b0:decide (x9_2 < (t156.length:Int))=true:=decide_eq_true c26;clear c26
                 replace H:=Option.bind_eq_some_iff.mp H
                 obtain ⟨t161,A270,H⟩:=H
                 replace H:(if t161=true then (if x9_2 < (t149.length:Int) then (dioramaref09_times.l1 k2 a1 t149 t156 (wrap64 (x8_2+(rd t149 x9_2))) (wrap64 (x9_2+1))) else (none)) else (some 1))=some r:=H
                 have A27:=Aside0.mk A270;clear A270
                 by_cases c28:t161=true
                 · subst c28
                   have H1:(if x9_2 < (t149.length:Int) then (dioramaref09_times.l1 k2 a1 t149 t156 (wrap64 (x8_2+(rd t149 x9_2))) (wrap64 (x9_2+1))) else (none))=some r:=by rw [if_pos rfl] at H;exact H
                   clear H
                   have H:=H1;clear H1
                   by_cases c29:x9_2 < (t149.length:Int)
                   · rw [if_pos c29] at H
                     have c29b0:decide (x9_2 < (t149.length:Int))=true:=decide_eq_true c29;clear c29
                     have H':=Aside0.mk H;clear H
                     go_wp2_with (first|((with_reducible refine gate_callee (f:=53) rfl ?_);refine goesL_ (some 37) rfl rfl Try.func53 (by kernel_rfl) rfl #[.int .i64 x8_2,.int .i64 (-1099511627776),.int .i64 1099511627776] rfl (by (try simp only [List.map_toArray,List.map_cons,List.map_nil]);first|done|rfl|(simp only [List.length_drop,List.length_take];rfl)) ?_;(with_reducible refine (dioramaref09_in.calls x8_2 (-1099511627776) 1099511627776 true _ A23.out).mono ?_);rintro e w' ⟨rfl,⟨nd,rfl⟩⟩;refine ⟨_,rfl,?_⟩;obtain ⟨Ao30,co30,eo30⟩:=Kd.R_slice HO_7.out;subst eo30;have p160:0≤(x9_2:Int):=of_decide_eq_true asV;have q160:x9_2 < (t156.length:Int):=of_decide_eq_true asV;obtain ⟨ad160,e160,hx160_0⟩:=Kd.at_int (Kd.R_reads' HO_7.out).2.2 x9_2 p160 q160;cases e160;replace p160:=eq_true p160;replace q160:=eq_true q160)|(go_at_call 53;(with_reducible refine (dioramaref09_in.calls (wrap64 (x8_2+(rd t156 x9_2))) (-1099511627776) 1099511627776 true _ A27.out).mono ?_);rintro e w' ⟨rfl,⟨nd,rfl⟩⟩;obtain ⟨Ao31,co31,eo31⟩:=Kd.R_slice HO_5.out;subst eo31;have p162:0≤(x9_2:Int):=of_decide_eq_true asV;have q162:x9_2 < (t149.length:Int):=of_decide_eq_true asV;obtain ⟨ad162,e162,hx162_0⟩:=Kd.at_int (Kd.R_reads' HO_5.out).2.2 x9_2 p162 q162;cases e162;replace p162:=eq_true p162;replace q162:=eq_true q162))
                     go_roundg k2
                     case measure=>have:=HK1.out;have:=HK2.out;omega
                     case rel=>exact ⟨(wrap64 (x8_2+(rd t149 x9_2))),(wrap64 (x9_2+1)),okV,okV,H',⟨by have:=HK1.out;have:=HK2.out;omega⟩,⟨rowV HO_5.out⟩,⟨rowV HO_7.out⟩,⟨blkV BK148.out⟩,⟨belV1 HB.out GE148.out⟩⟩
                   rw [if_neg c29] at H
                   exact absurd H (by simp)
                 replace c28:=Bool.eq_false_iff.mpr c28;subst c28
                 have H1:(some 1)=some r:=by rw [if_neg (show ¬ (false=true) by decide)] at H;exact H
                 clear H
                 have H:=H1;clear H1
                 obtain rfl:=Option.some.inj H
                 go_wp2_with (first|((with_reducible refine gate_callee (f:=53) rfl ?_);refine goesL_ (some 37) rfl rfl Try.func53 (by kernel_rfl) rfl #[.int .i64 x8_2,.int .i64 (-1099511627776),.int .i64 1099511627776] rfl (by (try simp only [List.map_toArray,List.map_cons,List.map_nil]);first|done|rfl|(simp only [List.length_drop,List.length_take];rfl)) ?_;(with_reducible refine (dioramaref09_in.calls x8_2 (-1099511627776) 1099511627776 true _ A23.out).mono ?_);rintro e w' ⟨rfl,⟨nd,rfl⟩⟩;refine ⟨_,rfl,?_⟩;obtain ⟨Ao32,co32,eo32⟩:=Kd.R_slice HO_7.out;subst eo32;have p160:0≤(x9_2:Int):=of_decide_eq_true asV;have q160:x9_2 < (t156.length:Int):=of_decide_eq_true asV;obtain ⟨ad160,e160,hx160_0⟩:=Kd.at_int (Kd.R_reads' HO_7.out).2.2 x9_2 p160 q160;cases e160;replace p160:=eq_true p160;replace q160:=eq_true q160)|(go_at_call 53;(with_reducible refine (dioramaref09_in.calls (wrap64 (x8_2+(rd t156 x9_2))) (-1099511627776) 1099511627776 false _ A27.out).mono ?_);rintro e w' ⟨rfl,⟨nd,rfl⟩⟩))
                 go_ret
                 exact ⟨by first|rfl|(simp [errW_none,errW_some] <;> rfl)|(simp [*,errW_none,errW_some] <;> rfl),by repeat (first|(with_reducible first|exact HB.out|apply below_alloc|apply pw_below_drewN|apply below_drew1|refine below_set ?_ GE148.out)|exact HB.out)⟩
               rw [if_neg c26] at H
               exact absurd H (by simp)
             rw [if_neg c25] at H
             exact absurd H (by simp)
           replace c24:=Bool.eq_false_iff.mpr c24;subst c24
           have H1:(some 1)=some r:=by rw [if_neg (show ¬ (false=true) by decide)] at H;exact H
           clear H
           have H:=H1;clear H1
           obtain rfl:=Option.some.inj H
           go_wp2_with (first|((with_reducible refine gate_callee (f:=53) rfl ?_);refine goesL_ (some 37) rfl rfl Try.func53 (by kernel_rfl) rfl #[.int .i64 x8_2,.int .i64 (-1099511627776),.int .i64 1099511627776] rfl (by (try simp only [List.map_toArray,List.map_cons,List.map_nil]);first|done|rfl|(simp only [List.length_drop,List.length_take];rfl)) ?_;(with_reducible refine (dioramaref09_in.calls x8_2 (-1099511627776) 1099511627776 false _ A23.out).mono ?_);rintro e w' ⟨rfl,⟨nd,rfl⟩⟩;refine ⟨_,rfl,?_⟩))
           go_ret
           exact ⟨by first|rfl|(simp [errW_none,errW_some] <;> rfl)|(simp [*,errW_none,errW_some] <;> rfl),by repeat (first|(with_reducible first|exact HB.out|apply below_alloc|apply pw_below_drewN|apply below_drew1|refine below_set ?_ GE148.out)|exact HB.out)⟩
         rw [if_neg c22] at H
         have c22b0:decide (x9_2 < a1)=false:=decide_eq_false c22;clear c22
         obtain rfl:=Option.some.inj H
         go_wp2
         go_ret
         exact ⟨by first|rfl|(simp [errW_none,errW_some] <;> rfl)|(simp [*,errW_none,errW_some] <;> rfl),by repeat (first|(with_reducible first|exact HB.out|apply below_alloc|apply pw_below_drewN|apply below_drew1|refine below_set ?_ GE148.out)|exact HB.out)⟩
     rw [if_neg c14] at H
     exact absurd H (by simp)
   rw [if_neg c13] at H
   exact absurd H (by simp)

end Go.Proofs.Ytmbhafgnmdfjhaa.QTab
