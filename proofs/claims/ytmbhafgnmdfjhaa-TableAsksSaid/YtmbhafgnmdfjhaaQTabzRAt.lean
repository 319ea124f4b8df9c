/- Part of a proof: functions of the program as Lean functions, and that the machine's calls come to them. Made by a program of this session (wip/mp). -/
import Derived.Test.YtmbhafgnmdfjhaaQTaby0
import Derived.Test.YtmbhafgnmdfjhaaMX
namespace Go.Proofs.Ytmbhafgnmdfjhaa.QTab
open Go.RowKit Go.Proofs.YtmbhafgnmdfjhaaV Go.Proofs.YtmbhafgnmdfjhaaW.PrintWords Go.Proofs.YtmbhafgnmdfjhaaW.PrintLast Go.Proofs.YtmbhafgnmdfjhaaW.PrintMore
attribute [local go_sem] max2_int min2_int max_two min_two max_three min_three max_four min_four   -- for this text's walks alone
set_option linter.unusedVariables false
set_option linter.unusedSimpArgs false

/-! ### dioramaref09_At: function 32 -/
def dioramaref09_At.l0 : Nat → Int → List (S51) → Int → Int → Option (Int × Int)
 | 0,_,_,_,_=>none
 | k+1,x1,x6,x8,x9=>if x9 < (x6.length:Int) then (if 0≤x9 then (if ((rd_T51 x6 x9).f0)≤x1 then (dioramaref09_At.l0 k x1 x6 x9 (wrap64 (x9+1))) else (dioramaref09_At.l0 k x1 x6 x8 (wrap64 (x9+1)))) else (none)) else (some (x8,0))
def dioramaref09_At.f (k : Nat) (a0_0 : Int) (l0_1 : List (S83)) (l0_2 : List (S83)) (l0_3 : List Int) (a0_4 : Bool) (a0_5 : Int) (l0_6 : List Int) (l0_7 : List (S86)) (l0_8 : List Int) (l0_9 : List (S83)) (l0_10 : List (List Int)) (a1 : Int) : Option (Int × Int) := (dioramaref09_Expand.f a0_0 l0_1 l0_2 l0_3 a0_4 a0_5 l0_6 l0_7 l0_8 l0_9 l0_10).bind fun bt313 => (if bt313.2 = 0 then (dioramaref09_At.l0 k a1 bt313.1 (-1) 0) else (some (0, bt313.2)))
theorem dioramaref09_At.mono_l:∀ k,(∀ y0 y1 y2 y3,LeO (dioramaref09_At.l0 k y0 y1 y2 y3) (dioramaref09_At.l0 (k+1) y0 y1 y2 y3))
 | 0=>fun _ _ _ _ r h=>by simp [dioramaref09_At.l0] at h
 | k+1=>by
  have ih0:=dioramaref09_At.mono_l k
  · intro y0 y1 y2 y3
    unfold dioramaref09_At.l0
    repeat' first
    | (with_reducible exact ih0 _ _ _ _)
    | (with_reducible exact LeO.refl _)
    | (with_reducible exact LeO.none _)
    | (with_reducible refine LeO.ite ?_ ?_)
    | (with_reducible refine LeO.bind ?_ (fun _=>?_))
    | exact LeO.none _
    | refine LeO.ite ?_ ?_
    | refine LeO.bind ?_ (fun _=>?_)
theorem dioramaref09_At.mono:∀ a0 a1 a2 a3 a4 a5 a6 a7 a8 a9 a10 a11 k,LeO (dioramaref09_At.f k a0 a1 a2 a3 a4 a5 a6 a7 a8 a9 a10 a11) (dioramaref09_At.f (k+1) a0 a1 a2 a3 a4 a5 a6 a7 a8 a9 a10 a11):=by
 intro a0 a1 a2 a3 a4 a5 a6 a7 a8 a9 a10 a11 k
 have ih0:=dioramaref09_At.mono_l k
 unfold dioramaref09_At.f
 repeat' first
  | (with_reducible exact ih0 _ _ _ _)
  | (with_reducible exact LeO.refl _)
  | (with_reducible exact LeO.none _)
  | (with_reducible refine LeO.ite ?_ ?_)
  | (with_reducible refine LeO.bind ?_ (fun _=>?_))
  | exact LeO.none _
  | refine LeO.ite ?_ ?_
  | refine LeO.bind ?_ (fun _=>?_)
set_option maxHeartbeats 8000000 in
set_option maxRecDepth 100000 in
theorem dioramaref09_At.calls (k:Nat) (a0_0:Int) (A0_1:Option Addr) (c0_1:Nat) (l0_1:List (S83)) (A0_2:Option Addr) (c0_2:Nat) (l0_2:List (S83)) (A0_3:Option Addr) (c0_3:Nat) (l0_3:List Int) (a0_4:Bool) (a0_5:Int) (A0_6:Option Addr) (c0_6:Nat) (l0_6:List Int) (A0_7:Option Addr) (c0_7:Nat) (l0_7:List (S86)) (A0_8:Option Addr) (c0_8:Nat) (l0_8:List Int) (A0_9:Option Addr) (c0_9:Nat) (l0_9:List (S83)) (A0_10:Option Addr) (c0_10:Nat) (l0_10:List (List Int)) (a1:Int) (r1:Int) (r2:Int) (w:World) (hr0_1:Kd.C k83 w A0_1 l0_1.length l0_1) (hc0_1:l0_1.length≤c0_1) (hr0_2:Kd.C k83 w A0_2 l0_2.length l0_2) (hc0_2:l0_2.length≤c0_2) (hr0_3:Kd.C (Kd.int .i64) w A0_3 l0_3.length l0_3) (hc0_3:l0_3.length≤c0_3) (hr0_6:Kd.C (Kd.int .i64) w A0_6 l0_6.length l0_6) (hc0_6:l0_6.length≤c0_6) (hr0_7:Kd.C k86 w A0_7 l0_7.length l0_7) (hc0_7:l0_7.length≤c0_7) (hr0_8:Kd.C (Kd.int .i64) w A0_8 l0_8.length l0_8) (hc0_8:l0_8.length≤c0_8) (hr0_9:Kd.C k83 w A0_9 l0_9.length l0_9) (hc0_9:l0_9.length≤c0_9) (hr0_10:Kd.C (Kd.slice 3 (Kd.int .i64)) w A0_10 l0_10.length l0_10) (hc0_10:l0_10.length≤c0_10) (h:dioramaref09_At.f k a0_0 l0_1 l0_2 l0_3 a0_4 a0_5 l0_6 l0_7 l0_8 l0_9 l0_10 a1=some (r1,r2)) :
 Calls Try.prog 32 #[.agg #[.int .i64 a0_0,.slice A0_1 l0_1.length c0_1,.slice A0_2 l0_2.length c0_2,.slice A0_3 l0_3.length c0_3,.bool a0_4,.int .i64 a0_5,.slice A0_6 l0_6.length c0_6,.slice A0_7 l0_7.length c0_7,.slice A0_8 l0_8.length c0_8,.slice A0_9 l0_9.length c0_9,.slice A0_10 l0_10.length c0_10],.int .i64 a1] w fun e w'=>e=.returned (.tuple #[.int .i64 r1,.int .i64 r2])∧Below w.heap.size w w':=by
 have hu27:=Try.underlying27
 have HR0_1:=Aside0.mk hr0_1
 have HC0_1:=Aside0.mk hc0_1;clear hr0_1 hc0_1
 have HR0_2:=Aside0.mk hr0_2
 have HC0_2:=Aside0.mk hc0_2;clear hr0_2 hc0_2
 have HR0_3:=Aside0.mk hr0_3
 have HC0_3:=Aside0.mk hc0_3;clear hr0_3 hc0_3
 have HR0_6:=Aside0.mk hr0_6
 have HC0_6:=Aside0.mk hc0_6;clear hr0_6 hc0_6
 have HR0_7:=Aside0.mk hr0_7
 have HC0_7:=Aside0.mk hc0_7;clear hr0_7 hc0_7
 have HR0_8:=Aside0.mk hr0_8
 have HC0_8:=Aside0.mk hc0_8;clear hr0_8 hc0_8
 have HR0_9:=Aside0.mk hr0_9
 have HC0_9:=Aside0.mk hc0_9;clear hr0_9 hc0_9
 have HR0_10:=Aside0.mk hr0_10
 have HC0_10:=Aside0.mk hc0_10;clear hr0_10 hc0_10;have HB:=Aside0.mk (Below.refl w.heap.size w)
 have H:((dioramaref09_Expand.f a0_0 l0_1 l0_2 l0_3 a0_4 a0_5 l0_6 l0_7 l0_8 l0_9 l0_10).bind fun bt313=>(if bt313.2=0 then (dioramaref09_At.l0 k a1 bt313.1 (-1) 0) else (some (0,bt313.2))))=some (r1,r2):=h;clear h
 replace H:=Option.bind_eq_some_iff.mp H
 obtain ⟨⟨t313,t316⟩,A30,H⟩:=H
 replace H:(if t316=0 then (dioramaref09_At.l0 k a1 t313 (-1) 0) else (some (0,t316)))=some (r1,r2):=H
 have A3:=Aside0.mk A30;clear A30
 by_cases c4:t316=0
 · rw [if_pos c4] at H
   have c4b0:(t316 == 0)=true:=beq_iff_eq.mpr c4
   have c4b1:(t316 != 0)=false:=bne_eq_false_iff_eq.mpr c4;clear c4
   have H':=Aside0.mk H;clear H
   go_enter Try.func32,Try.ntmps32
   go_wp2_with (first|((with_reducible refine gate_dst (N:=2) rfl ?_);refine box_event ?hg (N:=2) ?hd (cs:=#[.int .i64 a0_0,.slice A0_1 l0_1.length c0_1,.slice A0_2 l0_2.length c0_2,.slice A0_3 l0_3.length c0_3,.bool a0_4,.int .i64 a0_5,.slice A0_6 l0_6.length c0_6,.slice A0_7 l0_7.length c0_7,.slice A0_8 l0_8.length c0_8,.slice A0_9 l0_9.length c0_9,.slice A0_10 l0_10.length c0_10]) (t:=27) ?hr ?_;(case hd=>rfl);(case hg=>rfl);(case hr=>first|(go_simp;done)|(go_simp;rfl));intro gb312 hg w5 hbox hb;have n0_:=Aside0.mk (below_step (belV HB.out) hb);have n1_:=Aside0.mk (hbox);have n2_:=Aside0.mk ((by rw [hg];exact (below_size (belV HB.out)):w.heap.size≤gb312));have n3_:=Aside0.mk ((by rw [hg];exact (below_size (belV HB.out)):w.heap.size≤gb312));clear HB;have HB:=n0_;have BK312:=n1_;have GW312:=n2_;have GE312:=n3_;clear n0_ n1_ n2_ n3_;clear hb hbox hg;obtain ⟨hcz6_0,hcz6_1,hcz6_2,hcz6_3,hcz6_4,hcz6_5,hcz6_6,hcz6_7,hcz6_8,hcz6_9,hcz6_10,hfz6_0,hfz6_1,hfz6_2,hfz6_3,hfz6_4,hfz6_5,hfz6_6,hfz6_7,hfz6_8,hfz6_9,hfz6_10⟩:=bcells11 BK312.out)|((with_reducible refine gate_callee (f:=26) rfl ?_);refine goesL_ (some 12) rfl rfl Try.func26 (by kernel_rfl) rfl #[.agg #[.int .i64 a0_0,.slice A0_1 l0_1.length c0_1,.slice A0_2 l0_2.length c0_2,.slice A0_3 l0_3.length c0_3,.bool a0_4,.int .i64 a0_5,.slice A0_6 l0_6.length c0_6,.slice A0_7 l0_7.length c0_7,.slice A0_8 l0_8.length c0_8,.slice A0_9 l0_9.length c0_9,.slice A0_10 l0_10.length c0_10]] rfl (by (try simp only [List.map_toArray,List.map_cons,List.map_nil]);first|done|rfl|(simp only [List.length_drop,List.length_take];rfl)) ?_;(with_reducible refine (dioramaref09_Expand.calls a0_0 _ _ l0_1 _ _ l0_2 _ _ l0_3 a0_4 a0_5 _ _ l0_6 _ _ l0_7 _ _ l0_8 _ _ l0_9 _ _ l0_10 t313 t316 _ ?side1 ?side2 ?side3 ?side4 ?side5 ?side6 ?side7 ?side8 ?side9 ?side10 ?side11 ?side12 ?side13 ?side14 ?side15 ?side16 A3.out).mono ?_);(case side1=>exact cV (Kd.C_below HR0_1.out HB.out));(case side2=>exact HC0_1.out);(case side3=>exact cV (Kd.C_below HR0_2.out HB.out));(case side4=>exact HC0_2.out);(case side5=>exact cV (Kd.C_below HR0_3.out HB.out));(case side6=>exact HC0_3.out);(case side7=>exact cV (Kd.C_below HR0_6.out HB.out));(case side8=>exact HC0_6.out);(case side9=>exact cV (Kd.C_below HR0_7.out HB.out));(case side10=>exact HC0_7.out);(case side11=>exact cV (Kd.C_below HR0_8.out HB.out));(case side12=>exact HC0_8.out);(case side13=>exact cV (Kd.C_below HR0_9.out HB.out));(case side14=>exact HC0_9.out);(case side15=>exact cV (Kd.C_below HR0_10.out HB.out));(case side16=>exact HC0_10.out);rintro e w7 ⟨v314,rfl,ho0,hb⟩;refine ⟨_,rfl,?_⟩;have n0_:=Aside0.mk (Kd.S_lower ho0 (below_size (belV1 HB.out GE312.out)));have n1_:=Aside0.mk (blk_below (g:=gb312) (blkV BK312.out) hb);have n2_:=Aside0.mk (below_step (belV1 HB.out GE312.out) hb);clear BK312;clear HB;have HO315:=n0_;have BK312:=n1_;have HB:=n2_;clear n0_ n1_ n2_;(try clear hb);(try clear hb2);(try clear hk);(try clear hi);(try clear ho0)))
   go_loopg [8,9] k (fun kq v8 v9 w'=>∃ (x8_1:Int) (x9_1:Int),v8=.int .i64 x8_1∧v9=.int .i64 x9_1∧Aside0 (dioramaref09_At.l0 kq a1 t313 x8_1 x9_1=some (r1,r2))∧Aside0 (kq≤k)∧Aside0 (Kd.S k51 51 w' w.heap.size (fun _=>True) v314 t313)∧Aside0 (w'.heap[gb312]?=some (.cells #[.int .i64 a0_0,(.slice A0_1 l0_1.length c0_1),(.slice A0_2 l0_2.length c0_2),(.slice A0_3 l0_3.length c0_3),.bool a0_4,.int .i64 a0_5,(.slice A0_6 l0_6.length c0_6),(.slice A0_7 l0_7.length c0_7),(.slice A0_8 l0_8.length c0_8),(.slice A0_9 l0_9.length c0_9),(.slice A0_10 l0_10.length c0_10)] 27 (0,0)))∧Aside0 (Below w.heap.size w w'))
   case atStart=>exact ⟨((-1)),(0),okV,okV,H',⟨Nat.le_refl _⟩,⟨by (with_reducible repeat (first|apply Kd.S_alloc|apply Kd.S_drewN|apply Kd.S_drew));exact HO315.out⟩,⟨blkV BK312.out⟩,⟨belV1 HB.out GE312.out⟩⟩
   case round =>
    clear H'
    try clear c2;try clear p2;try clear c3;try clear c4;try clear c4b0;try clear c4b1;try clear hcz6_0 hcz6_1 hcz6_10 hcz6_2 hcz6_3 hcz6_4 hcz6_5 hcz6_6 hcz6_7 hcz6_8 hcz6_9;try clear hfz6_0 hfz6_1 hfz6_10 hfz6_2 hfz6_3 hfz6_4 hfz6_5 hfz6_6 hfz6_7 hfz6_8 hfz6_9
    obtain ⟨x8_1,x9_1,rfl,rfl,HA,HK1,HO_6,BK312,HB⟩:=hrel
    cases gk with
    | zero=>exact absurd HA.out (by simp [dioramaref09_At.l0])
    | succ k1 =>
     have H:=HA.out;clear HA
     simp only [dioramaref09_At.l0] at H
     by_cases c8:x9_1 < (t313.length:Int)
     · rw [if_pos c8] at H
       have c8b0:decide (x9_1 < (t313.length:Int))=true:=decide_eq_true c8;clear c8
       by_cases c9:0≤x9_1
       · rw [if_pos c9] at H
         have c9b0:decide (0≤x9_1)=true:=decide_eq_true c9;clear c9
         by_cases c10:((rd_T51 t313 x9_1).f0)≤a1
         · rw [if_pos c10] at H
           have c10b0:decide (((rd_T51 t313 x9_1).f0)≤a1)=true:=decide_eq_true c10;clear c10
           have H':=Aside0.mk H;clear H
           obtain ⟨Ao11,co11,eo11⟩:=Kd.S_slice HO_6.out;subst eo11
           have p317:0≤(x9_1:Int):=of_decide_eq_true asV
           have q317:x9_1 < (t313.length:Int):=of_decide_eq_true asV
           obtain ⟨ad317,A317_7,c317_7,e317,hx317_0,hx317_1,hx317_2,hx317_3,hx317_4,hx317_5,hx317_6,hx317_7,hl317_7,hi317_7⟩:=at_T51 (Kd.S_reads' HO_6.out).2.2 x9_1 p317 q317
           cases e317
           obtain ⟨ce317,hce317,hMe317,hcc317⟩:=Kd.S_get HO_6.out z51 x9_1 p317 (by first|exact q317|exact of_decide_eq_true asV|(have e_:=(Kd.S_reads' HO_6.out).1;omega))
           obtain ⟨ve317_7,rfl,ge317_7⟩:=k51_openM hMe317
           have hv317_7:=hcc317 7 _ rfl
           rw [add_field _ _ 7 (by omega)] at hv317_7
           replace hv317_7:=Option.some.inj (hv317_7.symm.trans hx317_7)
           rw [hv317_7] at ge317_7
           have HL317_7:=Aside0.mk (show Kd.R (Kd.int .i64) 3 _ _ _ _ ((rd_T51 t313 x9_1).f7) from ge317_7);clear hv317_7 ge317_7;clear hcc317 hce317
           have HR317_7:=Aside0.mk hi317_7
           have HC317_7:=Aside0.mk hl317_7;clear hi317_7 hl317_7
           replace p317:=eq_true p317
           replace q317:=eq_true q317
           go_wp2
           go_roundg k1
           case measure=>have:=HK1.out;omega
           case rel=>exact ⟨(x9_1),(wrap64 (x9_1+1)),okV,okV,H',⟨by have:=HK1.out;omega⟩,⟨by (with_reducible repeat (first|apply Kd.S_alloc|apply Kd.S_drewN|apply Kd.S_drew));exact HO_6.out⟩,⟨blkV BK312.out⟩,⟨belV1 HB.out GE312.out⟩⟩
         rw [if_neg c10] at H
         have c10b0:decide (((rd_T51 t313 x9_1).f0)≤a1)=false:=decide_eq_false c10;clear c10
         have H':=Aside0.mk H;clear H
         obtain ⟨Ao12,co12,eo12⟩:=Kd.S_slice HO_6.out;subst eo12
         have p317:0≤(x9_1:Int):=of_decide_eq_true asV
         have q317:x9_1 < (t313.length:Int):=of_decide_eq_true asV
         obtain ⟨ad317,A317_7,c317_7,e317,hx317_0,hx317_1,hx317_2,hx317_3,hx317_4,hx317_5,hx317_6,hx317_7,hl317_7,hi317_7⟩:=at_T51 (Kd.S_reads' HO_6.out).2.2 x9_1 p317 q317
         cases e317
         obtain ⟨ce317,hce317,hMe317,hcc317⟩:=Kd.S_get HO_6.out z51 x9_1 p317 (by first|exact q317|exact of_decide_eq_true asV|(have e_:=(Kd.S_reads' HO_6.out).1;omega))
         obtain ⟨ve317_7,rfl,ge317_7⟩:=k51_openM hMe317
         have hv317_7:=hcc317 7 _ rfl
         rw [add_field _ _ 7 (by omega)] at hv317_7
         replace hv317_7:=Option.some.inj (hv317_7.symm.trans hx317_7)
         rw [hv317_7] at ge317_7
         have HL317_7:=Aside0.mk (show Kd.R (Kd.int .i64) 3 _ _ _ _ ((rd_T51 t313 x9_1).f7) from ge317_7);clear hv317_7 ge317_7;clear hcc317 hce317
         have HR317_7:=Aside0.mk hi317_7
         have HC317_7:=Aside0.mk hl317_7;clear hi317_7 hl317_7
         replace p317:=eq_true p317
         replace q317:=eq_true q317
         go_wp2
         go_roundg k1
         case measure=>have:=HK1.out;omega
         case rel=>exact ⟨(x8_1),(wrap64 (x9_1+1)),okV,okV,H',⟨by have:=HK1.out;omega⟩,⟨by (with_reducible repeat (first|apply Kd.S_alloc|apply Kd.S_drewN|apply Kd.S_drew));exact HO_6.out⟩,⟨blkV BK312.out⟩,⟨belV1 HB.out GE312.out⟩⟩
       rw [if_neg c9] at H
       exact absurd H (by simp)
     rw [if_neg c8] at H
     have c8b0:decide (x9_1 < (t313.length:Int))=false:=decide_eq_false c8;clear c8
     simp only [Option.some.injEq,Prod.mk.injEq] at H
     obtain ⟨rfl,rfl⟩:=H
     obtain ⟨Ao13,co13,eo13⟩:=Kd.S_slice HO_6.out;subst eo13
     go_wp2
     go_ret2
     exact ⟨by first|rfl|(simp [errW_none,errW_some] <;> rfl)|(simp [*,errW_none,errW_some] <;> rfl),by repeat (first|(with_reducible first|exact HB.out|apply below_alloc|apply pw_below_drewN|apply below_drew1|refine below_set ?_ GE312.out)|exact HB.out)⟩
 rw [if_neg c4] at H
 have c4b0:(t316 == 0)=false:=beq_eq_false_iff_ne.mpr c4
 have c4b1:(t316 != 0)=true:=bne_iff_ne.mpr c4
 simp only [Option.some.injEq,Prod.mk.injEq] at H
 obtain ⟨rfl,rfl⟩:=H
 go_enter Try.func32,Try.ntmps32
 go_wp2_with (first|((with_reducible refine gate_dst (N:=2) rfl ?_);refine box_event ?hg (N:=2) ?hd (cs:=#[.int .i64 a0_0,.slice A0_1 l0_1.length c0_1,.slice A0_2 l0_2.length c0_2,.slice A0_3 l0_3.length c0_3,.bool a0_4,.int .i64 a0_5,.slice A0_6 l0_6.length c0_6,.slice A0_7 l0_7.length c0_7,.slice A0_8 l0_8.length c0_8,.slice A0_9 l0_9.length c0_9,.slice A0_10 l0_10.length c0_10]) (t:=27) ?hr ?_;(case hd=>rfl);(case hg=>rfl);(case hr=>first|(go_simp;done)|(go_simp;rfl));intro gb312 hg w14 hbox hb;have n0_:=Aside0.mk (below_step (belV HB.out) hb);have n1_:=Aside0.mk (hbox);have n2_:=Aside0.mk ((by rw [hg];exact (below_size (belV HB.out)):w.heap.size≤gb312));have n3_:=Aside0.mk ((by rw [hg];exact (below_size (belV HB.out)):w.heap.size≤gb312));clear HB;have HB:=n0_;have BK312:=n1_;have GW312:=n2_;have GE312:=n3_;clear n0_ n1_ n2_ n3_;clear hb hbox hg;obtain ⟨hcz15_0,hcz15_1,hcz15_2,hcz15_3,hcz15_4,hcz15_5,hcz15_6,hcz15_7,hcz15_8,hcz15_9,hcz15_10,hfz15_0,hfz15_1,hfz15_2,hfz15_3,hfz15_4,hfz15_5,hfz15_6,hfz15_7,hfz15_8,hfz15_9,hfz15_10⟩:=bcells11 BK312.out)|((with_reducible refine gate_callee (f:=26) rfl ?_);refine goesL_ (some 12) rfl rfl Try.func26 (by kernel_rfl) rfl #[.agg #[.int .i64 a0_0,.slice A0_1 l0_1.length c0_1,.slice A0_2 l0_2.length c0_2,.slice A0_3 l0_3.length c0_3,.bool a0_4,.int .i64 a0_5,.slice A0_6 l0_6.length c0_6,.slice A0_7 l0_7.length c0_7,.slice A0_8 l0_8.length c0_8,.slice A0_9 l0_9.length c0_9,.slice A0_10 l0_10.length c0_10]] rfl (by (try simp only [List.map_toArray,List.map_cons,List.map_nil]);first|done|rfl|(simp only [List.length_drop,List.length_take];rfl)) ?_;(with_reducible refine (dioramaref09_Expand.calls a0_0 _ _ l0_1 _ _ l0_2 _ _ l0_3 a0_4 a0_5 _ _ l0_6 _ _ l0_7 _ _ l0_8 _ _ l0_9 _ _ l0_10 t313 t316 _ ?side1 ?side2 ?side3 ?side4 ?side5 ?side6 ?side7 ?side8 ?side9 ?side10 ?side11 ?side12 ?side13 ?side14 ?side15 ?side16 A3.out).mono ?_);(case side1=>exact cV (Kd.C_below HR0_1.out HB.out));(case side2=>exact HC0_1.out);(case side3=>exact cV (Kd.C_below HR0_2.out HB.out));(case side4=>exact HC0_2.out);(case side5=>exact cV (Kd.C_below HR0_3.out HB.out));(case side6=>exact HC0_3.out);(case side7=>exact cV (Kd.C_below HR0_6.out HB.out));(case side8=>exact HC0_6.out);(case side9=>exact cV (Kd.C_below HR0_7.out HB.out));(case side10=>exact HC0_7.out);(case side11=>exact cV (Kd.C_below HR0_8.out HB.out));(case side12=>exact HC0_8.out);(case side13=>exact cV (Kd.C_below HR0_9.out HB.out));(case side14=>exact HC0_9.out);(case side15=>exact cV (Kd.C_below HR0_10.out HB.out));(case side16=>exact HC0_10.out);rintro e w16 ⟨v314,rfl,ho0,hb⟩;refine ⟨_,rfl,?_⟩;have n0_:=Aside0.mk (Kd.S_lower ho0 (below_size (belV1 HB.out GE312.out)));have n1_:=Aside0.mk (blk_below (g:=gb312) (blkV BK312.out) hb);have n2_:=Aside0.mk (below_step (belV1 HB.out GE312.out) hb);clear BK312;clear HB;have HO315:=n0_;have BK312:=n1_;have HB:=n2_;clear n0_ n1_ n2_;(try clear hb);(try clear hb2);(try clear hk);(try clear hi);(try clear ho0)))
 go_ret2
 exact ⟨by first|rfl|(simp [errW_none,errW_some] <;> rfl)|(simp [*,errW_none,errW_some] <;> rfl),by repeat (first|(with_reducible first|exact HB.out|apply below_alloc|apply pw_below_drewN|apply below_drew1|refine below_set ?_ GE312.out)|exact HB.out)⟩

end Go.Proofs.Ytmbhafgnmdfjhaa.QTab
