/- Part of a proof: functions of the program as Lean functions, and that the machine's calls come to them. Made by a program of this session (wip/mp). -/
import Derived.Test.YtaebgjdaoloceaaQBmpBx0
import Derived.Test.YtaebgjdaoloceaaQBmpBx2
import Derived.Test.YtaebgjdaoloceaaQBmpBx3
import Derived.Test.YtaebgjdaoloceaaQBmpBx4
namespace Go.Proofs.Ytaebgjdaoloceaa.QBmpB
open Go.RowKit Go.Proofs.YtaebgjdaoloceaaV Go.Proofs.YtaebgjdaoloceaaW.PrintWords Go.Proofs.YtaebgjdaoloceaaW.PrintLast Go.Proofs.YtaebgjdaoloceaaW.PrintMore
attribute [local go_sem] max2_int min2_int max_two min_two max_three min_three max_four min_four   -- for this text's walks alone
set_option linter.unusedVariables false
set_option linter.unusedSimpArgs false

/-! ### dioramalaw19_BitmapBursts: function 8 -/
mutual
def dioramalaw19_BitmapBursts.j0 : Nat → Int → Int → Bool → Bool → List Int → List (S91) → Option (Bool)
 | 0,_,_,_,_,_,_=>none
 | k+1,x1,x2,x22,x284000,x284001,x284002=>if x22=true then ((dioramalaw19_awake.f k).bind fun t285=>(some t285)) else ((bitmap_Encode.f k x284000 x284001 x284002).bind fun bt286=>(if bt286.2=0 then (dioramalaw19_BitmapBursts.j1 k x1 x2 bt286.1 bt286.2 (decide ((bt286.1.length:Int) < 5))) else (dioramalaw19_BitmapBursts.j1 k x1 x2 bt286.1 bt286.2 true)))
def dioramalaw19_BitmapBursts.j1 : Nat → Int → Int → List Int → Int → Bool → Option (Bool)
 | 0,_,_,_,_,_=>none
 | k+1,x1,x2,x7,x8,x35=>if x35=true then (if x8=0 then (some false) else ((dioramalaw19_awake.f k).bind fun t290=>(some t290))) else ((dioramaref00_CopyBytes.f k x7).bind fun t291=>((dioramaref00_Within.f x1 (wrap64 (8*(wrap64 ((x7.length:Int) - 4))))).bind fun t294=>(dioramalaw19_BitmapBursts.l0 k x2 t291 (wrap64 (8*(wrap64 ((x7.length:Int) - 4)))) t294 false 0)))
def dioramalaw19_BitmapBursts.l0 : Nat → Int → List Int → Int → Int → Bool → Int → Option (Bool)
 | 0,_,_,_,_,_,_=>none
 | k+1,x2,x9,x10,x11,x12,x13=>if x13 < 32 then (dioramalaw19_BitmapBursts.j3 k x2 x9 x10 x11 x12 x13 (decide ((wrap64 (x11+x13)) < x10))) else (dioramalaw19_BitmapBursts.j3 k x2 x9 x10 x11 x12 x13 false)
def dioramalaw19_BitmapBursts.j3 : Nat → Int → List Int → Int → Int → Bool → Int → Bool → Option (Bool)
 | 0,_,_,_,_,_,_,_=>none
 | k+1,x2,x9,x10,x11,x12,x13,x58=>if x58=true then (if 0≤(IntKind.u64.wrap (x13)) then (if (Go.bits .and .u32 (shr .u32 x2 (IntKind.u64.wrap (x13))) 1)=1 then (if 0≤(wrap64 (Int.tdiv (wrap64 (x11+x13)) 8)) then (if (wrap64 (Int.tdiv (wrap64 (x11+x13)) 8)) < (x9.length:Int) then (if 0≤(IntKind.u64.wrap (Int.tmod (wrap64 (x11+x13)) 8)) then (dioramalaw19_BitmapBursts.l0 k x2 (x9.set ((wrap64 (Int.tdiv (wrap64 (x11+x13)) 8)):Int).toNat (Go.bits .xor .u8 (rd x9 (wrap64 (Int.tdiv (wrap64 (x11+x13)) 8))) (shl .u8 1 (IntKind.u64.wrap (Int.tmod (wrap64 (x11+x13)) 8))))) x10 x11 true (wrap64 (x13+1))) else (none)) else (none)) else (none)) else (dioramalaw19_BitmapBursts.l0 k x2 x9 x10 x11 x12 (wrap64 (x13+1)))) else (none)) else ((bitmap_Decode.f k x9).bind fun bt297=>(if x12=true then (if bt297.2.2.2=6 then ((dioramalaw19_awake.f k).bind fun t306=>(some t306)) else (some false)) else ((dioramalaw19_awake.f k).bind fun t307=>(some t307))))
end
def dioramalaw19_BitmapBursts.f (k : Nat) (a0_0 : Bool) (l0_1 : List Int) (l0_2 : List (S91)) (a1 : Int) (a2 : Int) : Option (Bool) := (dioramalaw19_small.f k a0_0 l0_1 l0_2).bind fun t284 => (if t284 = true then (dioramalaw19_BitmapBursts.j0 k a1 a2 (a2 == 0) a0_0 l0_1 l0_2) else (dioramalaw19_BitmapBursts.j0 k a1 a2 true a0_0 l0_1 l0_2))
theorem dioramalaw19_BitmapBursts.mono_l:∀ k,(∀ y0 y1 y2 y3 y4 y5,LeO (dioramalaw19_BitmapBursts.j0 k y0 y1 y2 y3 y4 y5) (dioramalaw19_BitmapBursts.j0 (k+1) y0 y1 y2 y3 y4 y5))∧(∀ y0 y1 y2 y3 y4,LeO (dioramalaw19_BitmapBursts.j1 k y0 y1 y2 y3 y4) (dioramalaw19_BitmapBursts.j1 (k+1) y0 y1 y2 y3 y4))∧(∀ y0 y1 y2 y3 y4 y5,LeO (dioramalaw19_BitmapBursts.l0 k y0 y1 y2 y3 y4 y5) (dioramalaw19_BitmapBursts.l0 (k+1) y0 y1 y2 y3 y4 y5))∧(∀ y0 y1 y2 y3 y4 y5 y6,LeO (dioramalaw19_BitmapBursts.j3 k y0 y1 y2 y3 y4 y5 y6) (dioramalaw19_BitmapBursts.j3 (k+1) y0 y1 y2 y3 y4 y5 y6))
 | 0=>⟨fun _ _ _ _ _ _ r h=>by simp [dioramalaw19_BitmapBursts.j0] at h,fun _ _ _ _ _ r h=>by simp [dioramalaw19_BitmapBursts.j1] at h,fun _ _ _ _ _ _ r h=>by simp [dioramalaw19_BitmapBursts.l0] at h,fun _ _ _ _ _ _ _ r h=>by simp [dioramalaw19_BitmapBursts.j3] at h⟩
 | k+1=>by
  obtain ⟨ih0,ih1,ih2,ih3⟩:=dioramalaw19_BitmapBursts.mono_l k
  refine ⟨?_,?_,?_,?_⟩
  · intro y0 y1 y2 y3 y4 y5
    unfold dioramalaw19_BitmapBursts.j0
    repeat' first
    | (with_reducible exact ih0 _ _ _ _ _ _)
    | (with_reducible exact ih1 _ _ _ _ _)
    | (with_reducible exact ih2 _ _ _ _ _ _)
    | (with_reducible exact ih3 _ _ _ _ _ _ _)
    | (with_reducible exact bitmap_Decode.mono _ _)
    | (with_reducible exact bitmap_Encode.mono _ _ _ _)
    | (with_reducible exact dioramalaw19_awake.mono _)
    | (with_reducible exact dioramalaw19_small.mono _ _ _ _)
    | (with_reducible exact dioramaref00_CopyBytes.mono _ _)
    | (with_reducible exact LeO.refl _)
    | (with_reducible exact LeO.none _)
    | (with_reducible refine LeO.ite ?_ ?_)
    | (with_reducible refine LeO.bind ?_ (fun _=>?_))
    | exact LeO.none _
    | refine LeO.ite ?_ ?_
    | refine LeO.bind ?_ (fun _=>?_)
  · intro y0 y1 y2 y3 y4
    unfold dioramalaw19_BitmapBursts.j1
    repeat' first
    | (with_reducible exact ih0 _ _ _ _ _ _)
    | (with_reducible exact ih1 _ _ _ _ _)
    | (with_reducible exact ih2 _ _ _ _ _ _)
    | (with_reducible exact ih3 _ _ _ _ _ _ _)
    | (with_reducible exact bitmap_Decode.mono _ _)
    | (with_reducible exact bitmap_Encode.mono _ _ _ _)
    | (with_reducible exact dioramalaw19_awake.mono _)
    | (with_reducible exact dioramalaw19_small.mono _ _ _ _)
    | (with_reducible exact dioramaref00_CopyBytes.mono _ _)
    | (with_reducible exact LeO.refl _)
    | (with_reducible exact LeO.none _)
    | (with_reducible refine LeO.ite ?_ ?_)
    | (with_reducible refine LeO.bind ?_ (fun _=>?_))
    | exact LeO.none _
    | refine LeO.ite ?_ ?_
    | refine LeO.bind ?_ (fun _=>?_)
  · intro y0 y1 y2 y3 y4 y5
    unfold dioramalaw19_BitmapBursts.l0
    repeat' first
    | (with_reducible exact ih0 _ _ _ _ _ _)
    | (with_reducible exact ih1 _ _ _ _ _)
    | (with_reducible exact ih2 _ _ _ _ _ _)
    | (with_reducible exact ih3 _ _ _ _ _ _ _)
    | (with_reducible exact bitmap_Decode.mono _ _)
    | (with_reducible exact bitmap_Encode.mono _ _ _ _)
    | (with_reducible exact dioramalaw19_awake.mono _)
    | (with_reducible exact dioramalaw19_small.mono _ _ _ _)
    | (with_reducible exact dioramaref00_CopyBytes.mono _ _)
    | (with_reducible exact LeO.refl _)
    | (with_reducible exact LeO.none _)
    | (with_reducible refine LeO.ite ?_ ?_)
    | (with_reducible refine LeO.bind ?_ (fun _=>?_))
    | exact LeO.none _
    | refine LeO.ite ?_ ?_
    | refine LeO.bind ?_ (fun _=>?_)
  intro y0 y1 y2 y3 y4 y5 y6
  unfold dioramalaw19_BitmapBursts.j3
  repeat' first
  | (with_reducible exact ih0 _ _ _ _ _ _)
  | (with_reducible exact ih1 _ _ _ _ _)
  | (with_reducible exact ih2 _ _ _ _ _ _)
  | (with_reducible exact ih3 _ _ _ _ _ _ _)
  | (with_reducible exact bitmap_Decode.mono _ _)
  | (with_reducible exact bitmap_Encode.mono _ _ _ _)
  | (with_reducible exact dioramalaw19_awake.mono _)
  | (with_reducible exact dioramalaw19_small.mono _ _ _ _)
  | (with_reducible exact dioramaref00_CopyBytes.mono _ _)
  | (with_reducible exact LeO.refl _)
  | (with_reducible exact LeO.none _)
  | (with_reducible refine LeO.ite ?_ ?_)
  | (with_reducible refine LeO.bind ?_ (fun _=>?_))
  | exact LeO.none _
  | refine LeO.ite ?_ ?_
  | refine LeO.bind ?_ (fun _=>?_)
theorem dioramalaw19_BitmapBursts.mono:∀ a0 a1 a2 a3 a4 k,LeO (dioramalaw19_BitmapBursts.f k a0 a1 a2 a3 a4) (dioramalaw19_BitmapBursts.f (k+1) a0 a1 a2 a3 a4):=by
 intro a0 a1 a2 a3 a4 k
 obtain ⟨ih0,ih1,ih2,ih3⟩:=dioramalaw19_BitmapBursts.mono_l k
 unfold dioramalaw19_BitmapBursts.f
 repeat' first
  | (with_reducible exact ih0 _ _ _ _ _ _)
  | (with_reducible exact ih1 _ _ _ _ _)
  | (with_reducible exact ih2 _ _ _ _ _ _)
  | (with_reducible exact ih3 _ _ _ _ _ _ _)
  | (with_reducible exact bitmap_Decode.mono _ _)
  | (with_reducible exact bitmap_Encode.mono _ _ _ _)
  | (with_reducible exact dioramalaw19_awake.mono _)
  | (with_reducible exact dioramalaw19_small.mono _ _ _ _)
  | (with_reducible exact dioramaref00_CopyBytes.mono _ _)
  | (with_reducible exact LeO.refl _)
  | (with_reducible exact LeO.none _)
  | (with_reducible refine LeO.ite ?_ ?_)
  | (with_reducible refine LeO.bind ?_ (fun _=>?_))
  | exact LeO.none _
  | refine LeO.ite ?_ ?_
  | refine LeO.bind ?_ (fun _=>?_)
set_option maxHeartbeats 8000000 in
set_option maxRecDepth 100000 in
theorem dioramalaw19_BitmapBursts.calls (k:Nat) (a0_0:Bool) (A0_1:Option Addr) (c0_1:Nat) (l0_1:List Int) (A0_2:Option Addr) (c0_2:Nat) (l0_2:List (S91)) (a1:Int) (a2:Int) (r:Bool) (w:World) (hr0_1:Kd.C (Kd.int .i64) w A0_1 l0_1.length l0_1) (hc0_1:l0_1.length≤c0_1) (hr0_2:Kd.C k91 w A0_2 l0_2.length l0_2) (hc0_2:l0_2.length≤c0_2) (h:dioramalaw19_BitmapBursts.f k a0_0 l0_1 l0_2 a1 a2=some r) :
 Calls Try.prog 8 #[.agg #[.bool a0_0,.slice A0_1 l0_1.length c0_1,.slice A0_2 l0_2.length c0_2],.int .i64 a1,.int .u32 a2] w fun e w'=>e=.returned (.bool r)∧Below w.heap.size w w':=by
 have hu51:=Try.underlying51
 have HR0_1:=Aside0.mk hr0_1
 have HC0_1:=Aside0.mk hc0_1;clear hr0_1 hc0_1
 have HR0_2:=Aside0.mk hr0_2
 have HC0_2:=Aside0.mk hc0_2;clear hr0_2 hc0_2;have HB:=Aside0.mk (Below.refl w.heap.size w)
 have H:((dioramalaw19_small.f k a0_0 l0_1 l0_2).bind fun t284=>(if t284=true then (dioramalaw19_BitmapBursts.j0 k a1 a2 (a2 == 0) a0_0 l0_1 l0_2) else (dioramalaw19_BitmapBursts.j0 k a1 a2 true a0_0 l0_1 l0_2)))=some r:=h;clear h
 have HC4:=Aside0.mk H;clear H
 go_enter Try.func8,Try.ntmps8
 go_upto_region 1 with (first|((with_reducible refine gate_dst (N:=3) rfl ?_);(try (refine gate_guard (by rfl) ?_;dsimp only));refine box_event ?hg (N:=3) ?hd (cs:=#[.bool a0_0,.slice A0_1 l0_1.length c0_1,.slice A0_2 l0_2.length c0_2]) (t:=51) ?hr ?_;(case hd=>rfl);(case hg=>rfl);(case hr=>first|(go_simp;done)|(go_simp;rfl));intro gb283 hg w5 hbox hb;have n0_:=Aside0.mk (below_step (belV HB.out) hb);have n1_:=Aside0.mk (hbox);have n2_:=Aside0.mk ((by rw [hg];exact (below_size (belV HB.out)):w.heap.size≤gb283));have n3_:=Aside0.mk ((by rw [hg];exact (below_size (belV HB.out)):w.heap.size≤gb283));clear HB;have HB:=n0_;have BK283:=n1_;have GW283:=n2_;have GE283:=n3_;clear n0_ n1_ n2_ n3_;clear hb hbox hg))
 (try simp only [Act.put,List.setIfInBounds_toArray,List.set_cons_zero,List.set_cons_succ])
 go_cut [22] (fun v22 wc=>∃ (kq:Nat) (x22_3:Bool),v22=.bool x22_3∧Aside0 (dioramalaw19_BitmapBursts.j0 kq a1 a2 x22_3 a0_0 l0_1 l0_2=some r)∧Aside0 (kq≤k)∧Aside0 (wc.heap[gb283]?=some (.cells #[.bool a0_0,(.slice A0_1 l0_1.length c0_1),(.slice A0_2 l0_2.length c0_2)] 51 (0,0)))∧Aside0 (Below w.heap.size w wc))
 case first =>
  have H:=HC4.out;clear HC4
  replace H:=Option.bind_eq_some_iff.mp H
  obtain ⟨t284,A60,H⟩:=H
  replace H:(if t284=true then (dioramalaw19_BitmapBursts.j0 k a1 a2 (a2 == 0) a0_0 l0_1 l0_2) else (dioramalaw19_BitmapBursts.j0 k a1 a2 true a0_0 l0_1 l0_2))=some r:=H
  have A6:=Aside0.mk A60;clear A60
  by_cases c7:t284=true
  · subst c7
    have H1:(dioramalaw19_BitmapBursts.j0 k a1 a2 (a2 == 0) a0_0 l0_1 l0_2)=some r:=by rw [if_pos rfl] at H;exact H
    clear H
    have H:=H1;clear H1
    have H':=Aside0.mk H;clear H
    obtain ⟨hcz8_0,hcz8_1,hcz8_2,hfz8_0,hfz8_1,hfz8_2⟩:=bcells3 BK283.out
    go_wp2_with (first|((with_reducible refine gate_callee (f:=25) rfl ?_);refine goesL_ (some 17) rfl rfl Try.func25 (by kernel_rfl) rfl #[.agg #[.bool a0_0,.slice A0_1 l0_1.length c0_1,.slice A0_2 l0_2.length c0_2]] rfl (by (try simp only [List.map_toArray,List.map_cons,List.map_nil]);first|done|rfl|(simp only [List.length_drop,List.length_take];rfl)) ?_;(with_reducible refine (dioramalaw19_small.calls k a0_0 _ _ l0_1 _ _ l0_2 true _ ?side1 ?side2 ?side3 ?side4 A6.out).mono ?_);(case side1=>exact cV (Kd.C_below HR0_1.out HB.out));(case side2=>exact HC0_1.out);(case side3=>exact cV (Kd.C_below HR0_2.out HB.out));(case side4=>exact HC0_2.out);rintro e w9 ⟨rfl,hb⟩;refine ⟨_,rfl,?_⟩;have n0_:=Aside0.mk (blk_below (g:=gb283) (blkV BK283.out) hb);have n1_:=Aside0.mk (below_step (belV1 HB.out GE283.out) hb);clear BK283;clear HB;have BK283:=n0_;have HB:=n1_;clear n0_ n1_;(try clear hb);(try clear hb2);(try clear hk);(try clear hi)))
    go_meet
    case rel=>exact ⟨_,((a2 == 0)),okV,H',⟨by first|omega|exact Nat.le_refl _⟩,⟨blkV BK283.out⟩,⟨belV1 HB.out GE283.out⟩⟩
  replace c7:=Bool.eq_false_iff.mpr c7;subst c7
  have H1:(dioramalaw19_BitmapBursts.j0 k a1 a2 true a0_0 l0_1 l0_2)=some r:=by rw [if_neg (show ¬ (false=true) by decide)] at H;exact H
  clear H
  have H:=H1;clear H1
  have H':=Aside0.mk H;clear H
  obtain ⟨hcz10_0,hcz10_1,hcz10_2,hfz10_0,hfz10_1,hfz10_2⟩:=bcells3 BK283.out
  go_wp2_with (first|((with_reducible refine gate_callee (f:=25) rfl ?_);refine goesL_ (some 17) rfl rfl Try.func25 (by kernel_rfl) rfl #[.agg #[.bool a0_0,.slice A0_1 l0_1.length c0_1,.slice A0_2 l0_2.length c0_2]] rfl (by (try simp only [List.map_toArray,List.map_cons,List.map_nil]);first|done|rfl|(simp only [List.length_drop,List.length_take];rfl)) ?_;(with_reducible refine (dioramalaw19_small.calls k a0_0 _ _ l0_1 _ _ l0_2 false _ ?side1 ?side2 ?side3 ?side4 A6.out).mono ?_);(case side1=>exact cV (Kd.C_below HR0_1.out HB.out));(case side2=>exact HC0_1.out);(case side3=>exact cV (Kd.C_below HR0_2.out HB.out));(case side4=>exact HC0_2.out);rintro e w11 ⟨rfl,hb⟩;refine ⟨_,rfl,?_⟩;have n0_:=Aside0.mk (blk_below (g:=gb283) (blkV BK283.out) hb);have n1_:=Aside0.mk (below_step (belV1 HB.out GE283.out) hb);clear BK283;clear HB;have BK283:=n0_;have HB:=n1_;clear n0_ n1_;(try clear hb);(try clear hb2);(try clear hk);(try clear hi)))
  go_meet
  case rel=>exact ⟨_,(true),okV,H',⟨by first|omega|exact Nat.le_refl _⟩,⟨blkV BK283.out⟩,⟨belV1 HB.out GE283.out⟩⟩
 case rest =>
  clear HC4
  try clear c2;try clear p2;try clear c7;try clear c8;try clear hcz10_0 hcz10_1 hcz10_2;try clear hcz8_0 hcz8_1 hcz8_2;try clear hfz10_0 hfz10_1 hfz10_2;try clear hfz8_0 hfz8_1 hfz8_2
  obtain ⟨kq,x22_3,rfl,HA,HJ3,BK283,HB⟩:=hcut
  cases kq with
  | zero=>exact absurd HA.out (by simp [dioramalaw19_BitmapBursts.j0])
  | succ kj3 =>
   have H:=HA.out;clear HA
   simp only [dioramalaw19_BitmapBursts.j0] at H
   by_cases c12:x22_3=true
   · subst c12
     have H1:((dioramalaw19_awake.f kj3).bind fun t285=>(some t285))=some r:=by rw [if_pos rfl] at H;exact H
     clear H
     have H:=H1;clear H1
     replace H:=Option.bind_eq_some_iff.mp H
     obtain ⟨t285,A130,H⟩:=H
     replace H:(some t285)=some r:=H
     have A13:=Aside0.mk A130;clear A130
     obtain rfl:=Option.some.inj H
     go_wp2_with (first|((with_reducible refine gate_callee (f:=17) rfl ?_);refine goesL_ (some 23) rfl rfl Try.func17 (by kernel_rfl) rfl #[] rfl (by (try simp only [List.map_toArray,List.map_cons,List.map_nil]);first|done|rfl|(simp only [List.length_drop,List.length_take];rfl)) ?_;(with_reducible refine (dioramalaw19_awake.calls kj3  t285 _ A13.out).mono ?_);rintro e w14 ⟨rfl,hb⟩;refine ⟨_,rfl,?_⟩;have n0_:=Aside0.mk (blk_below (g:=gb283) (blkV BK283.out) hb);have n1_:=Aside0.mk (below_step (belV1 HB.out GE283.out) hb);clear BK283;clear HB;have BK283:=n0_;have HB:=n1_;clear n0_ n1_;(try clear hb);(try clear hb2);(try clear hk);(try clear hi)))
     go_ret
     exact ⟨by first|rfl|(simp [errW_none,errW_some] <;> rfl)|(simp [*,errW_none,errW_some] <;> rfl),by repeat (first|(with_reducible first|exact HB.out|apply below_alloc|apply pw_below_drewN|apply below_drew1|refine below_set ?_ GE283.out)|exact HB.out)⟩
   replace c12:=Bool.eq_false_iff.mpr c12;subst c12
   have H1:((bitmap_Encode.f kj3 a0_0 l0_1 l0_2).bind fun bt286=>(if bt286.2=0 then (dioramalaw19_BitmapBursts.j1 kj3 a1 a2 bt286.1 bt286.2 (decide ((bt286.1.length:Int) < 5))) else (dioramalaw19_BitmapBursts.j1 kj3 a1 a2 bt286.1 bt286.2 true)))=some r:=by rw [if_neg (show ¬ (false=true) by decide)] at H;exact H
   clear H
   have H:=H1;clear H1
   replace H:=Option.bind_eq_some_iff.mp H
   obtain ⟨⟨t286,t289⟩,A150,H⟩:=H
   replace H:(if t289=0 then (dioramalaw19_BitmapBursts.j1 kj3 a1 a2 t286 t289 (decide ((t286.length:Int) < 5))) else (dioramalaw19_BitmapBursts.j1 kj3 a1 a2 t286 t289 true))=some r:=H
   have A15:=Aside0.mk A150;clear A150
   have HC16:=Aside0.mk H;clear H
   obtain ⟨hcz17_0,hcz17_1,hcz17_2,hfz17_0,hfz17_1,hfz17_2⟩:=bcells3 BK283.out
   go_upto_region 4 with (first|((with_reducible refine gate_callee (f:=35) rfl ?_);refine goesL_ (some 26) rfl rfl Try.func35 (by kernel_rfl) rfl #[.agg #[.bool a0_0,.slice A0_1 l0_1.length c0_1,.slice A0_2 l0_2.length c0_2]] rfl (by (try simp only [List.map_toArray,List.map_cons,List.map_nil]);first|done|rfl|(simp only [List.length_drop,List.length_take];rfl)) ?_;(with_reducible refine (bitmap_Encode.calls kj3 a0_0 _ _ l0_1 _ _ l0_2 t286 t289 _ ?side1 ?side2 ?side3 ?side4 A15.out).mono ?_);(case side1=>exact cV (Kd.C_below HR0_1.out HB.out));(case side2=>exact HC0_1.out);(case side3=>exact cV (Kd.C_below HR0_2.out HB.out));(case side4=>exact HC0_2.out);rintro e w18 ⟨v287,rfl,ho0,hb⟩;refine ⟨_,rfl,?_⟩;have n0_:=Aside0.mk (Kd.R_lower ho0 (below_size (belV1 HB.out GE283.out)));have n1_:=Aside0.mk (blk_below (g:=gb283) (blkV BK283.out) hb);have n2_:=Aside0.mk (below_step (belV1 HB.out GE283.out) hb);clear BK283;clear HB;have HO288:=n0_;have BK283:=n1_;have HB:=n2_;clear n0_ n1_ n2_;(try clear hb);(try clear hb2);(try clear hk);(try clear hi);(try clear ho0)))
   (try simp only [Act.put,List.setIfInBounds_toArray,List.set_cons_zero,List.set_cons_succ])
   go_cut [35] (fun v35 wc=>∃ (kq:Nat) (x35_15:Bool),v35=.bool x35_15∧Aside0 (dioramalaw19_BitmapBursts.j1 kq a1 a2 t286 t289 x35_15=some r)∧Aside0 (kq≤kj3)∧Aside0 (Kd.R (Kd.int .u8) 5 wc w.heap.size (fun _=>True) v287 t286)∧Aside0 (wc.heap[gb283]?=some (.cells #[.bool a0_0,(.slice A0_1 l0_1.length c0_1),(.slice A0_2 l0_2.length c0_2)] 51 (0,0)))∧Aside0 (Below w.heap.size w wc))
   case first =>
    have H:=HC16.out;clear HC16
    by_cases c19:t289=0
    · rw [if_pos c19] at H
      have c19b0:(t289 == 0)=true:=beq_iff_eq.mpr c19
      have c19b1:(t289 != 0)=false:=bne_eq_false_iff_eq.mpr c19;clear c19
      (first|rw [c19b0]|(simp only [i64_w,i32_w];rw [c19b0])|rw [c19b1]|skip)
      have H':=Aside0.mk H;clear H
      obtain ⟨Ao20,co20,eo20⟩:=Kd.R_slice HO288.out;subst eo20
      go_wp2
      go_meet
      case rel=>exact ⟨_,(decide ((t286.length:Int) < 5)),okV,H',⟨by have:=HJ3.out;first|omega|exact Nat.le_refl _⟩,⟨rowV HO288.out⟩,⟨blkV BK283.out⟩,⟨belV1 HB.out GE283.out⟩⟩
    rw [if_neg c19] at H
    have c19b0:(t289 == 0)=false:=beq_eq_false_iff_ne.mpr c19
    have c19b1:(t289 != 0)=true:=bne_iff_ne.mpr c19
    (first|rw [c19b0]|(simp only [i64_w,i32_w];rw [c19b0])|rw [c19b1]|skip)
    have H':=Aside0.mk H;clear H
    go_wp2
    go_meet
    case rel=>exact ⟨_,(true),okV,H',⟨by have:=HJ3.out;first|omega|exact Nat.le_refl _⟩,⟨rowV HO288.out⟩,⟨blkV BK283.out⟩,⟨belV1 HB.out GE283.out⟩⟩
   case rest =>
    clear HC16
    try clear c1;try clear c2;try clear p2 p2;try clear c3;try clear c7;try clear c8;try clear c12;try clear c17;try clear c19;try clear c19b0;try clear c19b1;try clear hcz10_0 hcz10_1 hcz10_2;try clear hcz17_0 hcz17_1 hcz17_2;try clear hcz8_0 hcz8_1 hcz8_2;try clear hfz10_0 hfz10_1 hfz10_2;try clear hfz17_0 hfz17_1 hfz17_2;try clear hfz8_0 hfz8_1 hfz8_2
    obtain ⟨kq,x35_15,rfl,HA,HJ15,HO_7,BK283,HB⟩:=hcut
    cases kq with
    | zero=>exact absurd HA.out (by simp [dioramalaw19_BitmapBursts.j1])
    | succ kj15 =>
     have H:=HA.out;clear HA
     simp only [dioramalaw19_BitmapBursts.j1] at H
     by_cases c21:x35_15=true
     · subst c21
       have H1:(if t289=0 then (some false) else ((dioramalaw19_awake.f kj15).bind fun t290=>(some t290)))=some r:=by rw [if_pos rfl] at H;exact H
       clear H
       have H:=H1;clear H1
       by_cases c22:t289=0
       · rw [if_pos c22] at H
         have c22b0:(t289 == 0)=true:=beq_iff_eq.mpr c22
         have c22b1:(t289 != 0)=false:=bne_eq_false_iff_eq.mpr c22;clear c22
         obtain rfl:=Option.some.inj H
         go_wp2
         go_ret
         exact ⟨by first|rfl|(simp [errW_none,errW_some] <;> rfl)|(simp [*,errW_none,errW_some] <;> rfl),by repeat (first|(with_reducible first|exact HB.out|apply below_alloc|apply pw_below_drewN|apply below_drew1|refine below_set ?_ GE283.out)|exact HB.out)⟩
       rw [if_neg c22] at H
       have c22b0:(t289 == 0)=false:=beq_eq_false_iff_ne.mpr c22
       have c22b1:(t289 != 0)=true:=bne_iff_ne.mpr c22
       replace H:=Option.bind_eq_some_iff.mp H
       obtain ⟨t290,A230,H⟩:=H
       replace H:(some t290)=some r:=H
       have A23:=Aside0.mk A230;clear A230
       obtain rfl:=Option.some.inj H
       go_wp2_with (first|(go_at_call 17;(with_reducible refine (dioramalaw19_awake.calls kj15  t290 _ A23.out).mono ?_);rintro e w24 ⟨rfl,hb⟩;have n0_:=Aside0.mk (Kd.R_below (rowV HO_7.out) hb);have n1_:=Aside0.mk (blk_below (g:=gb283) (blkV BK283.out) hb);have n2_:=Aside0.mk (below_step (belV1 HB.out GE283.out) hb);clear HO_7;clear BK283;clear HB;have HO_7:=n0_;have BK283:=n1_;have HB:=n2_;clear n0_ n1_ n2_;(try clear hb);(try clear hb2);(try clear hk);(try clear hi)))
       go_ret
       exact ⟨by first|rfl|(simp [errW_none,errW_some] <;> rfl)|(simp [*,errW_none,errW_some] <;> rfl),by repeat (first|(with_reducible first|exact HB.out|apply below_alloc|apply pw_below_drewN|apply below_drew1|refine below_set ?_ GE283.out)|exact HB.out)⟩
     replace c21:=Bool.eq_false_iff.mpr c21;subst c21
     have H1:((dioramaref00_CopyBytes.f kj15 t286).bind fun t291=>((dioramaref00_Within.f a1 (wrap64 (8*(wrap64 ((t286.length:Int) - 4))))).bind fun t294=>(dioramalaw19_BitmapBursts.l0 kj15 a2 t291 (wrap64 (8*(wrap64 ((t286.length:Int) - 4)))) t294 false 0)))=some r:=by rw [if_neg (show ¬ (false=true) by decide)] at H;exact H
     clear H
     have H:=H1;clear H1
     replace H:=Option.bind_eq_some_iff.mp H
     obtain ⟨t291,A250,H⟩:=H
     replace H:((dioramaref00_Within.f a1 (wrap64 (8*(wrap64 ((t286.length:Int) - 4))))).bind fun t294=>(dioramalaw19_BitmapBursts.l0 kj15 a2 t291 (wrap64 (8*(wrap64 ((t286.length:Int) - 4)))) t294 false 0))=some r:=H
     have A25:=Aside0.mk A250;clear A250
     replace H:=Option.bind_eq_some_iff.mp H
     obtain ⟨t294,A260,H⟩:=H
     replace H:(dioramalaw19_BitmapBursts.l0 kj15 a2 t291 (wrap64 (8*(wrap64 ((t286.length:Int) - 4)))) t294 false 0)=some r:=H
     have A26:=Aside0.mk A260;clear A260
     have H':=Aside0.mk H;clear H
     obtain ⟨Ao27,co27,eo27⟩:=Kd.R_slice HO_7.out;subst eo27
     go_wp2_with (first|((with_reducible refine gate_callee (f:=36) rfl ?_);refine goesL_ (some 42) rfl rfl Try.func36 (by kernel_rfl) rfl #[.slice Ao27 t286.length co27] rfl (by (try simp only [List.map_toArray,List.map_cons,List.map_nil]);first|done|rfl|(simp only [List.length_drop,List.length_take];rfl)) ?_;(with_reducible refine (dioramaref00_CopyBytes.calls kj15 _ _ t286 t291 _ ?side1 ?side2 A25.out).mono ?_);(case side1=>exact cV (Kd.R_reads' HO_7.out).2.2);(case side2=>exact (Kd.R_reads' HO_7.out).2.1);rintro e w28 ⟨v292,rfl,ho0,hb⟩;refine ⟨_,rfl,?_⟩;have n0_:=Aside0.mk (Kd.R_elder' (rowV HO_7.out) (Kd.R_base ho0) hb);have n1_:=Aside0.mk (Kd.R_lower (Kd.R_new' ho0 (Kd.R_lt (rowV HO_7.out))) (below_size (belV1 HB.out GE283.out)));have n2_:=Aside0.mk (blk_below (g:=gb283) (blkV BK283.out) hb);have n3_:=Aside0.mk (below_step (belV1 HB.out GE283.out) hb);clear HO_7;clear BK283;clear HB;have HO_7:=n0_;have HO293:=n1_;have BK283:=n2_;have HB:=n3_;clear n0_ n1_ n2_ n3_;(try clear hb);(try clear hb2);(try clear hk);(try clear hi);(try clear ho0))|((with_reducible refine gate_callee (f:=37) rfl ?_);refine goesL_ (some 49) rfl rfl Try.func37 (by kernel_rfl) rfl #[.int .i64 a1,.int .i64 (wrap64 (8*(wrap64 ((t286.length:Int) - 4))))] rfl (by (try simp only [List.map_toArray,List.map_cons,List.map_nil]);first|done|rfl|(simp only [List.length_drop,List.length_take];rfl)) ?_;(with_reducible refine (dioramaref00_Within.calls a1 (wrap64 (8*(wrap64 ((t286.length:Int) - 4)))) t294 _ A26.out).mono ?_);rintro e w' ⟨rfl,⟨nd,rfl⟩⟩;refine ⟨_,rfl,?_⟩))
     go_loopg [12,13] kj15 (fun kq v12 v13 w'=>∃ (x9_3:List Int) (x12_3:Bool) (x13_3:Int),v12=.bool x12_3∧v13=.int .i64 x13_3∧Aside0 (dioramalaw19_BitmapBursts.l0 kq a2 x9_3 (wrap64 (8*(wrap64 ((t286.length:Int) - 4)))) t294 x12_3 x13_3=some r)∧Aside0 (kq≤kj15)∧Aside0 (Kd.R (Kd.int .u8) 5 w' w.heap.size (fun _=>True) v292 x9_3)∧Aside0 (w'.heap[gb283]?=some (.cells #[.bool a0_0,(.slice A0_1 l0_1.length c0_1),(.slice A0_2 l0_2.length c0_2)] 51 (0,0)))∧Aside0 (Below w.heap.size w w'))
     case atStart=>exact ⟨(t291),(false),(0),okV,okV,H',⟨Nat.le_refl _⟩,⟨by (with_reducible repeat (first|apply Kd.R_alloc|apply Kd.R_drewN|apply Kd.R_drew));exact Kd.R_mono HO293.out (fun _ hk=>trivial)⟩,⟨blkV BK283.out⟩,⟨belV1 HB.out GE283.out⟩⟩
     case round =>
      clear H'
      try clear c1;try clear c2;try clear p2 p2;try clear c3;try clear p6;try clear c7;try clear c8;try clear c12;try clear c17;try clear c19;try clear c19b0;try clear c19b1;try clear c21;try clear c22;try clear c22b0;try clear c22b1;try clear c25;try clear hcz10_0 hcz10_1 hcz10_2;try clear hcz17_0 hcz17_1 hcz17_2;try clear hcz8_0 hcz8_1 hcz8_2;try clear hfz10_0 hfz10_1 hfz10_2;try clear hfz17_0 hfz17_1 hfz17_2;try clear hfz8_0 hfz8_1 hfz8_2
      obtain ⟨x9_3,x12_3,x13_3,rfl,rfl,HA,HK3,HO_9,BK283,HB⟩:=hrel
      cases gk with
      | zero=>exact absurd HA.out (by simp [dioramalaw19_BitmapBursts.l0])
      | succ k3 =>
       have H:=HA.out;clear HA
       simp only [dioramalaw19_BitmapBursts.l0] at H
       have HC29:=Aside0.mk H;clear H
       go_upto_region 11 with (fail)
       go_cut [58] (fun v58 wc=>∃ (kq:Nat) (x58_28:Bool),v58=.bool x58_28∧Aside0 (dioramalaw19_BitmapBursts.j3 kq a2 x9_3 (wrap64 (8*(wrap64 ((t286.length:Int) - 4)))) t294 x12_3 x13_3 x58_28=some r)∧Aside0 (kq≤k3)∧Aside0 (Kd.R (Kd.int .u8) 5 wc w.heap.size (fun _=>True) v292 x9_3)∧Aside0 (wc.heap[gb283]?=some (.cells #[.bool a0_0,(.slice A0_1 l0_1.length c0_1),(.slice A0_2 l0_2.length c0_2)] 51 (0,0)))∧Aside0 (Below w.heap.size w wc))
       case first =>
        have H:=HC29.out;clear HC29
        by_cases c30:x13_3 < 32
        · rw [if_pos c30] at H
          have c30b0:decide (x13_3 < 32)=true:=decide_eq_true c30;clear c30
          (first|rw [c30b0]|(simp only [i64_w,i32_w];rw [c30b0])|rw [c30b1]|skip)
          have H':=Aside0.mk H;clear H
          go_wp2
          go_meet
          case rel=>exact ⟨_,(decide ((wrap64 (t294+x13_3)) < (wrap64 (8*(wrap64 ((t286.length:Int) - 4)))))),okV,H',⟨by have:=HJ3.out;have:=HJ15.out;have:=HK3.out;first|omega|exact Nat.le_refl _⟩,⟨rowV HO_9.out⟩,⟨blkV BK283.out⟩,⟨belV1 HB.out GE283.out⟩⟩
        rw [if_neg c30] at H
        have c30b0:decide (x13_3 < 32)=false:=decide_eq_false c30;clear c30
        (first|rw [c30b0]|(simp only [i64_w,i32_w];rw [c30b0])|rw [c30b1]|skip)
        have H':=Aside0.mk H;clear H
        go_wp2
        go_meet
        case rel=>exact ⟨_,(false),okV,H',⟨by have:=HJ3.out;have:=HJ15.out;have:=HK3.out;first|omega|exact Nat.le_refl _⟩,⟨rowV HO_9.out⟩,⟨blkV BK283.out⟩,⟨belV1 HB.out GE283.out⟩⟩
       case rest =>
        clear HC29
        try clear c1;try clear c2;try clear p2 p2;try clear c3;try clear p6 p6;try clear c7;try clear c8;try clear c12;try clear c17;try clear c19;try clear c19b0;try clear c19b1;try clear c21;try clear c22;try clear c22b0;try clear c22b1;try clear c25;try clear c30;try clear c30b0;try clear c30b1;try clear hcz10_0 hcz10_1 hcz10_2;try clear hcz17_0 hcz17_1 hcz17_2;try clear hcz8_0 hcz8_1 hcz8_2;try clear hfz10_0 hfz10_1 hfz10_2;try clear hfz17_0 hfz17_1 hfz17_2;try clear hfz8_0 hfz8_1 hfz8_2
        obtain ⟨kq,x58_28,rfl,HA,HJ28,HO_9,BK283,HB⟩:=hcut
        cases kq with
        | zero=>exact absurd HA.out (by simp [dioramalaw19_BitmapBursts.j3])
        | succ kj28 =>
         have H:=HA.out;clear HA
         simp only [dioramalaw19_BitmapBursts.j3] at H
         by_cases c31:x58_28=true
         · subst c31
           have H1:(if 0≤(IntKind.u64.wrap (x13_3)) then (if (Go.bits .and .u32 (shr .u32 a2 (IntKind.u64.wrap (x13_3))) 1)=1 then (if 0≤(wrap64 (Int.tdiv (wrap64 (t294+x13_3)) 8)) then (if (wrap64 (Int.tdiv (wrap64 (t294+x13_3)) 8)) < (x9_3.length:Int) then (if 0≤(IntKind.u64.wrap (Int.tmod (wrap64 (t294+x13_3)) 8)) then (dioramalaw19_BitmapBursts.l0 kj28 a2 (x9_3.set ((wrap64 (Int.tdiv (wrap64 (t294+x13_3)) 8)):Int).toNat (Go.bits .xor .u8 (rd x9_3 (wrap64 (Int.tdiv (wrap64 (t294+x13_3)) 8))) (shl .u8 1 (IntKind.u64.wrap (Int.tmod (wrap64 (t294+x13_3)) 8))))) (wrap64 (8*(wrap64 ((t286.length:Int) - 4)))) t294 true (wrap64 (x13_3+1))) else (none)) else (none)) else (none)) else (dioramalaw19_BitmapBursts.l0 kj28 a2 x9_3 (wrap64 (8*(wrap64 ((t286.length:Int) - 4)))) t294 x12_3 (wrap64 (x13_3+1)))) else (none))=some r:=by rw [if_pos rfl] at H;exact H
           clear H
           have H:=H1;clear H1
           obtain ⟨ji32,hji32⟩:∃ j_:Int,(IntKind.u64.wrap (x13_3))=j_:=⟨_,rfl⟩
           replace H:(if 0≤(ji32) then (if (Go.bits .and .u32 (shr .u32 a2 (ji32)) 1)=1 then (if 0≤(wrap64 (Int.tdiv (wrap64 (t294+x13_3)) 8)) then (if (wrap64 (Int.tdiv (wrap64 (t294+x13_3)) 8)) < (x9_3.length:Int) then (if 0≤(IntKind.u64.wrap (Int.tmod (wrap64 (t294+x13_3)) 8)) then (dioramalaw19_BitmapBursts.l0 kj28 a2 (x9_3.set ((wrap64 (Int.tdiv (wrap64 (t294+x13_3)) 8)):Int).toNat (Go.bits .xor .u8 (rd x9_3 (wrap64 (Int.tdiv (wrap64 (t294+x13_3)) 8))) (shl .u8 1 (IntKind.u64.wrap (Int.tmod (wrap64 (t294+x13_3)) 8))))) (wrap64 (8*(wrap64 ((t286.length:Int) - 4)))) t294 true (wrap64 (x13_3+1))) else (none)) else (none)) else (none)) else (dioramalaw19_BitmapBursts.l0 kj28 a2 x9_3 (wrap64 (8*(wrap64 ((t286.length:Int) - 4)))) t294 x12_3 (wrap64 (x13_3+1)))) else (none))=some r:=by first|(rw [hji32] at H;exact H)|(simp only [hji32] at H ⊢;exact H)
           by_cases c33:0≤(ji32)
           · rw [if_pos c33] at H
             have c33b0:=eq_true c33
             have c33b1:decide (0≤(ji32))=true:=decide_eq_true c33;clear c33
             obtain ⟨ji34,hji34⟩:∃ j_:Int,(shr .u32 a2 (ji32))=j_:=⟨_,rfl⟩
             replace H:(if (Go.bits .and .u32 (ji34) 1)=1 then (if 0≤(wrap64 (Int.tdiv (wrap64 (t294+x13_3)) 8)) then (if (wrap64 (Int.tdiv (wrap64 (t294+x13_3)) 8)) < (x9_3.length:Int) then (if 0≤(IntKind.u64.wrap (Int.tmod (wrap64 (t294+x13_3)) 8)) then (dioramalaw19_BitmapBursts.l0 kj28 a2 (x9_3.set ((wrap64 (Int.tdiv (wrap64 (t294+x13_3)) 8)):Int).toNat (Go.bits .xor .u8 (rd x9_3 (wrap64 (Int.tdiv (wrap64 (t294+x13_3)) 8))) (shl .u8 1 (IntKind.u64.wrap (Int.tmod (wrap64 (t294+x13_3)) 8))))) (wrap64 (8*(wrap64 ((t286.length:Int) - 4)))) t294 true (wrap64 (x13_3+1))) else (none)) else (none)) else (none)) else (dioramalaw19_BitmapBursts.l0 kj28 a2 x9_3 (wrap64 (8*(wrap64 ((t286.length:Int) - 4)))) t294 x12_3 (wrap64 (x13_3+1))))=some r:=by first|(rw [hji34] at H;exact H)|(simp only [hji34] at H ⊢;exact H)
             have hji34_:(a2 / 2 ^ min (ji32).toNat 32)=ji34:=hji34
             have hji34z:(ji32)≤32→(a2 / 2 ^ (ji32).toNat)=ji34:=shr_small hji34
             by_cases c35:(Go.bits .and .u32 (ji34) 1)=1
             · rw [if_pos c35] at H
               have c35b0:((Go.bits .and .u32 (ji34) 1) == 1)=true:=beq_iff_eq.mpr c35
               have c35b1:((Go.bits .and .u32 (ji34) 1) != 1)=false:=bne_eq_false_iff_eq.mpr c35;clear c35
               obtain ⟨ji36,hji36⟩:∃ j_:Int,(wrap64 (Int.tdiv (wrap64 (t294+x13_3)) 8))=j_:=⟨_,rfl⟩
               replace H:(if 0≤(ji36) then (if (ji36) < (x9_3.length:Int) then (if 0≤(IntKind.u64.wrap (Int.tmod (wrap64 (t294+x13_3)) 8)) then (dioramalaw19_BitmapBursts.l0 kj28 a2 (x9_3.set ((ji36):Int).toNat (Go.bits .xor .u8 (rd x9_3 (ji36)) (shl .u8 1 (IntKind.u64.wrap (Int.tmod (wrap64 (t294+x13_3)) 8))))) (wrap64 (8*(wrap64 ((t286.length:Int) - 4)))) t294 true (wrap64 (x13_3+1))) else (none)) else (none)) else (none))=some r:=by first|(rw [hji36] at H;exact H)|(simp only [hji36] at H ⊢;exact H)
               have hji36w:(IntKind.i64.wrap (Int.tdiv (wrap64 (t294+x13_3)) 8))=ji36:=(i64_w _).trans hji36
               by_cases c37:0≤(ji36)
               · rw [if_pos c37] at H
                 have c37b0:decide (0≤(ji36))=true:=decide_eq_true c37;clear c37
                 by_cases c38:(ji36) < (x9_3.length:Int)
                 · rw [if_pos c38] at H
                   have c38b0:decide ((ji36) < (x9_3.length:Int))=true:=decide_eq_true c38;clear c38
                   obtain ⟨ji39,hji39⟩:∃ j_:Int,(IntKind.u64.wrap (Int.tmod (wrap64 (t294+x13_3)) 8))=j_:=⟨_,rfl⟩
                   replace H:(if 0≤(ji39) then (dioramalaw19_BitmapBursts.l0 kj28 a2 (x9_3.set ((ji36):Int).toNat (Go.bits .xor .u8 (rd x9_3 (ji36)) (shl .u8 1 (ji39)))) (wrap64 (8*(wrap64 ((t286.length:Int) - 4)))) t294 true (wrap64 (x13_3+1))) else (none))=some r:=by first|(rw [hji39] at H;exact H)|(simp only [hji39] at H ⊢;exact H)
                   by_cases c40:0≤(ji39)
                   · rw [if_pos c40] at H
                     have c40b0:=eq_true c40
                     have c40b1:decide (0≤(ji39))=true:=decide_eq_true c40;clear c40
                     obtain ⟨ji41,hji41⟩:∃ j_:Int,(shl .u8 1 (ji39))=j_:=⟨_,rfl⟩
                     replace H:(dioramalaw19_BitmapBursts.l0 kj28 a2 (x9_3.set ((ji36):Int).toNat (Go.bits .xor .u8 (rd x9_3 (ji36)) (ji41))) (wrap64 (8*(wrap64 ((t286.length:Int) - 4)))) t294 true (wrap64 (x13_3+1)))=some r:=by first|(rw [hji41] at H;exact H)|(simp only [hji41] at H ⊢;exact H)
                     have hji41_:(IntKind.u8.wrap (1*2 ^ min (ji39).toNat 8))=ji41:=hji41
                     have hji41z:(ji39)≤8→(IntKind.u8.wrap (1*2 ^ (ji39).toNat))=ji41:=shl_small hji41
                     have hji41u:(IntKind.u8.wrap (2 ^ min (ji39).toNat 8))=ji41:=by have h_:=hji41_;rw [Int.one_mul] at h_;exact h_
                     have hji41v:(ji39)≤8→(IntKind.u8.wrap (2 ^ (ji39).toNat))=ji41:=fun hle_=>by have h_:=hji41z hle_;rw [Int.one_mul] at h_;exact h_
                     obtain ⟨y296,hy296⟩:∃ y_:List Int,y_=(x9_3.set ((ji36):Int).toNat (Go.bits .xor .u8 (rd x9_3 (ji36)) (ji41))):=⟨_,rfl⟩
                     replace H:(dioramalaw19_BitmapBursts.l0 kj28 a2 y296 (wrap64 (8*(wrap64 ((t286.length:Int) - 4)))) t294 true (wrap64 (x13_3+1)))=some r:=by first|(rw [hy296];with_reducible exact H)|(have H2_:=(Option.bind_some _ _).symm.trans H;rw [hy296];with_reducible exact H2_)|(have H2_:=(Option.bind_some _ _).symm.trans H;with_reducible exact H2_)|with_reducible exact H|(rw [hy296];exact H)|exact H
                     have Ny296:=Aside0.mk hy296;clear hy296
                     have H':=Aside0.mk H;clear H
                     obtain ⟨Ao43,co43,eo43⟩:=Kd.R_slice HO_9.out;subst eo43
                     have p295:0≤((ji36):Int):=of_decide_eq_true asV
                     have q295:(ji36) < (x9_3.length:Int):=of_decide_eq_true asV
                     obtain ⟨ad295,e295,hx295_0⟩:=Kd.at_int (Kd.R_reads' HO_9.out).2.2 (ji36) p295 q295
                     cases e295
                     replace p295:=eq_true p295
                     replace q295:=eq_true q295
                     have p42:0≤((ji36):Int):=of_decide_eq_true asV
                     have q42:((ji36):Int) < ((x9_3.length:Int):Int):=of_decide_eq_true asV
                     obtain ⟨go42,co42,eo42,gb42,gl42,cl42,HG42⟩:=Kd.R_form HO_9.out (by omega)
                     (first|cases eo42|(injection eo42 with ea_ en_ ec_;(first|subst ea_|(injection ea_ with ea_;subst ea_));subst ec_;clear en_))
                     have GB42:=Aside0.mk gb42
                     have GG42:=Aside0.mk HG42;clear gb42 gl42 HG42
                     (first|simp only [add_plain] at hx295_0|skip)
                     obtain ⟨hx42_0,hf42_0⟩:=Kd.R_celln 0 HO_9.out ((ji36):Int) p42 q42
                     replace p42:=eq_true p42
                     replace q42:=eq_true q42
                     have HP44:=Kd.R_putg HO_9.out ((ji36):Int) (Go.bits .xor .u8 (rd x9_3 (ji36)) (ji41))
                     go_wp2_with (first|((with_reducible refine gate_store (t:=5) (p:=86) rfl ?_);refine store_event (t:=5) (p:=86) (v:=?vo_w45) (w1:=(wc.setCell ⟨go42,((ji36):Int).toNat,none⟩ (.int .u8 (Go.bits .xor .u8 (rd x9_3 (ji36)) (ji41))))) ?hg ?ho ?hn ?hr ?_;(case ho=>rfl);(case hg=>rfl);(case hn=>rfl);(case hr=>first|(go_simp;done)|(go_simp;rfl));intro w45 hw;have hg:wc.grownBy w45 (some go42):=(by rw [hw];exact HP44.2);have hp_:Kd.R (Kd.int .u8) 5 w45 w.heap.size (fun _=>True) (.slice (some ⟨go42,0,none⟩) x9_3.length co43) y296:=(by rw [hw,Ny296.out];exact HP44.1);clear HP44;have n0_:=Aside0.mk (hp_);have n1_:=Aside0.mk (blk_grown (g:=gb283) (blkV BK283.out) hg (Kd.R_ne HO_9.out BK283.out (by decide)));have n2_:=Aside0.mk ((by rw [hw];exact below_set (HB.out) GB42.out:Below w.heap.size w w45));clear HO_9;clear BK283;clear HB;have HO_9:=n0_;have BK283:=n1_;have HB:=n2_;clear n0_ n1_ n2_;clear hg hw hp_))
                     go_roundg kj28
                     case measure=>have:=HJ3.out;have:=HJ15.out;have:=HK3.out;have:=HJ28.out;omega
                     case rel=>exact ⟨(y296),(true),(wrap64 (x13_3+1)),okV,okV,H',⟨by have:=HJ3.out;have:=HJ15.out;have:=HK3.out;have:=HJ28.out;omega⟩,⟨rowV HO_9.out⟩,⟨blkV BK283.out⟩,⟨belV1 HB.out GE283.out⟩⟩
                   rw [if_neg c40] at H
                   exact absurd H (by simp)
                 rw [if_neg c38] at H
                 exact absurd H (by simp)
               rw [if_neg c37] at H
               exact absurd H (by simp)
             rw [if_neg c35] at H
             have c35b0:((Go.bits .and .u32 (ji34) 1) == 1)=false:=beq_eq_false_iff_ne.mpr c35
             have c35b1:((Go.bits .and .u32 (ji34) 1) != 1)=true:=bne_iff_ne.mpr c35
             have H':=Aside0.mk H;clear H
             go_wp2
             go_roundg kj28
             case measure=>have:=HJ3.out;have:=HJ15.out;have:=HK3.out;have:=HJ28.out;omega
             case rel=>exact ⟨(x9_3),(x12_3),(wrap64 (x13_3+1)),okV,okV,H',⟨by have:=HJ3.out;have:=HJ15.out;have:=HK3.out;have:=HJ28.out;omega⟩,⟨rowV HO_9.out⟩,⟨blkV BK283.out⟩,⟨belV1 HB.out GE283.out⟩⟩
           rw [if_neg c33] at H
           exact absurd H (by simp)
         replace c31:=Bool.eq_false_iff.mpr c31;subst c31
         have H1:((bitmap_Decode.f kj28 x9_3).bind fun bt297=>(if x12_3=true then (if bt297.2.2.2=6 then ((dioramalaw19_awake.f kj28).bind fun t306=>(some t306)) else (some false)) else ((dioramalaw19_awake.f kj28).bind fun t307=>(some t307))))=some r:=by rw [if_neg (show ¬ (false=true) by decide)] at H;exact H
         clear H
         have H:=H1;clear H1
         replace H:=Option.bind_eq_some_iff.mp H
         obtain ⟨⟨t297,t298,t301,t304⟩,A460,H⟩:=H
         replace H:(if x12_3=true then (if t304=6 then ((dioramalaw19_awake.f kj28).bind fun t306=>(some t306)) else (some false)) else ((dioramalaw19_awake.f kj28).bind fun t307=>(some t307)))=some r:=H
         have A46:=Aside0.mk A460;clear A460
         by_cases c47:x12_3=true
         · subst c47
           have H1:(if t304=6 then ((dioramalaw19_awake.f kj28).bind fun t306=>(some t306)) else (some false))=some r:=by rw [if_pos rfl] at H;exact H
           clear H
           have H:=H1;clear H1
           by_cases c48:t304=6
           · rw [if_pos c48] at H
             have c48b0:(t304 == 6)=true:=beq_iff_eq.mpr c48
             have c48b1:(t304 != 6)=false:=bne_eq_false_iff_eq.mpr c48;clear c48
             replace H:=Option.bind_eq_some_iff.mp H
             obtain ⟨t306,A490,H⟩:=H
             replace H:(some t306)=some r:=H
             have A49:=Aside0.mk A490;clear A490
             obtain rfl:=Option.some.inj H
             obtain ⟨Ao50,co50,eo50⟩:=Kd.R_slice HO_9.out;subst eo50
             go_wp2_with (first|((with_reducible refine gate_callee (f:=26) rfl ?_);refine goesL_ (some 89) rfl rfl Try.func26 (by kernel_rfl) rfl #[.slice Ao50 x9_3.length co50] rfl (by (try simp only [List.map_toArray,List.map_cons,List.map_nil]);first|done|rfl|(simp only [List.length_drop,List.length_take];rfl)) ?_;(with_reducible refine (bitmap_Decode.calls kj28 _ _ x9_3 t297 t298 t301 t304 _ ?side1 ?side2 A46.out).mono ?_);(case side1=>exact cV (Kd.R_reads' HO_9.out).2.2);(case side2=>exact (Kd.R_reads' HO_9.out).2.1);rintro e w51 ⟨v299,v302,rfl,ho0,ho1,hb⟩;refine ⟨_,rfl,?_⟩;have n0_:=Aside0.mk (Kd.R_below (rowV HO_9.out) hb);have n1_:=Aside0.mk (Kd.R_lower ho0 (below_size (belV1 HB.out GE283.out)));have n2_:=Aside0.mk (Kd.S_lower ho1 (below_size (belV1 HB.out GE283.out)));have n3_:=Aside0.mk (blk_below (g:=gb283) (blkV BK283.out) hb);have n4_:=Aside0.mk (below_step (belV1 HB.out GE283.out) hb);clear HO_9;clear BK283;clear HB;have HO_9:=n0_;have HO300:=n1_;have HO303:=n2_;have BK283:=n3_;have HB:=n4_;clear n0_ n1_ n2_ n3_ n4_;(try clear hb);(try clear hb2);(try clear hk);(try clear hi);(try clear ho0);(try clear ho1))|((with_reducible refine gate_dst (N:=14) rfl ?_);(try (refine gate_guard (by rfl) ?_;dsimp only));refine box_event ?hg (N:=14) ?hd (cs:=#[.bool false,.slice none 0 0,.slice none 0 0]) (t:=51) ?hr ?_;(case hd=>rfl);(case hg=>rfl);(case hr=>first|(go_simp;done)|(go_simp;rfl));intro gb305 hg w52 hbox hb;have n0_:=Aside0.mk (Kd.R_below (rowV HO_9.out) hb);have n1_:=Aside0.mk (Kd.R_below (rowV HO300.out) hb);have n2_:=Aside0.mk (Kd.S_below (by (with_reducible repeat (first|apply Kd.S_alloc|apply Kd.S_drewN|apply Kd.S_drew));exact HO303.out) hb);have n3_:=Aside0.mk (blk_below (g:=gb283) (blkV BK283.out) hb);have n4_:=Aside0.mk (below_step (belV1 HB.out GE283.out) hb);have n5_:=Aside0.mk (hbox);have n6_:=Aside0.mk ((by rw [hg];exact (below_size (belV1 HB.out GE283.out)):w.heap.size≤gb305));have n7_:=Aside0.mk ((by rw [hg];exact (below_size (belV1 HB.out GE283.out)):w.heap.size≤gb305));have n8_:=Aside0.mk ((by rw [hg];exact Nat.ne_of_lt (blk_lt (g:=gb283) (blkV BK283.out)):gb283≠gb305));have n9_:=Aside0.mk ((by rw [hg];exact Nat.ne_of_gt (blk_lt (g:=gb283) (blkV BK283.out)):gb305≠gb283));clear HO_9;clear HO300;clear HO303;clear BK283;clear HB;have HO_9:=n0_;have HO300:=n1_;have HO303:=n2_;have BK283:=n3_;have HB:=n4_;have BK305:=n5_;have GW305:=n6_;have GE305:=n7_;have NB283_305:=n8_;have NB305_283:=n9_;clear n0_ n1_ n2_ n3_ n4_ n5_ n6_ n7_ n8_ n9_;clear hb hbox hg;have hnb53:=NB305_283.out;have hnc53:=NB283_305.out;obtain ⟨hcz54_0,hcz54_1,hcz54_2,hfz54_0,hfz54_1,hfz54_2⟩:=bcells3 BK305.out;obtain ⟨Ao55,co55,eo55⟩:=Kd.R_slice HO300.out;subst eo55;obtain ⟨Ao56,co56,eo56⟩:=Kd.S_slice HO303.out;subst eo56)|(go_at_call 17;(with_reducible refine (dioramalaw19_awake.calls kj28  t306 _ A49.out).mono ?_);rintro e w57 ⟨rfl,hb⟩;have n0_:=Aside0.mk (Kd.R_below (by (with_reducible repeat (first|apply Kd.R_alloc|apply Kd.R_drewN|apply Kd.R_drew));exact (Kd.R_mono (Kd.R_put3 HO_9.out BK305.out (by decide)) (fun _ h_=>h_.1))) hb);have n1_:=Aside0.mk (Kd.R_below (by (with_reducible repeat (first|apply Kd.R_alloc|apply Kd.R_drewN|apply Kd.R_drew));exact (Kd.R_mono (Kd.R_put3 HO300.out BK305.out (by decide)) (fun _ h_=>h_.1))) hb);have n2_:=Aside0.mk (Kd.S_below (by (with_reducible repeat (first|apply Kd.S_alloc|apply Kd.S_drewN|apply Kd.S_drew));exact (Kd.S_mono (Kd.S_far (p:=⟨gb305,2,none⟩) (Kd.S_far (p:=⟨gb305,1,none⟩) (Kd.S_far (p:=⟨gb305,0,none⟩) (Kd.S_types HO303.out BK305.out (by decide)) (fun _ hk=>hk.2) (.bool t297)) (fun _ hk=>hk.2) (.slice Ao55 t298.length co55)) (fun _ hk=>hk.2) (.slice Ao56 t301.length co56)) (fun _ h_=>h_.1))) hb);have n3_:=Aside0.mk (blk_below (g:=gb283) (o:=.cells #[.bool a0_0,.slice A0_1 l0_1.length c0_1,.slice A0_2 l0_2.length c0_2] 51 (0,0)) (blkW BK283.out NB283_305.out) hb);have n4_:=Aside0.mk (blk_below (g:=gb305) (o:=.cells #[.bool t297,.slice Ao55 t298.length co55,.slice Ao56 t301.length co56] 51 (0,0)) (by (with_reducible repeat (first|refine blk_drewN ?_ _|refine blk_drew ?_|refine blk_alloc ?_ _));refine blk_put (cs:=#[.bool t297,.slice Ao55 t298.length co55,.slice none 0 0]) ?_ 2 _ rfl;(with_reducible repeat (first|refine blk_drewN ?_ _|refine blk_drew ?_|refine blk_alloc ?_ _));refine blk_put (cs:=#[.bool t297,.slice none 0 0,.slice none 0 0]) ?_ 1 _ rfl;(with_reducible repeat (first|refine blk_drewN ?_ _|refine blk_drew ?_|refine blk_alloc ?_ _));refine blk_put (cs:=#[.bool false,.slice none 0 0,.slice none 0 0]) ?_ 0 _ rfl;(with_reducible repeat (first|refine blk_drewN ?_ _|refine blk_drew ?_|refine blk_alloc ?_ _));exact BK305.out) hb);have n5_:=Aside0.mk (below_step (belV2 HB.out GE283.out GE305.out) hb);clear HO_9;clear HO300;clear HO303;clear BK283;clear BK305;clear HB;have HO_9:=n0_;have HO300:=n1_;have HO303:=n2_;have BK283:=n3_;have BK305:=n4_;have HB:=n5_;clear n0_ n1_ n2_ n3_ n4_ n5_;(try clear hb);(try clear hb2);(try clear hk);(try clear hi)))
             go_ret
             exact ⟨by first|rfl|(simp [errW_none,errW_some] <;> rfl)|(simp [*,errW_none,errW_some] <;> rfl),by repeat (first|(with_reducible first|exact HB.out|apply below_alloc|apply pw_below_drewN|apply below_drew1|refine below_set ?_ GE283.out|refine below_set ?_ GE305.out)|exact HB.out)⟩
           rw [if_neg c48] at H
           have c48b0:(t304 == 6)=false:=beq_eq_false_iff_ne.mpr c48
           have c48b1:(t304 != 6)=true:=bne_iff_ne.mpr c48
           obtain rfl:=Option.some.inj H
           obtain ⟨Ao58,co58,eo58⟩:=Kd.R_slice HO_9.out;subst eo58
           go_wp2_with (first|((with_reducible refine gate_callee (f:=26) rfl ?_);refine goesL_ (some 89) rfl rfl Try.func26 (by kernel_rfl) rfl #[.slice Ao58 x9_3.length co58] rfl (by (try simp only [List.map_toArray,List.map_cons,List.map_nil]);first|done|rfl|(simp only [List.length_drop,List.length_take];rfl)) ?_;(with_reducible refine (bitmap_Decode.calls kj28 _ _ x9_3 t297 t298 t301 t304 _ ?side1 ?side2 A46.out).mono ?_);(case side1=>exact cV (Kd.R_reads' HO_9.out).2.2);(case side2=>exact (Kd.R_reads' HO_9.out).2.1);rintro e w59 ⟨v299,v302,rfl,ho0,ho1,hb⟩;refine ⟨_,rfl,?_⟩;have n0_:=Aside0.mk (Kd.R_below (rowV HO_9.out) hb);have n1_:=Aside0.mk (Kd.R_lower ho0 (below_size (belV1 HB.out GE283.out)));have n2_:=Aside0.mk (Kd.S_lower ho1 (below_size (belV1 HB.out GE283.out)));have n3_:=Aside0.mk (blk_below (g:=gb283) (blkV BK283.out) hb);have n4_:=Aside0.mk (below_step (belV1 HB.out GE283.out) hb);clear HO_9;clear BK283;clear HB;have HO_9:=n0_;have HO300:=n1_;have HO303:=n2_;have BK283:=n3_;have HB:=n4_;clear n0_ n1_ n2_ n3_ n4_;(try clear hb);(try clear hb2);(try clear hk);(try clear hi);(try clear ho0);(try clear ho1))|((with_reducible refine gate_dst (N:=14) rfl ?_);(try (refine gate_guard (by rfl) ?_;dsimp only));refine box_event ?hg (N:=14) ?hd (cs:=#[.bool false,.slice none 0 0,.slice none 0 0]) (t:=51) ?hr ?_;(case hd=>rfl);(case hg=>rfl);(case hr=>first|(go_simp;done)|(go_simp;rfl));intro gb305 hg w60 hbox hb;have n0_:=Aside0.mk (Kd.R_below (rowV HO_9.out) hb);have n1_:=Aside0.mk (Kd.R_below (rowV HO300.out) hb);have n2_:=Aside0.mk (Kd.S_below (by (with_reducible repeat (first|apply Kd.S_alloc|apply Kd.S_drewN|apply Kd.S_drew));exact HO303.out) hb);have n3_:=Aside0.mk (blk_below (g:=gb283) (blkV BK283.out) hb);have n4_:=Aside0.mk (below_step (belV1 HB.out GE283.out) hb);have n5_:=Aside0.mk (hbox);have n6_:=Aside0.mk ((by rw [hg];exact (below_size (belV1 HB.out GE283.out)):w.heap.size≤gb305));have n7_:=Aside0.mk ((by rw [hg];exact (below_size (belV1 HB.out GE283.out)):w.heap.size≤gb305));have n8_:=Aside0.mk ((by rw [hg];exact Nat.ne_of_lt (blk_lt (g:=gb283) (blkV BK283.out)):gb283≠gb305));have n9_:=Aside0.mk ((by rw [hg];exact Nat.ne_of_gt (blk_lt (g:=gb283) (blkV BK283.out)):gb305≠gb283));clear HO_9;clear HO300;clear HO303;clear BK283;clear HB;have HO_9:=n0_;have HO300:=n1_;have HO303:=n2_;have BK283:=n3_;have HB:=n4_;have BK305:=n5_;have GW305:=n6_;have GE305:=n7_;have NB283_305:=n8_;have NB305_283:=n9_;clear n0_ n1_ n2_ n3_ n4_ n5_ n6_ n7_ n8_ n9_;clear hb hbox hg;have hnb61:=NB305_283.out;have hnc61:=NB283_305.out;obtain ⟨hcz62_0,hcz62_1,hcz62_2,hfz62_0,hfz62_1,hfz62_2⟩:=bcells3 BK305.out;obtain ⟨Ao63,co63,eo63⟩:=Kd.R_slice HO300.out;subst eo63;obtain ⟨Ao64,co64,eo64⟩:=Kd.S_slice HO303.out;subst eo64))
           go_ret
           exact ⟨by first|rfl|(simp [errW_none,errW_some] <;> rfl)|(simp [*,errW_none,errW_some] <;> rfl),by repeat (first|(with_reducible first|exact HB.out|apply below_alloc|apply pw_below_drewN|apply below_drew1|refine below_set ?_ GE283.out|refine below_set ?_ GE305.out)|exact HB.out)⟩
         replace c47:=Bool.eq_false_iff.mpr c47;subst c47
         have H1:((dioramalaw19_awake.f kj28).bind fun t307=>(some t307))=some r:=by rw [if_neg (show ¬ (false=true) by decide)] at H;exact H
         clear H
         have H:=H1;clear H1
         replace H:=Option.bind_eq_some_iff.mp H
         obtain ⟨t307,A650,H⟩:=H
         replace H:(some t307)=some r:=H
         have A65:=Aside0.mk A650;clear A650
         obtain rfl:=Option.some.inj H
         obtain ⟨Ao66,co66,eo66⟩:=Kd.R_slice HO_9.out;subst eo66
         go_wp2_with (first|((with_reducible refine gate_callee (f:=26) rfl ?_);refine goesL_ (some 89) rfl rfl Try.func26 (by kernel_rfl) rfl #[.slice Ao66 x9_3.length co66] rfl (by (try simp only [List.map_toArray,List.map_cons,List.map_nil]);first|done|rfl|(simp only [List.length_drop,List.length_take];rfl)) ?_;(with_reducible refine (bitmap_Decode.calls kj28 _ _ x9_3 t297 t298 t301 t304 _ ?side1 ?side2 A46.out).mono ?_);(case side1=>exact cV (Kd.R_reads' HO_9.out).2.2);(case side2=>exact (Kd.R_reads' HO_9.out).2.1);rintro e w67 ⟨v299,v302,rfl,ho0,ho1,hb⟩;refine ⟨_,rfl,?_⟩;have n0_:=Aside0.mk (Kd.R_below (rowV HO_9.out) hb);have n1_:=Aside0.mk (Kd.R_lower ho0 (below_size (belV1 HB.out GE283.out)));have n2_:=Aside0.mk (Kd.S_lower ho1 (below_size (belV1 HB.out GE283.out)));have n3_:=Aside0.mk (blk_below (g:=gb283) (blkV BK283.out) hb);have n4_:=Aside0.mk (below_step (belV1 HB.out GE283.out) hb);clear HO_9;clear BK283;clear HB;have HO_9:=n0_;have HO300:=n1_;have HO303:=n2_;have BK283:=n3_;have HB:=n4_;clear n0_ n1_ n2_ n3_ n4_;(try clear hb);(try clear hb2);(try clear hk);(try clear hi);(try clear ho0);(try clear ho1))|((with_reducible refine gate_dst (N:=14) rfl ?_);(try (refine gate_guard (by rfl) ?_;dsimp only));refine box_event ?hg (N:=14) ?hd (cs:=#[.bool false,.slice none 0 0,.slice none 0 0]) (t:=51) ?hr ?_;(case hd=>rfl);(case hg=>rfl);(case hr=>first|(go_simp;done)|(go_simp;rfl));intro gb305 hg w68 hbox hb;have n0_:=Aside0.mk (Kd.R_below (rowV HO_9.out) hb);have n1_:=Aside0.mk (Kd.R_below (rowV HO300.out) hb);have n2_:=Aside0.mk (Kd.S_below (by (with_reducible repeat (first|apply Kd.S_alloc|apply Kd.S_drewN|apply Kd.S_drew));exact HO303.out) hb);have n3_:=Aside0.mk (blk_below (g:=gb283) (blkV BK283.out) hb);have n4_:=Aside0.mk (below_step (belV1 HB.out GE283.out) hb);have n5_:=Aside0.mk (hbox);have n6_:=Aside0.mk ((by rw [hg];exact (below_size (belV1 HB.out GE283.out)):w.heap.size≤gb305));have n7_:=Aside0.mk ((by rw [hg];exact (below_size (belV1 HB.out GE283.out)):w.heap.size≤gb305));have n8_:=Aside0.mk ((by rw [hg];exact Nat.ne_of_lt (blk_lt (g:=gb283) (blkV BK283.out)):gb283≠gb305));have n9_:=Aside0.mk ((by rw [hg];exact Nat.ne_of_gt (blk_lt (g:=gb283) (blkV BK283.out)):gb305≠gb283));clear HO_9;clear HO300;clear HO303;clear BK283;clear HB;have HO_9:=n0_;have HO300:=n1_;have HO303:=n2_;have BK283:=n3_;have HB:=n4_;have BK305:=n5_;have GW305:=n6_;have GE305:=n7_;have NB283_305:=n8_;have NB305_283:=n9_;clear n0_ n1_ n2_ n3_ n4_ n5_ n6_ n7_ n8_ n9_;clear hb hbox hg;have hnb69:=NB305_283.out;have hnc69:=NB283_305.out;obtain ⟨hcz70_0,hcz70_1,hcz70_2,hfz70_0,hfz70_1,hfz70_2⟩:=bcells3 BK305.out;obtain ⟨Ao71,co71,eo71⟩:=Kd.R_slice HO300.out;subst eo71;obtain ⟨Ao72,co72,eo72⟩:=Kd.S_slice HO303.out;subst eo72)|(go_at_call 17;(with_reducible refine (dioramalaw19_awake.calls kj28  t307 _ A65.out).mono ?_);rintro e w73 ⟨rfl,hb⟩;have n0_:=Aside0.mk (Kd.R_below (by (with_reducible repeat (first|apply Kd.R_alloc|apply Kd.R_drewN|apply Kd.R_drew));exact (Kd.R_mono (Kd.R_put3 HO_9.out BK305.out (by decide)) (fun _ h_=>h_.1))) hb);have n1_:=Aside0.mk (Kd.R_below (by (with_reducible repeat (first|apply Kd.R_alloc|apply Kd.R_drewN|apply Kd.R_drew));exact (Kd.R_mono (Kd.R_put3 HO300.out BK305.out (by decide)) (fun _ h_=>h_.1))) hb);have n2_:=Aside0.mk (Kd.S_below (by (with_reducible repeat (first|apply Kd.S_alloc|apply Kd.S_drewN|apply Kd.S_drew));exact (Kd.S_mono (Kd.S_far (p:=⟨gb305,2,none⟩) (Kd.S_far (p:=⟨gb305,1,none⟩) (Kd.S_far (p:=⟨gb305,0,none⟩) (Kd.S_types HO303.out BK305.out (by decide)) (fun _ hk=>hk.2) (.bool t297)) (fun _ hk=>hk.2) (.slice Ao71 t298.length co71)) (fun _ hk=>hk.2) (.slice Ao72 t301.length co72)) (fun _ h_=>h_.1))) hb);have n3_:=Aside0.mk (blk_below (g:=gb283) (o:=.cells #[.bool a0_0,.slice A0_1 l0_1.length c0_1,.slice A0_2 l0_2.length c0_2] 51 (0,0)) (blkW BK283.out NB283_305.out) hb);have n4_:=Aside0.mk (blk_below (g:=gb305) (o:=.cells #[.bool t297,.slice Ao71 t298.length co71,.slice Ao72 t301.length co72] 51 (0,0)) (by (with_reducible repeat (first|refine blk_drewN ?_ _|refine blk_drew ?_|refine blk_alloc ?_ _));refine blk_put (cs:=#[.bool t297,.slice Ao71 t298.length co71,.slice none 0 0]) ?_ 2 _ rfl;(with_reducible repeat (first|refine blk_drewN ?_ _|refine blk_drew ?_|refine blk_alloc ?_ _));refine blk_put (cs:=#[.bool t297,.slice none 0 0,.slice none 0 0]) ?_ 1 _ rfl;(with_reducible repeat (first|refine blk_drewN ?_ _|refine blk_drew ?_|refine blk_alloc ?_ _));refine blk_put (cs:=#[.bool false,.slice none 0 0,.slice none 0 0]) ?_ 0 _ rfl;(with_reducible repeat (first|refine blk_drewN ?_ _|refine blk_drew ?_|refine blk_alloc ?_ _));exact BK305.out) hb);have n5_:=Aside0.mk (below_step (belV2 HB.out GE283.out GE305.out) hb);clear HO_9;clear HO300;clear HO303;clear BK283;clear BK305;clear HB;have HO_9:=n0_;have HO300:=n1_;have HO303:=n2_;have BK283:=n3_;have BK305:=n4_;have HB:=n5_;clear n0_ n1_ n2_ n3_ n4_ n5_;(try clear hb);(try clear hb2);(try clear hk);(try clear hi)))
         go_ret
         exact ⟨by first|rfl|(simp [errW_none,errW_some] <;> rfl)|(simp [*,errW_none,errW_some] <;> rfl),by repeat (first|(with_reducible first|exact HB.out|apply below_alloc|apply pw_below_drewN|apply below_drew1|refine below_set ?_ GE283.out|refine below_set ?_ GE305.out)|exact HB.out)⟩

end Go.Proofs.Ytaebgjdaoloceaa.QBmpB
