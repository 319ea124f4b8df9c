/- Part of a proof: functions of the program as Lean functions, and that the machine's calls come to them. Made by a program of this session (wip/mp). -/
import Derived.Test.YtaebgjdaoloceaaQBmpPx0
import Derived.Test.YtaebgjdaoloceaaQBmpPx1
import Derived.Test.YtaebgjdaoloceaaQBmpPx3
import Derived.Test.YtaebgjdaoloceaaQBmpPx4
namespace Go.Proofs.Ytaebgjdaoloceaa.QBmpP
open Go.RowKit Go.Proofs.YtaebgjdaoloceaaV Go.Proofs.YtaebgjdaoloceaaW.PrintWords Go.Proofs.YtaebgjdaoloceaaW.PrintLast Go.Proofs.YtaebgjdaoloceaaW.PrintMore
attribute [local go_sem] max2_int min2_int max_two min_two max_three min_three max_four min_four   -- for this text's walks alone
set_option linter.unusedVariables false
set_option linter.unusedSimpArgs false

/-! ### bitmap_Encode: function 35 -/
mutual
def bitmap_Encode.j0 : Nat → List Int → Bool → List Int → List (S91) → Option (List Int × Int)
 | 0,_,_,_,_=>none
 | k+1,x5,x240000,x240001,x240002=>bitmap_Encode.l0 k x5 x240001 (x240001.length:Int) 0 x240000 x240001 x240002
def bitmap_Encode.l0 : Nat → List Int → List Int → Int → Int → Bool → List Int → List (S91) → Option (List Int × Int)
 | 0,_,_,_,_,_,_,_=>none
 | k+1,x5,x27,x28,x29,x240000,x240001,x240002=>if x29 < x28 then (if 0≤x29 then (if x29 < (x27.length:Int) then ((bitmap_number.f k x5 (rd x27 x29) 3).bind fun t246=>(bitmap_Encode.l0 k t246 x27 x28 (wrap64 (x29+1)) x240000 x240001 x240002)) else (none)) else (none)) else (if x5.length < 140737488355328 then (bitmap_Encode.l1 k (x5 ++ [((x240002.length:Int)) % 256]) x240002 (x240002.length:Int) 0) else (none))
def bitmap_Encode.l1 : Nat → List Int → List (S91) → Int → Int → Option (List Int × Int)
 | 0,_,_,_,_=>none
 | k+1,x5,x45,x46,x47=>if x47 < x46 then (if 0≤x47 then (if x47 < (x45.length:Int) then ((bitmap_Runs.f k ((rd_T91 x45 x47).f4) ((rd_T91 x45 x47).f2)).bind fun bt258=>((bitmap_number.f k x5 ((rd_T91 x45 x47).f0) 2).bind fun t262=>((bitmap_number.f k t262 ((rd_T91 x45 x47).f1) 2).bind fun t265=>((some (([((rd_T91 x45 x47).f2) % 256,((rd_T91 x45 x47).f3) % 256]:List Int):List Int)).bind fun y268=>(if t265.length+y268.length < 140737488355328 then ((bitmap_number.f k (t265 ++ y268) (bt258.1.length:Int) 2).bind fun t274=>(if t274.length+bt258.1.length < 140737488355328 then (bitmap_Encode.l1 k (t274 ++ bt258.1) x45 x46 (wrap64 (x47+1))) else (none))) else (none)))))) else (none)) else (none)) else ((bits_Sum.f k x5).bind fun t252=>((bitmap_number.f k x5 (wrap64 (t252)) 4).bind fun t253=>(some (t253,0))))
end
def bitmap_Encode.f (k : Nat) (a0_0 : Bool) (l0_1 : List Int) (l0_2 : List (S91)) : Option (List Int × Int) := (bitmap_Check.f k a0_0 l0_1 l0_2).bind fun t240 => (if t240 = 0 then ((some (([0, ((l0_1.length : Int)) % 256] : List Int) : List Int)).bind fun y241 => (if a0_0 = true then (if 0 < (y241.length : Int) then (bitmap_Encode.j0 k (y241.set (0 : Int).toNat 1) a0_0 l0_1 l0_2) else (none)) else (bitmap_Encode.j0 k y241 a0_0 l0_1 l0_2))) else (some (([] : List Int), t240)))
theorem bitmap_Encode.mono_l:∀ k,(∀ y0 y1 y2 y3,LeO (bitmap_Encode.j0 k y0 y1 y2 y3) (bitmap_Encode.j0 (k+1) y0 y1 y2 y3))∧(∀ y0 y1 y2 y3 y4 y5 y6,LeO (bitmap_Encode.l0 k y0 y1 y2 y3 y4 y5 y6) (bitmap_Encode.l0 (k+1) y0 y1 y2 y3 y4 y5 y6))∧(∀ y0 y1 y2 y3,LeO (bitmap_Encode.l1 k y0 y1 y2 y3) (bitmap_Encode.l1 (k+1) y0 y1 y2 y3))
 | 0=>⟨fun _ _ _ _ r h=>by simp [bitmap_Encode.j0] at h,fun _ _ _ _ _ _ _ r h=>by simp [bitmap_Encode.l0] at h,fun _ _ _ _ r h=>by simp [bitmap_Encode.l1] at h⟩
 | k+1=>by
  obtain ⟨ih0,ih1,ih2⟩:=bitmap_Encode.mono_l k
  refine ⟨?_,?_,?_⟩
  · intro y0 y1 y2 y3
    unfold bitmap_Encode.j0
    repeat' first
    | (with_reducible exact ih0 _ _ _ _)
    | (with_reducible exact ih1 _ _ _ _ _ _ _)
    | (with_reducible exact ih2 _ _ _ _)
    | (with_reducible exact bitmap_Check.mono _ _ _ _)
    | (with_reducible exact bitmap_Runs.mono _ _ _)
    | (with_reducible exact bitmap_number.mono _ _ _ _)
    | (with_reducible exact bits_Sum.mono _ _)
    | (with_reducible exact LeO.refl _)
    | (with_reducible exact LeO.none _)
    | (with_reducible refine LeO.ite ?_ ?_)
    | (with_reducible refine LeO.bind ?_ (fun _=>?_))
    | exact LeO.none _
    | refine LeO.ite ?_ ?_
    | refine LeO.bind ?_ (fun _=>?_)
  · intro y0 y1 y2 y3 y4 y5 y6
    unfold bitmap_Encode.l0
    repeat' first
    | (with_reducible exact ih0 _ _ _ _)
    | (with_reducible exact ih1 _ _ _ _ _ _ _)
    | (with_reducible exact ih2 _ _ _ _)
    | (with_reducible exact bitmap_Check.mono _ _ _ _)
    | (with_reducible exact bitmap_Runs.mono _ _ _)
    | (with_reducible exact bitmap_number.mono _ _ _ _)
    | (with_reducible exact bits_Sum.mono _ _)
    | (with_reducible exact LeO.refl _)
    | (with_reducible exact LeO.none _)
    | (with_reducible refine LeO.ite ?_ ?_)
    | (with_reducible refine LeO.bind ?_ (fun _=>?_))
    | exact LeO.none _
    | refine LeO.ite ?_ ?_
    | refine LeO.bind ?_ (fun _=>?_)
  intro y0 y1 y2 y3
  unfold bitmap_Encode.l1
  repeat' first
  | (with_reducible exact ih0 _ _ _ _)
  | (with_reducible exact ih1 _ _ _ _ _ _ _)
  | (with_reducible exact ih2 _ _ _ _)
  | (with_reducible exact bitmap_Check.mono _ _ _ _)
  | (with_reducible exact bitmap_Runs.mono _ _ _)
  | (with_reducible exact bitmap_number.mono _ _ _ _)
  | (with_reducible exact bits_Sum.mono _ _)
  | (with_reducible exact LeO.refl _)
  | (with_reducible exact LeO.none _)
  | (with_reducible refine LeO.ite ?_ ?_)
  | (with_reducible refine LeO.bind ?_ (fun _=>?_))
  | exact LeO.none _
  | refine LeO.ite ?_ ?_
  | refine LeO.bind ?_ (fun _=>?_)
theorem bitmap_Encode.mono:∀ a0 a1 a2 k,LeO (bitmap_Encode.f k a0 a1 a2) (bitmap_Encode.f (k+1) a0 a1 a2):=by
 intro a0 a1 a2 k
 obtain ⟨ih0,ih1,ih2⟩:=bitmap_Encode.mono_l k
 unfold bitmap_Encode.f
 repeat' first
  | (with_reducible exact ih0 _ _ _ _)
  | (with_reducible exact ih1 _ _ _ _ _ _ _)
  | (with_reducible exact ih2 _ _ _ _)
  | (with_reducible exact bitmap_Check.mono _ _ _ _)
  | (with_reducible exact bitmap_Runs.mono _ _ _)
  | (with_reducible exact bitmap_number.mono _ _ _ _)
  | (with_reducible exact bits_Sum.mono _ _)
  | (with_reducible exact LeO.refl _)
  | (with_reducible exact LeO.none _)
  | (with_reducible refine LeO.ite ?_ ?_)
  | (with_reducible refine LeO.bind ?_ (fun _=>?_))
  | exact LeO.none _
  | refine LeO.ite ?_ ?_
  | refine LeO.bind ?_ (fun _=>?_)
def bitmap_Encode.T17 : Bool × List (List Nat × List Nat) := (true, [([], []), ([], []), ([1], [1]), ([0, 2], [0, 2]), ([], []), ([4], [4]), ([3, 5, 3], [3, 5]), ([6, 6, 0, 1, 2, 3, 4, 5, 6], [0, 6])])
def bitmap_Encode.B17 : List Nat := [0, 0, 2, 7, 0, 16, 63, 127]
theorem bitmap_Encode.tab17:rtab .any (opsOf Try.f35 17)=bitmap_Encode.T17:=by kernel_rfl
theorem bitmap_Encode.bits17:waitsOk bitmap_Encode.T17.2 bitmap_Encode.B17=true:=by kernel_rfl
set_option maxHeartbeats 8000000 in
set_option maxRecDepth 100000 in
theorem bitmap_Encode.calls (k:Nat) (a0_0:Bool) (A0_1:Option Addr) (c0_1:Nat) (l0_1:List Int) (A0_2:Option Addr) (c0_2:Nat) (l0_2:List (S91)) (r1:List Int) (r2:Int) (w:World) (hr0_1:Kd.C (Kd.int .i64) w A0_1 l0_1.length l0_1) (hc0_1:l0_1.length≤c0_1) (hr0_2:Kd.C k91 w A0_2 l0_2.length l0_2) (hc0_2:l0_2.length≤c0_2) (h:bitmap_Encode.f k a0_0 l0_1 l0_2=some (r1,r2)) :
 Calls Try.prog 35 #[.agg #[.bool a0_0,.slice A0_1 l0_1.length c0_1,.slice A0_2 l0_2.length c0_2]] w fun e w'=>∃ v0_:Value,e=.returned (.tuple #[v0_,.int .i64 r2])∧Kd.R (Kd.int .u8) 5 w' w.heap.size (fun _=>True) v0_ r1∧Below w.heap.size w w':=by
 have hu51:=Try.underlying51
 have hu91:=Try.underlying91
 have HR0_1:=Aside0.mk hr0_1
 have HC0_1:=Aside0.mk hc0_1;clear hr0_1 hc0_1
 have HR0_2:=Aside0.mk hr0_2
 have HC0_2:=Aside0.mk hc0_2;clear hr0_2 hc0_2;have HB:=Aside0.mk (Below.refl w.heap.size w)
 have H:((bitmap_Check.f k a0_0 l0_1 l0_2).bind fun t240=>(if t240=0 then ((some (([0,((l0_1.length:Int)) % 256]:List Int):List Int)).bind fun y241=>(if a0_0=true then (if 0 < (y241.length:Int) then (bitmap_Encode.j0 k (y241.set (0:Int).toNat 1) a0_0 l0_1 l0_2) else (none)) else (bitmap_Encode.j0 k y241 a0_0 l0_1 l0_2))) else (some (([]:List Int),t240))))=some (r1,r2):=h
 clear h
 replace H:=Option.bind_eq_some_iff.mp H
 obtain ⟨t240,A20,H⟩:=H
 replace H:(if t240=0 then ((some (([0,((l0_1.length:Int)) % 256]:List Int):List Int)).bind fun y241=>(if a0_0=true then (if 0 < (y241.length:Int) then (bitmap_Encode.j0 k (y241.set (0:Int).toNat 1) a0_0 l0_1 l0_2) else (none)) else (bitmap_Encode.j0 k y241 a0_0 l0_1 l0_2))) else (some (([]:List Int),t240)))=some (r1,r2):=H
 have A2:=Aside0.mk A20;clear A20
 by_cases c3:t240=0
 · rw [if_pos c3] at H
   have c3b0:(t240 == 0)=true:=beq_iff_eq.mpr c3
   have c3b1:(t240 != 0)=false:=bne_eq_false_iff_eq.mpr c3;clear c3
   obtain ⟨y241,hy241⟩:∃ y_:List Int,y_=(([0,((l0_1.length:Int)) % 256]:List Int)):=⟨_,rfl⟩
   replace H:(if a0_0=true then (if 0 < (y241.length:Int) then (bitmap_Encode.j0 k (y241.set (0:Int).toNat 1) a0_0 l0_1 l0_2) else (none)) else (bitmap_Encode.j0 k y241 a0_0 l0_1 l0_2))=some (r1,r2):=by first|(rw [hy241];with_reducible exact H)|(have H2_:=(Option.bind_some _ _).symm.trans H;rw [hy241];with_reducible exact H2_)|(have H2_:=(Option.bind_some _ _).symm.trans H;with_reducible exact H2_)|with_reducible exact H|(rw [hy241];exact H)|exact H
   have Ny241:=Aside0.mk hy241;clear hy241
   have HC4:=Aside0.mk H;clear H
   go_enter Try.func35,Try.ntmps35
   go_upto_if 23 with (first|((with_reducible refine gate_dst (N:=1) rfl ?_);refine box_event ?hg (N:=1) ?hd (cs:=#[.bool a0_0,.slice A0_1 l0_1.length c0_1,.slice A0_2 l0_2.length c0_2]) (t:=51) ?hr ?_;(case hd=>rfl);(case hg=>rfl);(case hr=>first|(go_simp;done)|(go_simp;rfl));intro gb239 hg w5 hbox hb;have n0_:=Aside0.mk (below_step (belV HB.out) hb);have n1_:=Aside0.mk (hbox);have n2_:=Aside0.mk ((by rw [hg];exact (below_size (belV HB.out)):w.heap.size≤gb239));have n3_:=Aside0.mk ((by rw [hg];exact (below_size (belV HB.out)):w.heap.size≤gb239));clear HB;have HB:=n0_;have BK239:=n1_;have GW239:=n2_;have GE239:=n3_;clear n0_ n1_ n2_ n3_;clear hb hbox hg;obtain ⟨hcz6_0,hcz6_1,hcz6_2,hfz6_0,hfz6_1,hfz6_2⟩:=bcells3 BK239.out)|((with_reducible refine gate_callee (f:=39) rfl ?_);refine goesL_ (some 13) rfl rfl Try.func39 (by kernel_rfl) rfl #[.agg #[.bool a0_0,.slice A0_1 l0_1.length c0_1,.slice A0_2 l0_2.length c0_2]] rfl (by (try simp only [List.map_toArray,List.map_cons,List.map_nil]);first|done|rfl|(simp only [List.length_drop,List.length_take];rfl)) ?_;(with_reducible refine (bitmap_Check.calls k a0_0 _ _ l0_1 _ _ l0_2 t240 _ ?side1 ?side2 ?side3 ?side4 A2.out).mono ?_);(case side1=>exact cV (Kd.C_below HR0_1.out HB.out));(case side2=>exact HC0_1.out);(case side3=>exact cV (Kd.C_below HR0_2.out HB.out));(case side4=>exact HC0_2.out);rintro e w7 ⟨rfl,hb⟩;refine ⟨_,rfl,?_⟩;have n0_:=Aside0.mk (blk_below (g:=gb239) (blkV BK239.out) hb);have n1_:=Aside0.mk (below_step (belV1 HB.out GE239.out) hb);clear BK239;clear HB;have BK239:=n0_;have HB:=n1_;clear n0_ n1_;(try clear hb);(try clear hb2);(try clear hk);(try clear hi);obtain ⟨hcz8_0,hcz8_1,hcz8_2,hfz8_0,hfz8_1,hfz8_2⟩:=bcells3 BK239.out)|((with_reducible refine gate_dst (N:=21) rfl ?_);refine Kd.R_lit (Kd.int .u8) _ 5 ?hg (N:=21) ?hd (xs:=([0,((l0_1.length:Int)) % 256]:List Int)) (inner:=[.int .u8 0,.int .u8 (((l0_1.length:Int)) % 256)]) (ok:=fun _=>True) (okp:=fun _=>True) ?hr ?hp (fun _ hk=>hk) trivial (Below.refl _ _) (Nat.le_refl _) (by simp) ?_;(case hd=>rfl);(case hg=>rfl);(case hr=>first|(go_simp;done)|(go_simp;rfl));(case hp=>exact (Reps.one (show Kd.M (Kd.int .u8) _ _ _ 0 [.int .u8 0] from rfl) (Reps.one (show Kd.M (Kd.int .u8) _ _ _ (((l0_1.length:Int)) % 256) [.int .u8 (((l0_1.length:Int)) % 256)] from rfl) (Reps.none _ _))));intro v242 w9 ho10 hb hg_ hnew_;clear hg_ hnew_;(first|rw [← Ny241.out] at ho10|(simp only [Int.reduceToNat] at ho10;rw [← Ny241.out] at ho10));have n0_:=Aside0.mk (Kd.R_lower ho10 (below_size (belV1 HB.out GE239.out)));have n1_:=Aside0.mk (blk_below (g:=gb239) (blkV BK239.out) hb);have n2_:=Aside0.mk (below_step (belV1 HB.out GE239.out) hb);clear BK239;clear HB;have HO243:=n0_;have BK239:=n1_;have HB:=n2_;clear n0_ n1_ n2_;clear hb ho10;obtain ⟨hcz11_0,hcz11_1,hcz11_2,hfz11_0,hfz11_1,hfz11_2⟩:=bcells3 BK239.out))
   (try simp only [Act.put,List.setIfInBounds_toArray,List.set_cons_zero,List.set_cons_succ])
   go_cut [] (fun wc=>∃ (kq:Nat) (x5_3:List Int),Aside0 (bitmap_Encode.j0 kq x5_3 a0_0 l0_1 l0_2=some (r1,r2))∧Aside0 (kq≤k)∧Aside0 (Kd.R (Kd.int .u8) 5 wc w.heap.size (fun _=>True) v242 x5_3)∧Aside0 (wc.heap[gb239]?=some (.cells #[.bool a0_0,(.slice A0_1 l0_1.length c0_1),(.slice A0_2 l0_2.length c0_2)] 51 (0,0)))∧Aside0 (Below w.heap.size w wc))
   case first =>
    have H:=HC4.out;clear HC4
    by_cases c12:a0_0=true
    · subst c12
      have H1:(if 0 < (y241.length:Int) then (bitmap_Encode.j0 k (y241.set (0:Int).toNat 1) true l0_1 l0_2) else (none))=some (r1,r2):=by rw [if_pos rfl] at H;exact H
      clear H
      have H:=H1;clear H1
      by_cases c13:0 < (y241.length:Int)
      · rw [if_pos c13] at H
        have c13b0:decide (0 < (y241.length:Int))=true:=decide_eq_true c13
        have c13b1:decide (0 < y241.length)=true:=decide_eq_true (by omega);clear c13
        (first|rw [c13b0]|(simp only [i64_w,i32_w];rw [c13b0])|rw [c13b1]|skip)
        obtain ⟨y244,hy244⟩:∃ y_:List Int,y_=(y241.set (0:Int).toNat 1):=⟨_,rfl⟩
        replace H:(bitmap_Encode.j0 k y244 true l0_1 l0_2)=some (r1,r2):=by first|(rw [hy244];with_reducible exact H)|(have H2_:=(Option.bind_some _ _).symm.trans H;rw [hy244];with_reducible exact H2_)|(have H2_:=(Option.bind_some _ _).symm.trans H;with_reducible exact H2_)|with_reducible exact H|(rw [hy244];exact H)|exact H
        have Ny244:=Aside0.mk hy244;clear hy244
        have H':=Aside0.mk H;clear H
        have p14:0≤(0:Int):=(by omega)
        have q14:(0:Int) < ((y241.length:Int):Int):=of_decide_eq_true asV
        have qi14:(0 < y241.length)=True:=eq_true (by omega)
        obtain ⟨go14,co14,eo14,gb14,gl14,cl14,HG14⟩:=Kd.R_form HO243.out (by omega)
        (first|cases eo14|(injection eo14 with ea_ en_ ec_;(first|subst ea_|(injection ea_ with ea_;subst ea_));subst ec_;clear en_))
        have GB14:=Aside0.mk gb14
        have GG14:=Aside0.mk HG14;clear gb14 gl14 HG14
        obtain ⟨hx14_0,hf14_0⟩:=Kd.R_celln 0 HO243.out (0:Int) p14 q14
        (try rw [show ((0:Int)).toNat=0 from rfl] at hx14_0)
        (try simp only [Nat.reduceMul,Nat.zero_mul,Nat.zero_add,Nat.reduceAdd] at hx14_0)
        (try rw [show ((0:Int)).toNat=0 from rfl] at hf14_0)
        (try simp only [Nat.reduceMul,Nat.zero_mul,Nat.zero_add,Nat.reduceAdd] at hf14_0)
        replace p14:=eq_true p14
        replace q14:=eq_true q14
        have HP15:=Kd.R_putg HO243.out (0:Int) 1
        go_wp2_with (first|((with_reducible refine gate_store (t:=5) (p:=25) rfl ?_);refine store_event (t:=5) (p:=25) (v:=?vo_w16) (w1:=(w9.setCell ⟨go14,(0:Int).toNat,none⟩ (.int .u8 1))) ?hg ?ho ?hn ?hr ?_;(case ho=>rfl);(case hg=>rfl);(case hn=>rfl);(case hr=>first|(go_simp;done)|(go_simp;rfl));intro w16 hw;have hg:w9.grownBy w16 (some go14):=(by rw [hw];exact HP15.2);have hp_:Kd.R (Kd.int .u8) 5 w16 w.heap.size (fun _=>True) (.slice (some ⟨go14,0,none⟩) y241.length co14) y244:=(by rw [hw,Ny244.out];exact HP15.1);clear HP15;have n0_:=Aside0.mk (blk_grown (g:=gb239) (blkV BK239.out) hg (Kd.R_ne HO243.out BK239.out (by decide)));have n1_:=Aside0.mk (hp_);have n2_:=Aside0.mk ((by rw [hw];exact below_set (HB.out) GB14.out:Below w.heap.size w w16));clear BK239;clear HO243;clear HB;have BK239:=n0_;have HO243:=n1_;have HB:=n2_;clear n0_ n1_ n2_;clear hg hw hp_))
        go_meet
        case rel=>exact ⟨_,(y244),H',⟨by first|omega|exact Nat.le_refl _⟩,⟨rowV HO243.out⟩,⟨blkV BK239.out⟩,⟨belV1 HB.out GE239.out⟩⟩
      rw [if_neg c13] at H
      exact absurd H (by simp)
    replace c12:=Bool.eq_false_iff.mpr c12;subst c12
    have H1:(bitmap_Encode.j0 k y241 false l0_1 l0_2)=some (r1,r2):=by rw [if_neg (show ¬ (false=true) by decide)] at H;exact H
    clear H
    have H:=H1;clear H1
    have H':=Aside0.mk H;clear H
    go_wp2
    go_meet
    case rel=>exact ⟨_,(y241),H',⟨by first|omega|exact Nat.le_refl _⟩,⟨rowV HO243.out⟩,⟨blkV BK239.out⟩,⟨belV1 HB.out GE239.out⟩⟩
   case rest =>
    clear HC4
    try clear c1;try clear p1;try clear q1;try clear hx1;try clear qi1;try clear hf1;try clear p2;try clear c3;try clear c3b0;try clear c3b1;try clear c12;try clear c13;try clear c13b0;try clear c13b1;try clear p14 p14;try clear q14 q14;try clear hx14;try clear qi14;try clear hf14;try clear hcz11_0 hcz11_1 hcz11_2;try clear hcz6_0 hcz6_1 hcz6_2;try clear hcz8_0 hcz8_1 hcz8_2;try clear hfz11_0 hfz11_1 hfz11_2;try clear hfz6_0 hfz6_1 hfz6_2;try clear hfz8_0 hfz8_1 hfz8_2;try clear hx14_0
    obtain ⟨kq,x5_3,HA,HJ3,HO_5,BK239,HB⟩:=hcut
    cases kq with
    | zero=>exact absurd HA.out (by simp [bitmap_Encode.j0])
    | succ kj3 =>
     have H:=HA.out;clear HA
     simp only [bitmap_Encode.j0] at H
     have H':=Aside0.mk H;clear H
     obtain ⟨hcz17_0,hcz17_1,hcz17_2,hfz17_0,hfz17_1,hfz17_2⟩:=bcells3 BK239.out
     go_wp2
     go_loopg [5,29] kj3 (fun kq v5 v29 w'=>∃ (x5_2:List Int) (x29_2:Int),v29=.int .i64 x29_2∧Aside0 (bitmap_Encode.l0 kq x5_2 l0_1 (l0_1.length:Int) x29_2 a0_0 l0_1 l0_2=some (r1,r2))∧Aside0 (kq≤kj3)∧Aside0 (Kd.R (Kd.int .u8) 5 w' w.heap.size (fun _=>True) v5 x5_2)∧Aside0 (w'.heap[gb239]?=some (.cells #[.bool a0_0,(.slice A0_1 l0_1.length c0_1),(.slice A0_2 l0_2.length c0_2)] 51 (0,0)))∧Aside0 (Below w.heap.size w w'))
     case atStart=>exact ⟨(x5_3),(0),okV,H',⟨Nat.le_refl _⟩,⟨rowV HO_5.out⟩,⟨blkV BK239.out⟩,⟨belV1 HB.out GE239.out⟩⟩
     case round =>
      clear H'
      try clear c1;try clear p1 p1;try clear q1 q1;try clear hx1;try clear qi1;try clear hf1;try clear p2 p2;try clear c3;try clear c3b0;try clear c3b1;try clear c12;try clear c13;try clear c13b0;try clear c13b1;try clear p14 p14;try clear q14 q14;try clear hx14;try clear qi14;try clear hf14;try clear hcz11_0 hcz11_1 hcz11_2;try clear hcz17_0 hcz17_1 hcz17_2;try clear hcz6_0 hcz6_1 hcz6_2;try clear hcz8_0 hcz8_1 hcz8_2;try clear hfz11_0 hfz11_1 hfz11_2;try clear hfz17_0 hfz17_1 hfz17_2;try clear hfz6_0 hfz6_1 hfz6_2;try clear hfz8_0 hfz8_1 hfz8_2;try clear hx14_0
      obtain ⟨x5_2,x29_2,rfl,HA,HK2,HO_5,BK239,HB⟩:=hrel
      cases gk with
      | zero=>exact absurd HA.out (by simp [bitmap_Encode.l0])
      | succ k2 =>
       have H:=HA.out;clear HA
       simp only [bitmap_Encode.l0] at H
       by_cases c18:x29_2 < (l0_1.length:Int)
       · rw [if_pos c18] at H
         have c18b0:decide (x29_2 < (l0_1.length:Int))=true:=decide_eq_true c18;clear c18
         by_cases c19:0≤x29_2
         · rw [if_pos c19] at H
           have c19b0:decide (0≤x29_2)=true:=decide_eq_true c19;clear c19
           by_cases c20:x29_2 < (l0_1.length:Int)
           · rw [if_pos c20] at H
             have c20b0:decide (x29_2 < (l0_1.length:Int))=true:=decide_eq_true c20;clear c20
             replace H:=Option.bind_eq_some_iff.mp H
             obtain ⟨t246,A210,H⟩:=H
             replace H:(bitmap_Encode.l0 k2 t246 l0_1 (l0_1.length:Int) (wrap64 (x29_2+1)) a0_0 l0_1 l0_2)=some (r1,r2):=H
             have A21:=Aside0.mk A210;clear A210
             have H':=Aside0.mk H;clear H
             have p245:0≤(x29_2:Int):=of_decide_eq_true asV
             have q245:x29_2 < (l0_1.length:Int):=of_decide_eq_true asV
             obtain ⟨ad245,e245,hx245_0⟩:=Kd.at_int HR0_1.out x29_2 p245 q245
             cases e245
             replace hx245_0:=(HB.out.cell (World.block_lt_of_cell? w _ hx245_0)).trans hx245_0
             replace p245:=eq_true p245
             replace q245:=eq_true q245
             obtain ⟨Ao22,co22,eo22⟩:=Kd.R_slice HO_5.out;subst eo22
             go_wp2_with (first|((with_reducible refine gate_callee (f:=69) rfl ?_);refine goesL_ (some 35) rfl rfl Try.func69 (by kernel_rfl) rfl #[.slice Ao22 x5_2.length co22,.int .i64 (rd l0_1 x29_2),.int .i64 3] rfl (by (try simp only [List.map_toArray,List.map_cons,List.map_nil]);first|done|rfl|(simp only [List.length_drop,List.length_take];rfl)) ?_;(with_reducible refine (bitmap_number.calls k2 (fun k_=>some k_=(.slice Ao22 x5_2.length co22:Value).ownBlock) (.slice Ao22 x5_2.length co22) x5_2 (rd l0_1 x29_2) 3 t246 w _ ?side1 ?side2 A21.out).mono ?_);(case side1=>exact belV1 HB.out GE239.out);(case side2=>exact Kd.R_tight rfl HO_5.out);rintro e w23 ⟨v247,rfl,ho0,hb,hkp⟩;refine ⟨_,rfl,?_⟩;have n0_:=Aside0.mk (blk_kept (blkV BK239.out) hkp (fun hs_=>(fun e_=>(Kd.R_ne HO_5.out BK239.out (by decide)) e_) hs_));have n1_:=Aside0.mk (Kd.R_mono (ok':=fun k_=>True) ho0 (fun k_ hk_=>trivial));have n2_:=Aside0.mk (hb);clear BK239;clear HB;clear HO_5;have BK239:=n0_;have HO248:=n1_;have HB:=n2_;clear n0_ n1_ n2_;(try clear hb);(try clear hkp);(try clear ho0)))
             go_roundg k2
             case measure=>have:=HJ3.out;have:=HK2.out;omega
             case rel=>exact ⟨(t246),(wrap64 (x29_2+1)),okV,H',⟨by have:=HJ3.out;have:=HK2.out;omega⟩,⟨rowV HO248.out⟩,⟨blkV BK239.out⟩,⟨belV1 HB.out GE239.out⟩⟩
           rw [if_neg c20] at H
           exact absurd H (by simp)
         rw [if_neg c19] at H
         exact absurd H (by simp)
       rw [if_neg c18] at H
       have c18b0:decide (x29_2 < (l0_1.length:Int))=false:=decide_eq_false c18;clear c18
       by_cases c24:x5_2.length < 140737488355328
       · rw [if_pos c24] at H
         have LMc24:=Aside0.mk c24;clear c24
         obtain ⟨y249,hy249⟩:∃ y_:List Int,y_=(x5_2 ++ [((l0_2.length:Int)) % 256]):=⟨_,rfl⟩
         replace H:(bitmap_Encode.l1 k2 y249 l0_2 (l0_2.length:Int) 0)=some (r1,r2):=by first|(rw [hy249];with_reducible exact H)|(have H2_:=(Option.bind_some _ _).symm.trans H;rw [hy249];with_reducible exact H2_)|(have H2_:=(Option.bind_some _ _).symm.trans H;with_reducible exact H2_)|with_reducible exact H|(rw [hy249];exact H)|exact H
         have Ny249:=Aside0.mk hy249;clear hy249
         have H':=Aside0.mk H;clear H
         obtain ⟨hcz25_0,hcz25_1,hcz25_2,hfz25_0,hfz25_1,hfz25_2⟩:=bcells3 BK239.out
         go_wp2_with (first|((with_reducible refine gate_builtin (b:=.append) (xs:=#[.tmp 37,.tmp 42]) rfl ?_);at_builtin;refine Kd.R_append (Kd.int .u8) (w0:=w) w.heap.size rfl (.tmp 37) (.tmp 42) 23 5 (.int .u8 0) 1 rfl Try.underlying23 info5 rfl (by decide) (by omega) u5 x5_2 (((l0_2.length:Int)) % 256) [.int .u8 (((l0_2.length:Int)) % 256)] (fun _=>True) (fun _=>False) rfl rfl ?aP (fun _ hk=>hk.elim) ?aF ?aO ?aB ?aS ?aL ?_;(case aP=>exact rfl);(case aB=>exact (belV1 HB.out GE239.out));(case aF=>exact (fun _ _=>trivial));(case aO=>exact (rowV HO_5.out));(case aS=>exact (below_size (belV1 HB.out GE239.out)));(case aL=>have:=LMc24.out;omega);intro v250 w26 ho hb hg hat;rw [← Ny249.out] at ho;have n0_:=Aside0.mk (blk_grown (g:=gb239) (blkV BK239.out) hg (Kd.R_ne HO_5.out BK239.out (by decide)));have n1_:=Aside0.mk (hb);have n2_:=Aside0.mk (ho);clear BK239;clear HB;clear HO_5;have BK239:=n0_;have HB:=n1_;have HO251:=n2_;clear n0_ n1_ n2_;clear ho hb hg hat;obtain ⟨hcz27_0,hcz27_1,hcz27_2,hfz27_0,hfz27_1,hfz27_2⟩:=bcells3 BK239.out))
         go_loopg [5,47] k2 (fun kq v5 v47 w'=>∃ (x5_3:List Int) (x47_3:Int),v47=.int .i64 x47_3∧Aside0 (bitmap_Encode.l1 kq x5_3 l0_2 (l0_2.length:Int) x47_3=some (r1,r2))∧Aside0 (kq≤k2)∧Aside0 (Kd.R (Kd.int .u8) 5 w' w.heap.size (fun _=>True) v5 x5_3)∧Aside0 (w'.heap[gb239]?=some (.cells #[.bool a0_0,(.slice A0_1 l0_1.length c0_1),(.slice A0_2 l0_2.length c0_2)] 51 (0,0)))∧Aside0 (Below w.heap.size w w'))
         case atStart=>exact ⟨(y249),(0),okV,H',⟨Nat.le_refl _⟩,⟨rowV HO251.out⟩,⟨blkV BK239.out⟩,⟨belV1 HB.out GE239.out⟩⟩
         case round =>
          clear H'
          try clear c1;try clear p1 p1;try clear q1 q1;try clear hx1;try clear qi1;try clear hf1;try clear c2;try clear p2 p2;try clear q2;try clear hx2;try clear c3;try clear c3b0;try clear c3b1;try clear c6;try clear p6;try clear c12;try clear c13;try clear c13b0;try clear c13b1;try clear p14 p14;try clear q14 q14;try clear hx14;try clear qi14;try clear hf14;try clear c18;try clear c18b0;try clear c19;try clear c19b0;try clear c20;try clear c20b0;try clear c24;try clear p24;try clear q24;try clear hx24;try clear hcz11_0 hcz11_1 hcz11_2;try clear hcz17_0 hcz17_1 hcz17_2;try clear hcz25_0 hcz25_1 hcz25_2;try clear hcz27_0 hcz27_1 hcz27_2;try clear hcz6_0 hcz6_1 hcz6_2;try clear hcz8_0 hcz8_1 hcz8_2;try clear hfz11_0 hfz11_1 hfz11_2;try clear hfz17_0 hfz17_1 hfz17_2;try clear hfz25_0 hfz25_1 hfz25_2;try clear hfz27_0 hfz27_1 hfz27_2;try clear hfz6_0 hfz6_1 hfz6_2;try clear hfz8_0 hfz8_1 hfz8_2;try clear hx14_0;try clear hx245_0;try clear p245;try clear q245
          obtain ⟨x5_3,x47_3,rfl,HA,HK3,HO_5,BK239,HB⟩:=hrel
          cases gk with
          | zero=>exact absurd HA.out (by simp [bitmap_Encode.l1])
          | succ k3 =>
           have H:=HA.out;clear HA
           simp only [bitmap_Encode.l1] at H
           by_cases c28:x47_3 < (l0_2.length:Int)
           · rw [if_pos c28] at H
             have c28b0:decide (x47_3 < (l0_2.length:Int))=true:=decide_eq_true c28;clear c28
             by_cases c29:0≤x47_3
             · rw [if_pos c29] at H
               have c29b0:decide (0≤x47_3)=true:=decide_eq_true c29;clear c29
               by_cases c30:x47_3 < (l0_2.length:Int)
               · rw [if_pos c30] at H
                 have c30b0:decide (x47_3 < (l0_2.length:Int))=true:=decide_eq_true c30;clear c30
                 replace H:=Option.bind_eq_some_iff.mp H
                 obtain ⟨⟨t258,t261⟩,A310,H⟩:=H
                 replace H:((bitmap_number.f k3 x5_3 ((rd_T91 l0_2 x47_3).f0) 2).bind fun t262=>((bitmap_number.f k3 t262 ((rd_T91 l0_2 x47_3).f1) 2).bind fun t265=>((some (([((rd_T91 l0_2 x47_3).f2) % 256,((rd_T91 l0_2 x47_3).f3) % 256]:List Int):List Int)).bind fun y268=>(if t265.length+y268.length < 140737488355328 then ((bitmap_number.f k3 (t265 ++ y268) (t258.length:Int) 2).bind fun t274=>(if t274.length+t258.length < 140737488355328 then (bitmap_Encode.l1 k3 (t274 ++ t258) l0_2 (l0_2.length:Int) (wrap64 (x47_3+1))) else (none))) else (none)))))=some (r1,r2):=H
                 have A31:=Aside0.mk A310;clear A310
                 replace H:=Option.bind_eq_some_iff.mp H
                 obtain ⟨t262,A320,H⟩:=H
                 replace H:((bitmap_number.f k3 t262 ((rd_T91 l0_2 x47_3).f1) 2).bind fun t265=>((some (([((rd_T91 l0_2 x47_3).f2) % 256,((rd_T91 l0_2 x47_3).f3) % 256]:List Int):List Int)).bind fun y268=>(if t265.length+y268.length < 140737488355328 then ((bitmap_number.f k3 (t265 ++ y268) (t258.length:Int) 2).bind fun t274=>(if t274.length+t258.length < 140737488355328 then (bitmap_Encode.l1 k3 (t274 ++ t258) l0_2 (l0_2.length:Int) (wrap64 (x47_3+1))) else (none))) else (none))))=some (r1,r2):=H
                 have A32:=Aside0.mk A320;clear A320
                 replace H:=Option.bind_eq_some_iff.mp H
                 obtain ⟨t265,A330,H⟩:=H
                 replace H:((some (([((rd_T91 l0_2 x47_3).f2) % 256,((rd_T91 l0_2 x47_3).f3) % 256]:List Int):List Int)).bind fun y268=>(if t265.length+y268.length < 140737488355328 then ((bitmap_number.f k3 (t265 ++ y268) (t258.length:Int) 2).bind fun t274=>(if t274.length+t258.length < 140737488355328 then (bitmap_Encode.l1 k3 (t274 ++ t258) l0_2 (l0_2.length:Int) (wrap64 (x47_3+1))) else (none))) else (none)))=some (r1,r2):=H
                 have A33:=Aside0.mk A330;clear A330
                 obtain ⟨y268,hy268⟩:∃ y_:List Int,y_=(([((rd_T91 l0_2 x47_3).f2) % 256,((rd_T91 l0_2 x47_3).f3) % 256]:List Int)):=⟨_,rfl⟩
                 replace H:(if t265.length+y268.length < 140737488355328 then ((bitmap_number.f k3 (t265 ++ y268) (t258.length:Int) 2).bind fun t274=>(if t274.length+t258.length < 140737488355328 then (bitmap_Encode.l1 k3 (t274 ++ t258) l0_2 (l0_2.length:Int) (wrap64 (x47_3+1))) else (none))) else (none))=some (r1,r2):=by first|(rw [hy268];with_reducible exact H)|(have H2_:=(Option.bind_some _ _).symm.trans H;rw [hy268];with_reducible exact H2_)|(have H2_:=(Option.bind_some _ _).symm.trans H;with_reducible exact H2_)|with_reducible exact H|(rw [hy268];exact H)|exact H
                 have Ny268:=Aside0.mk hy268;clear hy268
                 by_cases c34:t265.length+y268.length < 140737488355328
                 · rw [if_pos c34] at H
                   have LMc34:=Aside0.mk c34;clear c34
                   obtain ⟨y271,hy271⟩:∃ y_:List Int,y_=(t265 ++ y268):=⟨_,rfl⟩
                   replace H:((bitmap_number.f k3 y271 (t258.length:Int) 2).bind fun t274=>(if t274.length+t258.length < 140737488355328 then (bitmap_Encode.l1 k3 (t274 ++ t258) l0_2 (l0_2.length:Int) (wrap64 (x47_3+1))) else (none)))=some (r1,r2):=by first|(rw [hy271];with_reducible exact H)|(have H2_:=(Option.bind_some _ _).symm.trans H;rw [hy271];with_reducible exact H2_)|(have H2_:=(Option.bind_some _ _).symm.trans H;with_reducible exact H2_)|with_reducible exact H|(rw [hy271];exact H)|exact H
                   have Ny271:=Aside0.mk hy271;clear hy271
                   replace H:=Option.bind_eq_some_iff.mp H
                   obtain ⟨t274,A350,H⟩:=H
                   replace H:(if t274.length+t258.length < 140737488355328 then (bitmap_Encode.l1 k3 (t274 ++ t258) l0_2 (l0_2.length:Int) (wrap64 (x47_3+1))) else (none))=some (r1,r2):=H
                   have A35:=Aside0.mk A350;clear A350
                   by_cases c36:t274.length+t258.length < 140737488355328
                   · rw [if_pos c36] at H
                     have LMc36:=Aside0.mk c36;clear c36
                     obtain ⟨y277,hy277⟩:∃ y_:List Int,y_=(t274 ++ t258):=⟨_,rfl⟩
                     replace H:(bitmap_Encode.l1 k3 y277 l0_2 (l0_2.length:Int) (wrap64 (x47_3+1)))=some (r1,r2):=by first|(rw [hy277];with_reducible exact H)|(have H2_:=(Option.bind_some _ _).symm.trans H;rw [hy277];with_reducible exact H2_)|(have H2_:=(Option.bind_some _ _).symm.trans H;with_reducible exact H2_)|with_reducible exact H|(rw [hy277];exact H)|exact H
                     have Ny277:=Aside0.mk hy277;clear hy277
                     have H':=Aside0.mk H;clear H
                     have p256:0≤(x47_3:Int):=of_decide_eq_true asV
                     have q256:x47_3 < (l0_2.length:Int):=of_decide_eq_true asV
                     obtain ⟨ad256,A256_4,c256_4,e256,hx256_0,hx256_1,hx256_2,hx256_3,hx256_4,hl256_4,hi256_4⟩:=at_T91 HR0_2.out x47_3 p256 q256
                     cases e256
                     replace hx256_0:=(HB.out.cell (World.block_lt_of_cell? w _ hx256_0)).trans hx256_0
                     replace hx256_1:=(HB.out.cell (World.block_lt_of_cell? w _ hx256_1)).trans hx256_1
                     replace hx256_2:=(HB.out.cell (World.block_lt_of_cell? w _ hx256_2)).trans hx256_2
                     replace hx256_3:=(HB.out.cell (World.block_lt_of_cell? w _ hx256_3)).trans hx256_3
                     replace hx256_4:=(HB.out.cell (World.block_lt_of_cell? w _ hx256_4)).trans hx256_4
                     have HR256_4:=Aside0.mk hi256_4
                     have HC256_4:=Aside0.mk hl256_4;clear hi256_4 hl256_4
                     replace p256:=eq_true p256
                     replace q256:=eq_true q256
                     try go_wp2_with (first|((with_reducible refine gate_dst (N:=9) rfl ?_);refine box_event ?hg (N:=9) ?hd (cs:=#[.int .i64 0,.int .i64 0,.int .i64 0,.int .i64 0,.slice none 0 0]) (t:=91) ?hr ?_;(case hd=>rfl);(case hg=>rfl);(case hr=>first|(go_simp;done)|(go_simp;rfl));intro gb257 hg w37 hbox hb;have n0_:=Aside0.mk (Kd.R_below (rowV HO_5.out) hb);have n1_:=Aside0.mk (blk_below (g:=gb239) (blkV BK239.out) hb);have n2_:=Aside0.mk (below_step (belV1 HB.out GE239.out) hb);have n3_:=Aside0.mk (hbox);have n4_:=Aside0.mk ((by rw [hg];exact (below_size (belV1 HB.out GE239.out)):w.heap.size≤gb257));have n5_:=Aside0.mk ((by rw [hg];exact (below_size (belV1 HB.out GE239.out)):w.heap.size≤gb257));have n6_:=Aside0.mk ((by rw [hg];exact Nat.ne_of_lt (blk_lt (g:=gb239) (blkV BK239.out)):gb239≠gb257));have n7_:=Aside0.mk ((by rw [hg];exact Nat.ne_of_gt (blk_lt (g:=gb239) (blkV BK239.out)):gb257≠gb239));clear HO_5;clear BK239;clear HB;have HO_5:=n0_;have BK239:=n1_;have HB:=n2_;have BK257:=n3_;have GW257:=n4_;have GE257:=n5_;have NB239_257:=n6_;have NB257_239:=n7_;clear n0_ n1_ n2_ n3_ n4_ n5_ n6_ n7_;clear hb hbox hg;have hnb38:=NB257_239.out;have hnc38:=NB239_257.out;obtain ⟨hcz39_0,hcz39_1,hcz39_2,hcz39_3,hcz39_4,hfz39_0,hfz39_1,hfz39_2,hfz39_3,hfz39_4⟩:=bcells5 BK257.out)|((with_reducible refine gate_store (t:=91) (p:=9) rfl ?_);refine store_event (t:=91) (p:=9) (v:=?vo_w40) (w1:=(((((w37.setCell ⟨gb257,0,none⟩ (.int .i64 ((rd_T91 l0_2 x47_3).f0))).setCell ⟨gb257,1,none⟩ (.int .i64 ((rd_T91 l0_2 x47_3).f1))).setCell ⟨gb257,2,none⟩ (.int .i64 ((rd_T91 l0_2 x47_3).f2))).setCell ⟨gb257,3,none⟩ (.int .i64 ((rd_T91 l0_2 x47_3).f3))).setCell ⟨gb257,4,none⟩ (.slice A256_4 ((rd_T91 l0_2 x47_3).f4).length c256_4))) ?hg ?ho ?hn ?hr ?_;(case ho=>rfl);(case hg=>rfl);(case hn=>rfl);(case hr=>first|(go_simp;done)|(go_simp;rfl));intro w40 hw;have n0_:Aside0 (Kd.R (Kd.int .u8) 5 w40 w.heap.size (fun _=>True) u5 x5_3):=⟨(by rw [hw];exact (by (with_reducible repeat (first|apply Kd.R_alloc|apply Kd.R_drewN|apply Kd.R_drew));exact Kd.R_mono (Kd.R_far (p:=⟨gb257,4,none⟩) (Kd.R_far (p:=⟨gb257,3,none⟩) (Kd.R_far (p:=⟨gb257,2,none⟩) (Kd.R_far (p:=⟨gb257,1,none⟩) (Kd.R_far (p:=⟨gb257,0,none⟩) (Kd.R_types HO_5.out BK257.out (by decide)) (fun _ hk=>hk.2) (.int .i64 ((rd_T91 l0_2 x47_3).f0))) (fun _ hk=>hk.2) (.int .i64 ((rd_T91 l0_2 x47_3).f1))) (fun _ hk=>hk.2) (.int .i64 ((rd_T91 l0_2 x47_3).f2))) (fun _ hk=>hk.2) (.int .i64 ((rd_T91 l0_2 x47_3).f3))) (fun _ hk=>hk.2) (.slice A256_4 ((rd_T91 l0_2 x47_3).f4).length c256_4)) (fun _ hk=>trivial)))⟩;have n1_:Aside0 (w40.heap[gb239]?=some (.cells #[.bool a0_0,.slice A0_1 l0_1.length c0_1,.slice (some ad256) l0_2.length c0_2] 51 (0,0))):=⟨(by rw [hw];exact (blkW BK239.out NB239_257.out))⟩;have n2_:Aside0 (w40.heap[gb257]?=some (.cells #[.int .i64 ((rd_T91 l0_2 x47_3).f0),.int .i64 ((rd_T91 l0_2 x47_3).f1),.int .i64 ((rd_T91 l0_2 x47_3).f2),.int .i64 ((rd_T91 l0_2 x47_3).f3),.slice A256_4 ((rd_T91 l0_2 x47_3).f4).length c256_4] 91 (0,0))):=⟨(by rw [hw];exact (by (with_reducible repeat (first|refine blk_drewN ?_ _|refine blk_drew ?_|refine blk_alloc ?_ _));refine blk_put (cs:=#[.int .i64 ((rd_T91 l0_2 x47_3).f0),.int .i64 ((rd_T91 l0_2 x47_3).f1),.int .i64 ((rd_T91 l0_2 x47_3).f2),.int .i64 ((rd_T91 l0_2 x47_3).f3),.slice none 0 0]) ?_ 4 _ rfl;(with_reducible repeat (first|refine blk_drewN ?_ _|refine blk_drew ?_|refine blk_alloc ?_ _));refine blk_put (cs:=#[.int .i64 ((rd_T91 l0_2 x47_3).f0),.int .i64 ((rd_T91 l0_2 x47_3).f1),.int .i64 ((rd_T91 l0_2 x47_3).f2),.int .i64 0,.slice none 0 0]) ?_ 3 _ rfl;(with_reducible repeat (first|refine blk_drewN ?_ _|refine blk_drew ?_|refine blk_alloc ?_ _));refine blk_put (cs:=#[.int .i64 ((rd_T91 l0_2 x47_3).f0),.int .i64 ((rd_T91 l0_2 x47_3).f1),.int .i64 0,.int .i64 0,.slice none 0 0]) ?_ 2 _ rfl;(with_reducible repeat (first|refine blk_drewN ?_ _|refine blk_drew ?_|refine blk_alloc ?_ _));refine blk_put (cs:=#[.int .i64 ((rd_T91 l0_2 x47_3).f0),.int .i64 0,.int .i64 0,.int .i64 0,.slice none 0 0]) ?_ 1 _ rfl;(with_reducible repeat (first|refine blk_drewN ?_ _|refine blk_drew ?_|refine blk_alloc ?_ _));refine blk_put (cs:=#[.int .i64 0,.int .i64 0,.int .i64 0,.int .i64 0,.slice none 0 0]) ?_ 0 _ rfl;(with_reducible repeat (first|refine blk_drewN ?_ _|refine blk_drew ?_|refine blk_alloc ?_ _));exact BK257.out))⟩;have n3_:Aside0 (Below w.heap.size w w40):=⟨(by rw [hw];exact (belV2 HB.out GE239.out GE257.out))⟩;clear hw;clear HO_5;clear BK239;clear BK257;clear HB;have HO_5:=n0_;have BK239:=n1_;have BK257:=n2_;have HB:=n3_;clear n0_ n1_ n2_ n3_;obtain ⟨hcz41_0,hcz41_1,hcz41_2,hcz41_3,hcz41_4,hfz41_0,hfz41_1,hfz41_2,hfz41_3,hfz41_4⟩:=bcells5 BK257.out)|((with_reducible refine gate_callee (f:=11) rfl ?_);refine goesL_ (some 56) rfl rfl Try.func11 (by kernel_rfl) rfl #[.slice A256_4 ((rd_T91 l0_2 x47_3).f4).length c256_4,.int .i64 ((rd_T91 l0_2 x47_3).f2)] rfl (by (try simp only [List.map_toArray,List.map_cons,List.map_nil]);first|done|rfl|(simp only [List.length_drop,List.length_take];rfl)) ?_;(with_reducible refine (bitmap_Runs.calls k3 (fun k_=>k_ < w.heap.size) _ _ ((rd_T91 l0_2 x47_3).f4) ((rd_T91 l0_2 x47_3).f2) t258 t261 _ ?side1 A31.out).mono ?_);(case side1=>exact Kd.V_mk HC256_4.out (Kd.F_below (Kd.C_F (Kd.heap_int .i64) HR256_4.out) (belV2 HB.out GE239.out GE257.out)));rintro e w42 ⟨v259,rfl,ho0,hb⟩;refine ⟨_,rfl,?_⟩;have n0_:=Aside0.mk (Kd.R_elder' (rowV HO_5.out) (Kd.R_base ho0) hb);have n1_:=Aside0.mk (Kd.R_lower (Kd.R_new' (Kd.R_mono (ok':=fun k_=>True) ho0 (fun _ hk_=>trivial)) (Kd.R_lt (rowV HO_5.out))) (below_size (belV2 HB.out GE239.out GE257.out)));have n2_:=Aside0.mk (blk_below (g:=gb239) (blkV BK239.out) hb);have n3_:=Aside0.mk (blk_below (g:=gb257) (blkV BK257.out) hb);have n4_:=Aside0.mk (below_step (belV2 HB.out GE239.out GE257.out) hb);clear HO_5;clear BK239;clear BK257;clear HB;have HO_5:=n0_;have HO260:=n1_;have BK239:=n2_;have BK257:=n3_;have HB:=n4_;clear n0_ n1_ n2_ n3_ n4_;(try clear hb);(try clear hb2);(try clear hk);(try clear hi);(try clear ho0)))
                     have n0_:=Aside0.mk (Kd.R_drew HO_5.out)
                     have n1_:=Aside0.mk (Kd.R_drew HO260.out)
                     have n2_:=Aside0.mk (blk_drew BK239.out)
                     have n3_:=Aside0.mk (blk_drew BK257.out)
                     have n4_:=Aside0.mk (below_drew1 HB.out);clear HO_5;clear HO260;clear BK239;clear BK257;clear HB;have HO_5:=n0_;have HO260:=n1_;have BK239:=n2_;have BK257:=n3_;have HB:=n4_;clear n0_ n1_ n2_ n3_ n4_
                     obtain ⟨Ao44,co44,eo44⟩:=Kd.R_slice HO_5.out
                     (first|subst eo44|(injection eo44 with f1_ f2_ f3_;have f4_:=f1_.symm;have f5_:=f3_.symm;clear f1_ f2_ f3_;subst f4_;subst f5_))
                     refine start_ (n:=8) (S:=fun w'=>w'.cell? ⟨gb257,0,none⟩=some (.int .i64 ((rd_T91 l0_2 x47_3).f0))∧w'.cell? ⟨gb257,1,none⟩=some (.int .i64 ((rd_T91 l0_2 x47_3).f1))∧w'.cell? ⟨gb257,2,none⟩=some (.int .i64 ((rd_T91 l0_2 x47_3).f2))∧w'.cell? ⟨gb257,3,none⟩=some (.int .i64 ((rd_T91 l0_2 x47_3).f3))∧w'.cell? ⟨gb257,4,none⟩=some (.slice A256_4 ((rd_T91 l0_2 x47_3).f4).length c256_4)) (ds:=[]) ((bm false [8]).toArray) (by kernel_rfl) rfl rfl ⟨(blk_cell BK257.out 0).trans rfl,(blk_cell BK257.out 1).trans rfl,(blk_cell BK257.out 2).trans rfl,(blk_cell BK257.out 3).trans rfl,(blk_cell BK257.out 4).trans rfl⟩ (fun hHeld=>?_);refine with_tabW bitmap_Encode.tab17 bitmap_Encode.bits17 (fun HT_ HW_=>?_)
                     generalize w42.drew=w43 at HO_5 HO260 BK239 BK257 HB hHeld ⊢
                     refine pure_ (i:=0) (N:=some 59) (v:=?_) (a':=?_) ((bm true [1,7]).toArray) rfl rfl (any_of HT_.out (by kernel_rfl)) (fun _ _ _ h=>h) (Or.inl ⟨by rfl,?_⟩) ?_ ?_;rotate_left
                     · intro w';go_simp;with_reducible rfl
                     rotate_left
                     · simp only [Act.put,List.setIfInBounds_toArray,List.set_cons_zero,List.set_cons_succ,i64_w,i32_w];rfl
                     refine pure_ (i:=1) (N:=some 60) (v:=?_) (a':=?_) ((bm true [2,6]).toArray) rfl rfl (any_of HT_.out (by kernel_rfl)) (fun _ _ _ h=>h) (Or.inl ⟨by rfl,?_⟩) ?_ ?_;rotate_left
                     · intro w';go_simp;with_reducible rfl
                     rotate_left
                     · simp only [Act.put,List.setIfInBounds_toArray,List.set_cons_zero,List.set_cons_succ,i64_w,i32_w];rfl
                     refine pure_ (i:=4) (N:=some 63) (v:=?_) (a':=?_) ((bm true [2,2,1,3]).toArray) rfl rfl (any_of HT_.out (by kernel_rfl)) (fun _ _ _ h=>h) (Or.inl ⟨by rfl,?_⟩) ?_ ?_;rotate_left
                     · intro w';go_simp;with_reducible rfl
                     rotate_left
                     · simp only [Act.put,List.setIfInBounds_toArray,List.set_cons_zero,List.set_cons_succ,i64_w,i32_w];rfl
                     refine take_ (i:=2) (N:=some 61) (v:=?_) (a':=?_) ((bm true [3,1,1,3]).toArray) rfl rfl (take_ofW HT_.out HW_.out (by kernel_rfl)) (fun _ _ _ h=>h) (Or.inl ⟨by rfl,?_⟩) hHeld ?_ ?_;rotate_left
                     · rintro w' ⟨s0,s1,s2,s3,s4⟩
                       go_simp;with_reducible rfl
                     rotate_left
                     · simp only [Act.put,List.setIfInBounds_toArray,List.set_cons_zero,List.set_cons_succ,i64_w,i32_w];rfl
                     refine take_ (i:=5) (N:=some 64) (v:=?_) (a':=?_) ((bm true [3,1,2,2]).toArray) rfl rfl (take_ofW HT_.out HW_.out (by kernel_rfl)) (fun _ _ _ h=>h) (Or.inl ⟨by rfl,?_⟩) hHeld ?_ ?_;rotate_left
                     · rintro w' ⟨s0,s1,s2,s3,s4⟩
                       go_simp;with_reducible rfl
                     rotate_left
                     · simp only [Act.put,List.setIfInBounds_toArray,List.set_cons_zero,List.set_cons_succ,i64_w,i32_w];rfl
                     refine one_ (i:=3) (N:=some 62) ((bm true [6,2]).toArray) rfl rfl (one_of HT_.out (by kernel_rfl)) (by decide) (fun K hK=>?_)
                     refine goes_ Try.func69 (by kernel_rfl) rfl #[.slice Ao44 x5_3.length co44,.int .i64 ((rd_T91 l0_2 x47_3).f0),.int .i64 2] (by rfl) rfl rfl (by (try simp only [List.map_toArray,List.map_cons,List.map_nil]);first|done|rfl|(simp only [List.length_drop,List.length_take];rfl)) ?_
                     with_reducible refine (bitmap_number.calls k3 (fun k_=>some k_=(.slice Ao44 x5_3.length co44:Value).ownBlock) (.slice Ao44 x5_3.length co44) x5_3 ((rd_T91 l0_2 x47_3).f0) 2 t262 w _ ?side1 ?side2 A32.out).mono ?_
                     (case side1=>exact belV2 HB.out GE239.out GE257.out)
                     (case side2=>exact Kd.R_tight rfl HO_5.out)
                     rintro e w45 ⟨v263,rfl,ho0,hb,hkp⟩
                     refine ⟨_,rfl,?_⟩
                     have n0_:=Aside0.mk (blk_kept (blkV BK239.out) hkp (fun hs_=>(fun e_=>(Kd.R_ne HO_5.out BK239.out (by decide)) e_) hs_))
                     have n1_:=Aside0.mk (blk_kept (blkV BK257.out) hkp (fun hs_=>(fun e_=>(Kd.R_ne HO_5.out BK257.out (by decide)) e_) hs_))
                     have n2_:=Aside0.mk (Kd.R_mono (ok':=fun k_=>some k_≠(v263:Value).ownBlock) (Kd.R_keptB (HO260.out) hkp (fun k_ hk_ hs_=>(hk_.2) hs_)) (fun k_ hk_=>fun e_=>Or.elim (ho0.1 k_ e_.symm) (fun hs_=>hk_.2.1 hs_) (fun hn_=>Nat.not_le.2 hk_.2.2 hn_)))
                     have n3_:=Aside0.mk (Kd.R_mono (ok':=fun k_=>some k_≠(v259:Value).ownBlock) ho0 (fun k_ hk_=>Or.elim hk_ (fun hs_=>fun e_=>(((HO260.out).1 k_ e_.symm).2) hs_) (fun hn_=>(Kd.fresh' (Kd.R_lt (rowV HO260.out)) k_ hn_))))
                     have n4_:=Aside0.mk (hb);clear BK239;clear BK257;clear HO260;clear HB;clear HO_5;have BK239:=n0_;have BK257:=n1_;have HO260:=n2_;have HO264:=n3_;have HB:=n4_;clear n0_ n1_ n2_ n3_ n4_
                     (try clear hb)
                     (try clear hkp)
                     (try clear ho0)
                     obtain ⟨Ao46,co46,eo46⟩:=Kd.R_slice HO264.out
                     (first|subst eo46|(injection eo46 with f1_ f2_ f3_;have f4_:=f1_.symm;have f5_:=f3_.symm;clear f1_ f2_ f3_;subst f4_;subst f5_))
                     refine hK.out _ _ ⟨(blk_cell BK257.out 0).trans rfl,(blk_cell BK257.out 1).trans rfl,(blk_cell BK257.out 2).trans rfl,(blk_cell BK257.out 3).trans rfl,(blk_cell BK257.out 4).trans rfl⟩ (fun hHeld=>?_);clear hK K
                     refine norm_ (a':=?_) ?_ ?_;rotate_left
                     · show Act.put _ (some 62) _=_
                       simp only [Act.put,List.setIfInBounds_toArray,List.set_cons_zero,List.set_cons_succ,i64_w,i32_w];rfl
                     refine one_ (i:=6) (N:=some 65) ((bm true [7,1]).toArray) rfl rfl (one_of HT_.out (by kernel_rfl)) (by decide) (fun K hK=>?_)
                     refine goes_ Try.func69 (by kernel_rfl) rfl #[.slice Ao46 t262.length co46,.int .i64 ((rd_T91 l0_2 x47_3).f1),.int .i64 2] (by rfl) rfl rfl (by (try simp only [List.map_toArray,List.map_cons,List.map_nil]);first|done|rfl|(simp only [List.length_drop,List.length_take];rfl)) ?_
                     with_reducible refine (bitmap_number.calls k3 (fun k_=>some k_=(.slice Ao46 t262.length co46:Value).ownBlock) (.slice Ao46 t262.length co46) t262 ((rd_T91 l0_2 x47_3).f1) 2 t265 w _ ?side1 ?side2 A33.out).mono ?_
                     (case side1=>exact belV2 HB.out GE239.out GE257.out)
                     (case side2=>exact Kd.R_tight rfl HO264.out)
                     rintro e w47 ⟨v266,rfl,ho0,hb,hkp⟩
                     refine ⟨_,rfl,?_⟩
                     have n0_:=Aside0.mk (blk_kept (blkV BK239.out) hkp (fun hs_=>(fun e_=>(Kd.R_ne HO264.out BK239.out (by decide)) e_) hs_))
                     have n1_:=Aside0.mk (blk_kept (blkV BK257.out) hkp (fun hs_=>(fun e_=>(Kd.R_ne HO264.out BK257.out (by decide)) e_) hs_))
                     have n2_:=Aside0.mk (Kd.R_mono (ok':=fun k_=>some k_≠(v266:Value).ownBlock) (Kd.R_keptB (HO260.out) hkp (fun k_ hk_ hs_=>(hk_) hs_)) (fun k_ hk_=>fun e_=>Or.elim (ho0.1 k_ e_.symm) (fun hs_=>hk_.2.1 hs_) (fun hn_=>Nat.not_le.2 hk_.2.2 hn_)))
                     have n3_:=Aside0.mk (Kd.R_mono (ok':=fun k_=>some k_≠(v259:Value).ownBlock) ho0 (fun k_ hk_=>Or.elim hk_ (fun hs_=>fun e_=>(((HO260.out).1 k_ e_.symm)) hs_) (fun hn_=>(Kd.fresh' (Kd.R_lt (rowV HO260.out)) k_ hn_))))
                     have n4_:=Aside0.mk (hb);clear BK239;clear BK257;clear HO260;clear HB;clear HO264;have BK239:=n0_;have BK257:=n1_;have HO260:=n2_;have HO267:=n3_;have HB:=n4_;clear n0_ n1_ n2_ n3_ n4_
                     (try clear hb)
                     (try clear hkp)
                     (try clear ho0)
                     refine hK.out _ _ ⟨(blk_cell BK257.out 0).trans rfl,(blk_cell BK257.out 1).trans rfl,(blk_cell BK257.out 2).trans rfl,(blk_cell BK257.out 3).trans rfl,(blk_cell BK257.out 4).trans rfl⟩ (fun hHeld=>?_);clear hK K
                     refine norm_ (a':=?_) ?_ ?_;rotate_left
                     · show Act.put _ (some 65) _=_
                       simp only [Act.put,List.setIfInBounds_toArray,List.set_cons_zero,List.set_cons_succ,i64_w,i32_w];rfl
                     refine pure_ (i:=7) (N:=some 5) (v:=?_) (a':=?_) ((bm true [8]).toArray) rfl rfl (any_of HT_.out (by kernel_rfl)) (fun _ _ _ h=>h) (Or.inl ⟨by rfl,?_⟩) ?_ ?_;rotate_left
                     · intro w';go_simp;with_reducible rfl
                     rotate_left
                     · simp only [Act.put,List.setIfInBounds_toArray,List.set_cons_zero,List.set_cons_succ,i64_w,i32_w];rfl
                     refine done_ (done_of HT_.out (by kernel_rfl)) ?_
                     obtain ⟨hcz48_0,hcz48_1,hcz48_2,hcz48_3,hcz48_4,hfz48_0,hfz48_1,hfz48_2,hfz48_3,hfz48_4⟩:=bcells5 BK257.out
                     try go_wp2_with (first|((with_reducible refine gate_dst (N:=73) rfl ?_);refine Kd.R_lit (Kd.int .u8) _ 5 ?hg (N:=73) ?hd (xs:=([((rd_T91 l0_2 x47_3).f2) % 256,((rd_T91 l0_2 x47_3).f3) % 256]:List Int)) (inner:=[.int .u8 (((rd_T91 l0_2 x47_3).f2) % 256),.int .u8 (((rd_T91 l0_2 x47_3).f3) % 256)]) (ok:=fun _=>True) (okp:=fun _=>True) ?hr ?hp (fun _ hk=>hk) trivial (Below.refl _ _) (Nat.le_refl _) (by simp) ?_;(case hd=>rfl);(case hg=>rfl);(case hr=>first|(go_simp;done)|(go_simp;rfl));(case hp=>exact (Reps.one (show Kd.M (Kd.int .u8) _ _ _ (((rd_T91 l0_2 x47_3).f2) % 256) [.int .u8 (((rd_T91 l0_2 x47_3).f2) % 256)] from rfl) (Reps.one (show Kd.M (Kd.int .u8) _ _ _ (((rd_T91 l0_2 x47_3).f3) % 256) [.int .u8 (((rd_T91 l0_2 x47_3).f3) % 256)] from rfl) (Reps.none _ _))));intro v269 w49 ho50 hb hg_ hnew_;clear hg_ hnew_;(first|rw [← Ny268.out] at ho50|(simp only [Int.reduceToNat] at ho50;rw [← Ny268.out] at ho50));have n0_:=Aside0.mk (Kd.R_elder' (rowV HO260.out) (Kd.R_base ho50) hb);have n1_:=Aside0.mk (Kd.R_elder' (rowV HO267.out) (Kd.R_base ho50) hb);have n2_:=Aside0.mk (Kd.R_lower (Kd.R_new' (Kd.R_new' ho50 (Kd.R_lt (rowV HO260.out))) (Kd.R_lt (rowV HO267.out))) (below_size (belV2 HB.out GE239.out GE257.out)));have n3_:=Aside0.mk (blk_below (g:=gb239) (blkV BK239.out) hb);have n4_:=Aside0.mk (blk_below (g:=gb257) (blkV BK257.out) hb);have n5_:=Aside0.mk (below_step (belV2 HB.out GE239.out GE257.out) hb);clear HO260;clear HO267;clear BK239;clear BK257;clear HB;have HO260:=n0_;have HO267:=n1_;have HO270:=n2_;have BK239:=n3_;have BK257:=n4_;have HB:=n5_;clear n0_ n1_ n2_ n3_ n4_ n5_;clear hb ho50;obtain ⟨Ao52,co52,eo52⟩:=Kd.R_slice HO270.out;subst eo52)|((with_reducible refine gate_builtin (b:=.append) (xs:=#[.tmp 66,.tmp 73]) rfl ?_);at_builtin;refine Kd.R_append_rows (Kd.int .u8) (w0:=w) w.heap.size rfl (.tmp 66) (.tmp 73) 23 5 (.int .u8 0) 1 rfl Try.underlying23 info5 rfl (by decide) (by omega) v266 t265 y268 _ _ _ (fun k_=>some k_≠(v259:Value).ownBlock) (fun _=>False) rfl rfl ?aO ?aR (fun _ _ h=>h) (fun _ h=>h.elim) ?aF ?aB ?aS ?aL ?_;(case aR=>exact cV (Kd.R_reads' HO270.out).2.2);(case aB=>exact (belV2 HB.out GE239.out GE257.out));(case aF=>exact (fun k_ hk=>Kd.fresh' (Kd.R_lt (rowV HO260.out)) k_ hk));(case aO=>exact (by (with_reducible repeat (first|apply Kd.R_alloc|apply Kd.R_drewN|apply Kd.R_drew));exact Kd.R_mono HO267.out (fun _ hk=>hk.1)));(case aS=>exact (below_size (belV2 HB.out GE239.out GE257.out)));(case aL=>have:=LMc34.out;omega);intro v272 w51 ho hb hg hat;rw [← Ny271.out] at ho;have n0_:=Aside0.mk (blk_grown (g:=gb239) (blkV BK239.out) hg (Kd.R_ne HO267.out BK239.out (by decide)));have n1_:=Aside0.mk (blk_grown (g:=gb257) (blkV BK257.out) hg (Kd.R_ne HO267.out BK257.out (by decide)));have n2_:=Aside0.mk (Kd.R_after (ok:=(fun k_=>some k_≠(.slice Ao52 y268.length co52:Value).ownBlock)) (by (with_reducible repeat (first|apply Kd.R_alloc|apply Kd.R_drewN|apply Kd.R_drew));exact Kd.R_mono HO260.out (fun _ hk=>⟨hk.2,hk.1⟩)) hg hat);have n3_:=Aside0.mk (hb);have n4_:=Aside0.mk (ho);clear BK239;clear BK257;clear HO260;clear HB;clear HO267;clear HO270;have BK239:=n0_;have BK257:=n1_;have HO260:=n2_;have HB:=n3_;have HO273:=n4_;clear n0_ n1_ n2_ n3_ n4_;clear ho hb hg hat;obtain ⟨Ao53,co53,eo53⟩:=Kd.R_slice HO260.out;subst eo53;obtain ⟨Ao54,co54,eo54⟩:=Kd.R_slice HO273.out;subst eo54)|((with_reducible refine gate_callee (f:=69) rfl ?_);refine goesL_ (some 78) rfl rfl Try.func69 (by kernel_rfl) rfl #[.slice Ao54 y271.length co54,.int .i64 (t258.length:Int),.int .i64 2] rfl (by (try simp only [List.map_toArray,List.map_cons,List.map_nil]);first|done|rfl|(simp only [List.length_drop,List.length_take];rfl)) ?_;(with_reducible refine (bitmap_number.calls k3 (fun k_=>some k_=(.slice Ao54 y271.length co54:Value).ownBlock) (.slice Ao54 y271.length co54) y271 (t258.length:Int) 2 t274 w _ ?side1 ?side2 A35.out).mono ?_);(case side1=>exact belV2 HB.out GE239.out GE257.out);(case side2=>exact Kd.R_tight rfl HO273.out);rintro e w55 ⟨v275,rfl,ho0,hb,hkp⟩;refine ⟨_,rfl,?_⟩;have n0_:=Aside0.mk (blk_kept (blkV BK239.out) hkp (fun hs_=>(fun e_=>(Kd.R_ne HO273.out BK239.out (by decide)) e_) hs_));have n1_:=Aside0.mk (blk_kept (blkV BK257.out) hkp (fun hs_=>(fun e_=>(Kd.R_ne HO273.out BK257.out (by decide)) e_) hs_));have n2_:=Aside0.mk (Kd.R_mono (ok':=fun k_=>some k_≠(v275:Value).ownBlock) (Kd.R_keptB (HO260.out) hkp (fun k_ hk_ hs_=>(hk_.2) hs_)) (fun k_ hk_=>fun e_=>Or.elim (ho0.1 k_ e_.symm) (fun hs_=>hk_.2.1 hs_) (fun hn_=>Nat.not_le.2 hk_.2.2 hn_)));have n3_:=Aside0.mk (Kd.R_mono (ok':=fun k_=>some k_≠(.slice Ao53 t258.length co53:Value).ownBlock) ho0 (fun k_ hk_=>Or.elim hk_ (fun hs_=>fun e_=>(((HO260.out).1 k_ e_.symm).2) hs_) (fun hn_=>(Kd.fresh' (Kd.R_lt (rowV HO260.out)) k_ hn_))));have n4_:=Aside0.mk (hb);clear BK239;clear BK257;clear HO260;clear HB;clear HO273;have BK239:=n0_;have BK257:=n1_;have HO260:=n2_;have HO276:=n3_;have HB:=n4_;clear n0_ n1_ n2_ n3_ n4_;(try clear hb);(try clear hkp);(try clear ho0))|((with_reducible refine gate_builtin (b:=.append) (xs:=#[.tmp 78,.tmp 79]) rfl ?_);at_builtin;refine Kd.R_append_rows (Kd.int .u8) (w0:=w) w.heap.size rfl (.tmp 78) (.tmp 79) 23 5 (.int .u8 0) 1 rfl Try.underlying23 info5 rfl (by decide) (by omega) v275 t274 t258 _ _ _ (fun k_=>some k_≠(.slice Ao53 t258.length co53:Value).ownBlock) (fun _=>False) rfl rfl ?aO ?aR (fun _ _ h=>h) (fun _ h=>h.elim) ?aF ?aB ?aS ?aL ?_;(case aR=>exact cV (Kd.R_reads' HO260.out).2.2);(case aB=>exact (belV2 HB.out GE239.out GE257.out));(case aF=>exact (fun k_ hk=>Kd.fresh' (Kd.R_lt (rowV HO260.out)) k_ hk));(case aO=>exact (rowV HO276.out));(case aS=>exact (below_size (belV2 HB.out GE239.out GE257.out)));(case aL=>have:=LMc36.out;omega);intro v278 w56 ho hb hg hat;rw [← Ny277.out] at ho;have n0_:=Aside0.mk (blk_grown (g:=gb239) (blkV BK239.out) hg (Kd.R_ne HO276.out BK239.out (by decide)));have n1_:=Aside0.mk (blk_grown (g:=gb257) (blkV BK257.out) hg (Kd.R_ne HO276.out BK257.out (by decide)));have n2_:=Aside0.mk (Kd.R_after (ok:=(fun _=>True)) (by (with_reducible repeat (first|apply Kd.R_alloc|apply Kd.R_drewN|apply Kd.R_drew));exact Kd.R_mono HO260.out (fun _ hk=>⟨trivial,hk⟩)) hg hat);have n3_:=Aside0.mk (hb);have n4_:=Aside0.mk (ho);clear BK239;clear BK257;clear HO260;clear HB;clear HO276;have BK239:=n0_;have BK257:=n1_;have HO260:=n2_;have HB:=n3_;have HO279:=n4_;clear n0_ n1_ n2_ n3_ n4_;clear ho hb hg hat))
                     go_roundg k3
                     case measure=>have:=HJ3.out;have:=HK2.out;have:=HK3.out;omega
                     case rel=>exact ⟨(y277),(wrap64 (x47_3+1)),okV,H',⟨by have:=HJ3.out;have:=HK2.out;have:=HK3.out;omega⟩,⟨by (with_reducible repeat (first|apply Kd.R_alloc|apply Kd.R_drewN|apply Kd.R_drew));exact Kd.R_mono HO279.out (fun _ hk=>trivial)⟩,⟨blkV BK239.out⟩,⟨belV2 HB.out GE239.out GE257.out⟩⟩
                   rw [if_neg c36] at H
                   exact absurd H (by simp)
                 rw [if_neg c34] at H
                 exact absurd H (by simp)
               rw [if_neg c30] at H
               exact absurd H (by simp)
             rw [if_neg c29] at H
             exact absurd H (by simp)
           rw [if_neg c28] at H
           have c28b0:decide (x47_3 < (l0_2.length:Int))=false:=decide_eq_false c28;clear c28
           replace H:=Option.bind_eq_some_iff.mp H
           obtain ⟨t252,A570,H⟩:=H
           replace H:((bitmap_number.f k3 x5_3 (wrap64 (t252)) 4).bind fun t253=>(some (t253,0)))=some (r1,r2):=H
           have A57:=Aside0.mk A570;clear A570
           replace H:=Option.bind_eq_some_iff.mp H
           obtain ⟨t253,A580,H⟩:=H
           replace H:(some (t253,0))=some (r1,r2):=H
           have A58:=Aside0.mk A580;clear A580
           simp only [Option.some.injEq,Prod.mk.injEq] at H
           obtain ⟨rfl,rfl⟩:=H
           obtain ⟨Ao59,co59,eo59⟩:=Kd.R_slice HO_5.out;subst eo59
           go_wp2_with (first|((with_reducible refine gate_callee (f:=56) rfl ?_);refine goesL_ (some 84) rfl rfl Try.func56 (by kernel_rfl) rfl #[.slice Ao59 x5_3.length co59] rfl (by (try simp only [List.map_toArray,List.map_cons,List.map_nil]);first|done|rfl|(simp only [List.length_drop,List.length_take];rfl)) ?_;(with_reducible refine (bits_Sum.calls k3 _ _ x5_3 t252 _ ?side1 ?side2 A57.out).mono ?_);(case side1=>exact cV (Kd.R_reads' HO_5.out).2.2);(case side2=>exact (Kd.R_reads' HO_5.out).2.1);rintro e w' ⟨rfl,⟨nd,rfl⟩⟩;refine ⟨_,rfl,?_⟩)|((with_reducible refine gate_callee (f:=69) rfl ?_);refine goesL_ (some 86) rfl rfl Try.func69 (by kernel_rfl) rfl #[.slice Ao59 x5_3.length co59,.int .i64 (wrap64 (t252)),.int .i64 4] rfl (by (try simp only [List.map_toArray,List.map_cons,List.map_nil]);first|done|rfl|(simp only [List.length_drop,List.length_take];rfl)) ?_;(with_reducible refine (bitmap_number.calls k3 (fun k_=>some k_=(.slice Ao59 x5_3.length co59:Value).ownBlock) (.slice Ao59 x5_3.length co59) x5_3 (wrap64 (t252)) 4 t253 w _ ?side1 ?side2 A58.out).mono ?_);(case side1=>exact belV1 HB.out GE239.out);(case side2=>exact Kd.R_tight rfl HO_5.out);rintro e w60 ⟨v254,rfl,ho0,hb,hkp⟩;refine ⟨_,rfl,?_⟩;have n0_:=Aside0.mk (blk_kept (blkV BK239.out) hkp (fun hs_=>(fun e_=>(Kd.R_ne HO_5.out BK239.out (by decide)) e_) hs_));have n1_:=Aside0.mk (Kd.R_mono (ok':=fun k_=>True) ho0 (fun k_ hk_=>trivial));have n2_:=Aside0.mk (hb);clear BK239;clear HB;clear HO_5;have BK239:=n0_;have HO255:=n1_;have HB:=n2_;clear n0_ n1_ n2_;(try clear hb);(try clear hkp);(try clear ho0)))
           go_ret2
           exact ⟨_,by first|rfl|(simp [errW_none,errW_some] <;> rfl)|(simp [*,errW_none,errW_some] <;> rfl),by (with_reducible repeat (first|apply Kd.R_alloc|apply Kd.R_drewN|apply Kd.R_drew));exact HO255.out,by repeat (first|(with_reducible first|exact HB.out|apply below_alloc|apply pw_below_drewN|apply below_drew1|refine below_set ?_ GE239.out)|exact HB.out)⟩
       rw [if_neg c24] at H
       exact absurd H (by simp)
 rw [if_neg c3] at H
 have c3b0:(t240 == 0)=false:=beq_eq_false_iff_ne.mpr c3
 have c3b1:(t240 != 0)=true:=bne_iff_ne.mpr c3
 simp only [Option.some.injEq,Prod.mk.injEq] at H
 obtain ⟨rfl,rfl⟩:=H
 go_enter Try.func35,Try.ntmps35
 go_wp2_with (first|((with_reducible refine gate_dst (N:=1) rfl ?_);refine box_event ?hg (N:=1) ?hd (cs:=#[.bool a0_0,.slice A0_1 l0_1.length c0_1,.slice A0_2 l0_2.length c0_2]) (t:=51) ?hr ?_;(case hd=>rfl);(case hg=>rfl);(case hr=>first|(go_simp;done)|(go_simp;rfl));intro gb239 hg w61 hbox hb;have n0_:=Aside0.mk (below_step (belV HB.out) hb);have n1_:=Aside0.mk (hbox);have n2_:=Aside0.mk ((by rw [hg];exact (below_size (belV HB.out)):w.heap.size≤gb239));have n3_:=Aside0.mk ((by rw [hg];exact (below_size (belV HB.out)):w.heap.size≤gb239));clear HB;have HB:=n0_;have BK239:=n1_;have GW239:=n2_;have GE239:=n3_;clear n0_ n1_ n2_ n3_;clear hb hbox hg;obtain ⟨hcz62_0,hcz62_1,hcz62_2,hfz62_0,hfz62_1,hfz62_2⟩:=bcells3 BK239.out)|((with_reducible refine gate_callee (f:=39) rfl ?_);refine goesL_ (some 13) rfl rfl Try.func39 (by kernel_rfl) rfl #[.agg #[.bool a0_0,.slice A0_1 l0_1.length c0_1,.slice A0_2 l0_2.length c0_2]] rfl (by (try simp only [List.map_toArray,List.map_cons,List.map_nil]);first|done|rfl|(simp only [List.length_drop,List.length_take];rfl)) ?_;(with_reducible refine (bitmap_Check.calls k a0_0 _ _ l0_1 _ _ l0_2 t240 _ ?side1 ?side2 ?side3 ?side4 A2.out).mono ?_);(case side1=>exact cV (Kd.C_below HR0_1.out HB.out));(case side2=>exact HC0_1.out);(case side3=>exact cV (Kd.C_below HR0_2.out HB.out));(case side4=>exact HC0_2.out);rintro e w63 ⟨rfl,hb⟩;refine ⟨_,rfl,?_⟩;have n0_:=Aside0.mk (blk_below (g:=gb239) (blkV BK239.out) hb);have n1_:=Aside0.mk (below_step (belV1 HB.out GE239.out) hb);clear BK239;clear HB;have BK239:=n0_;have HB:=n1_;clear n0_ n1_;(try clear hb);(try clear hb2);(try clear hk);(try clear hi)))
 go_ret2
 exact ⟨_,by first|rfl|(simp [errW_none,errW_some] <;> rfl)|(simp [*,errW_none,errW_some] <;> rfl),by first|exact Kd.R_nil _ _ _ _ _|exact Kd.N_nil _ _ _ _ _|exact Kd.V_nil _ _ _ _ _|exact Kd.Q_nil _ _ _ _ _|exact Kd.S_nil _ _ _ _ _,by repeat (first|(with_reducible first|exact HB.out|apply below_alloc|apply pw_below_drewN|apply below_drew1|refine below_set ?_ GE239.out)|exact HB.out)⟩

/-! ### dioramaref19_in: function 50 -/
def dioramaref19_in.f (a0 : Int) (a1 : Int) (a2 : Int) : Option (Bool) := if a0 ≥ a1 then (some (decide (a0 ≤ a2))) else (some false)
set_option maxHeartbeats 8000000 in
set_option maxRecDepth 100000 in
theorem dioramaref19_in.calls (a0:Int) (a1:Int) (a2:Int) (r:Bool) (w:World) (h:dioramaref19_in.f a0 a1 a2=some r) :
 Calls Try.prog 50 #[.int .i64 a0,.int .i64 a1,.int .i64 a2] w fun e w'=>e=.returned (.bool r)∧Drawn0 w w':=by
 have H:(if a0≥a1 then (some (decide (a0≤a2))) else (some false))=some r:=h;clear h
 by_cases c4:a0≥a1
 · rw [if_pos c4] at H
   have c4b0:decide (a1≤a0)=true:=decide_eq_true c4;clear c4
   obtain rfl:=Option.some.inj H
   go_enter Try.func50,Try.ntmps50
   go_wp2
   go_ret
   exact ⟨by first|rfl|(simp;done)|(simp [*];done),by repeat (first|exact Drawn0.refl _|apply Drawn0.step)⟩
 rw [if_neg c4] at H
 have c4b0:decide (a1≤a0)=false:=decide_eq_false c4;clear c4
 obtain rfl:=Option.some.inj H
 go_enter Try.func50,Try.ntmps50
 go_wp2
 go_ret
 exact ⟨by first|rfl|(simp;done)|(simp [*];done),by repeat (first|exact Drawn0.refl _|apply Drawn0.step)⟩

/-! ### dioramaref19_all: function 51 -/
def dioramaref19_all.l0 : Nat → List Int → Int → Int → Int → Option (Bool)
 | 0,_,_,_,_=>none
 | k+1,x0,x1,x2,x7=>if x7 < (x0.length:Int) then (if 0≤x7 then ((dioramaref19_in.f (rd x0 x7) x1 x2).bind fun t281=>(if t281=true then (dioramaref19_all.l0 k x0 x1 x2 (wrap64 (x7+1))) else (some false))) else (none)) else (some true)
def dioramaref19_all.f (k : Nat) (l0 : List Int) (a1 : Int) (a2 : Int) : Option (Bool) := dioramaref19_all.l0 k l0 a1 a2 0
theorem dioramaref19_all.mono_l:∀ k,(∀ y0 y1 y2 y3,LeO (dioramaref19_all.l0 k y0 y1 y2 y3) (dioramaref19_all.l0 (k+1) y0 y1 y2 y3))
 | 0=>fun _ _ _ _ r h=>by simp [dioramaref19_all.l0] at h
 | k+1=>by
  have ih0:=dioramaref19_all.mono_l k
  · intro y0 y1 y2 y3
    unfold dioramaref19_all.l0
    repeat' first
    | (with_reducible exact ih0 _ _ _ _)
    | (with_reducible exact LeO.refl _)
    | (with_reducible exact LeO.none _)
    | (with_reducible refine LeO.ite ?_ ?_)
    | (with_reducible refine LeO.bind ?_ (fun _=>?_))
    | exact LeO.none _
    | refine LeO.ite ?_ ?_
    | refine LeO.bind ?_ (fun _=>?_)
theorem dioramaref19_all.mono:∀ a0 a1 a2 k,LeO (dioramaref19_all.f k a0 a1 a2) (dioramaref19_all.f (k+1) a0 a1 a2):=by
 intro a0 a1 a2 k
 have ih0:=dioramaref19_all.mono_l k
 unfold dioramaref19_all.f
 repeat' first
  | (with_reducible exact ih0 _ _ _ _)
  | (with_reducible exact LeO.refl _)
  | (with_reducible exact LeO.none _)
  | (with_reducible refine LeO.ite ?_ ?_)
  | (with_reducible refine LeO.bind ?_ (fun _=>?_))
  | exact LeO.none _
  | refine LeO.ite ?_ ?_
  | refine LeO.bind ?_ (fun _=>?_)
set_option maxHeartbeats 8000000 in
set_option maxRecDepth 100000 in
theorem dioramaref19_all.calls (k:Nat) (A0:Option Addr) (c0:Nat) (l0:List Int) (a1:Int) (a2:Int) (r:Bool) (w:World) (hr0:Kd.C (Kd.int .i64) w A0 l0.length l0) (hc0:l0.length≤c0) (h:dioramaref19_all.f k l0 a1 a2=some r) :
 Calls Try.prog 51 #[.slice A0 l0.length c0,.int .i64 a1,.int .i64 a2] w fun e w'=>e=.returned (.bool r)∧Drawn0 w w':=by
 have HR0:=Aside0.mk hr0
 have HC0:=Aside0.mk hc0;clear hr0 hc0
 have H:(dioramaref19_all.l0 k l0 a1 a2 0)=some r:=h;clear h
 have H':=Aside0.mk H;clear H
 go_enter Try.func51,Try.ntmps51
 go_wp2
 go_loopg [7] k (fun kq v7 w'=>∃ (x7_1:Int),v7=.int .i64 x7_1∧Aside0 (dioramaref19_all.l0 kq l0 a1 a2 x7_1=some r)∧Aside0 (kq≤k)∧Drawn0 w w')
 case atStart=>exact ⟨(0),okV,H',⟨Nat.le_refl _⟩,by repeat (first|exact Drawn0.refl _|apply Drawn0.step)⟩
 case round =>
  clear H'
  try clear p2
  obtain ⟨x7_1,rfl,HA,HK1,⟨m1,rfl⟩⟩:=hrel
  cases gk with
  | zero=>exact absurd HA.out (by simp [dioramaref19_all.l0])
  | succ k1 =>
   have H:=HA.out;clear HA
   simp only [dioramaref19_all.l0] at H
   by_cases c4:x7_1 < (l0.length:Int)
   · rw [if_pos c4] at H
     have c4b0:decide (x7_1 < (l0.length:Int))=true:=decide_eq_true c4;clear c4
     by_cases c5:0≤x7_1
     · rw [if_pos c5] at H
       have c5b0:decide (0≤x7_1)=true:=decide_eq_true c5;clear c5
       replace H:=Option.bind_eq_some_iff.mp H
       obtain ⟨t281,A60,H⟩:=H
       replace H:(if t281=true then (dioramaref19_all.l0 k1 l0 a1 a2 (wrap64 (x7_1+1))) else (some false))=some r:=H
       have A6:=Aside0.mk A60;clear A60
       by_cases c7:t281=true
       · subst c7
         have H1:(dioramaref19_all.l0 k1 l0 a1 a2 (wrap64 (x7_1+1)))=some r:=by rw [if_pos rfl] at H;exact H
         clear H
         have H:=H1;clear H1
         have H':=Aside0.mk H;clear H
         have p280:0≤(x7_1:Int):=of_decide_eq_true asV
         have q280:x7_1 < (l0.length:Int):=of_decide_eq_true asV
         obtain ⟨ad280,e280,hx280_0⟩:=Kd.at_int HR0.out x7_1 p280 q280
         cases e280
         replace p280:=eq_true p280
         replace q280:=eq_true q280
         go_wp2_with (first|((with_reducible refine gate_callee (f:=50) rfl ?_);refine goesL_ (some 20) rfl rfl Try.func50 (by kernel_rfl) rfl #[.int .i64 (rd l0 x7_1),.int .i64 a1,.int .i64 a2] rfl (by (try simp only [List.map_toArray,List.map_cons,List.map_nil]);first|done|rfl|(simp only [List.length_drop,List.length_take];rfl)) ?_;(with_reducible refine (dioramaref19_in.calls (rd l0 x7_1) a1 a2 true _ A6.out).mono ?_);rintro e w' ⟨rfl,⟨nd,rfl⟩⟩;refine ⟨_,rfl,?_⟩))
         go_roundg k1
         case measure=>have:=HK1.out;omega
         case rel=>exact ⟨(wrap64 (x7_1+1)),okV,H',⟨by have:=HK1.out;omega⟩,by repeat (first|exact Drawn0.refl _|apply Drawn0.step)⟩
       replace c7:=Bool.eq_false_iff.mpr c7;subst c7
       have H1:(some false)=some r:=by rw [if_neg (show ¬ (false=true) by decide)] at H;exact H
       clear H
       have H:=H1;clear H1
       obtain rfl:=Option.some.inj H
       have p280:0≤(x7_1:Int):=of_decide_eq_true asV
       have q280:x7_1 < (l0.length:Int):=of_decide_eq_true asV
       obtain ⟨ad280,e280,hx280_0⟩:=Kd.at_int HR0.out x7_1 p280 q280
       cases e280
       replace p280:=eq_true p280
       replace q280:=eq_true q280
       go_wp2_with (first|((with_reducible refine gate_callee (f:=50) rfl ?_);refine goesL_ (some 20) rfl rfl Try.func50 (by kernel_rfl) rfl #[.int .i64 (rd l0 x7_1),.int .i64 a1,.int .i64 a2] rfl (by (try simp only [List.map_toArray,List.map_cons,List.map_nil]);first|done|rfl|(simp only [List.length_drop,List.length_take];rfl)) ?_;(with_reducible refine (dioramaref19_in.calls (rd l0 x7_1) a1 a2 false _ A6.out).mono ?_);rintro e w' ⟨rfl,⟨nd,rfl⟩⟩;refine ⟨_,rfl,?_⟩))
       go_ret
       exact ⟨by first|rfl|(simp;done)|(simp [*];done),by repeat (first|exact Drawn0.refl _|apply Drawn0.step)⟩
     rw [if_neg c5] at H
     exact absurd H (by simp)
   rw [if_neg c4] at H
   have c4b0:decide (x7_1 < (l0.length:Int))=false:=decide_eq_false c4;clear c4
   obtain rfl:=Option.some.inj H
   go_wp2
   go_ret
   exact ⟨by first|rfl|(simp;done)|(simp [*];done),by repeat (first|exact Drawn0.refl _|apply Drawn0.step)⟩

/-! ### dioramaref19_row: function 52 -/
mutual
def dioramaref19_row.l0 : Nat → List Int → List Int → Int → Option (List Int)
 | 0,_,_,_=>none
 | k+1,x0,x3,x4=>if x4 < (x0.length:Int) then (dioramaref19_row.l1 k x0 x3 x4 1) else (some x3)
def dioramaref19_row.j2 : Nat → List Int → List Int → Int → Int → Option (List Int)
 | 0,_,_,_,_=>none
 | k+1,x0,x3,x4,x5=>if (wrap64 (x4+x5))=(x0.length:Int) then (if 0≤x4 then (if x4 < (x0.length:Int) then (if x3.length < 140737488355328 then (dioramaref19_row.l0 k x0 (x3 ++ [(wrap64 (16*(rd x0 x4))) % 256]) (wrap64 (x4+x5))) else (none)) else (none)) else (none)) else (if x5 < 15 then (if 0≤x4 then (if x4 < (x0.length:Int) then (if x3.length < 140737488355328 then (dioramaref19_row.l0 k x0 (x3 ++ [(wrap64 ((wrap64 (16*(rd x0 x4)))+x5)) % 256]) (wrap64 (x4+x5))) else (none)) else (none)) else (none)) else (if 0≤x4 then (if x4 < (x0.length:Int) then ((some (([(wrap64 ((wrap64 (16*(rd x0 x4)))+15)) % 256,(wrap64 (x5 - 15)) % 256]:List Int):List Int)).bind fun y293=>(if x3.length+y293.length < 140737488355328 then (dioramaref19_row.l0 k x0 (x3 ++ y293) (wrap64 (x4+x5))) else (none))) else (none)) else (none)))
def dioramaref19_row.l1 : Nat → List Int → List Int → Int → Int → Option (List Int)
 | 0,_,_,_,_=>none
 | k+1,x0,x3,x4,x5=>if (wrap64 (x4+x5)) < (x0.length:Int) then (if 0≤(wrap64 (x4+x5)) then (if 0≤x4 then (if x4 < (x0.length:Int) then (if (rd x0 (wrap64 (x4+x5)))=(rd x0 x4) then (dioramaref19_row.l1 k x0 x3 x4 (wrap64 (x5+1))) else (dioramaref19_row.j2 k x0 x3 x4 x5)) else (none)) else (none)) else (none)) else (dioramaref19_row.j2 k x0 x3 x4 x5)
end
def dioramaref19_row.f (k : Nat) (l0 : List Int) : Option (List Int) := dioramaref19_row.l0 k l0 ([] : List Int) 0
theorem dioramaref19_row.mono_l:∀ k,(∀ y0 y1 y2,LeO (dioramaref19_row.l0 k y0 y1 y2) (dioramaref19_row.l0 (k+1) y0 y1 y2))∧(∀ y0 y1 y2 y3,LeO (dioramaref19_row.j2 k y0 y1 y2 y3) (dioramaref19_row.j2 (k+1) y0 y1 y2 y3))∧(∀ y0 y1 y2 y3,LeO (dioramaref19_row.l1 k y0 y1 y2 y3) (dioramaref19_row.l1 (k+1) y0 y1 y2 y3))
 | 0=>⟨fun _ _ _ r h=>by simp [dioramaref19_row.l0] at h,fun _ _ _ _ r h=>by simp [dioramaref19_row.j2] at h,fun _ _ _ _ r h=>by simp [dioramaref19_row.l1] at h⟩
 | k+1=>by
  obtain ⟨ih0,ih1,ih2⟩:=dioramaref19_row.mono_l k
  refine ⟨?_,?_,?_⟩
  · intro y0 y1 y2
    unfold dioramaref19_row.l0
    repeat' first
    | (with_reducible exact ih0 _ _ _)
    | (with_reducible exact ih1 _ _ _ _)
    | (with_reducible exact ih2 _ _ _ _)
    | (with_reducible exact LeO.refl _)
    | (with_reducible exact LeO.none _)
    | (with_reducible refine LeO.ite ?_ ?_)
    | (with_reducible refine LeO.bind ?_ (fun _=>?_))
    | exact LeO.none _
    | refine LeO.ite ?_ ?_
    | refine LeO.bind ?_ (fun _=>?_)
  · intro y0 y1 y2 y3
    unfold dioramaref19_row.j2
    repeat' first
    | (with_reducible exact ih0 _ _ _)
    | (with_reducible exact ih1 _ _ _ _)
    | (with_reducible exact ih2 _ _ _ _)
    | (with_reducible exact LeO.refl _)
    | (with_reducible exact LeO.none _)
    | (with_reducible refine LeO.ite ?_ ?_)
    | (with_reducible refine LeO.bind ?_ (fun _=>?_))
    | exact LeO.none _
    | refine LeO.ite ?_ ?_
    | refine LeO.bind ?_ (fun _=>?_)
  intro y0 y1 y2 y3
  unfold dioramaref19_row.l1
  repeat' first
  | (with_reducible exact ih0 _ _ _)
  | (with_reducible exact ih1 _ _ _ _)
  | (with_reducible exact ih2 _ _ _ _)
  | (with_reducible exact LeO.refl _)
  | (with_reducible exact LeO.none _)
  | (with_reducible refine LeO.ite ?_ ?_)
  | (with_reducible refine LeO.bind ?_ (fun _=>?_))
  | exact LeO.none _
  | refine LeO.ite ?_ ?_
  | refine LeO.bind ?_ (fun _=>?_)
theorem dioramaref19_row.mono:∀ a0 k,LeO (dioramaref19_row.f k a0) (dioramaref19_row.f (k+1) a0):=by
 intro a0 k
 obtain ⟨ih0,ih1,ih2⟩:=dioramaref19_row.mono_l k
 unfold dioramaref19_row.f
 repeat' first
  | (with_reducible exact ih0 _ _ _)
  | (with_reducible exact ih1 _ _ _ _)
  | (with_reducible exact ih2 _ _ _ _)
  | (with_reducible exact LeO.refl _)
  | (with_reducible exact LeO.none _)
  | (with_reducible refine LeO.ite ?_ ?_)
  | (with_reducible refine LeO.bind ?_ (fun _=>?_))
  | exact LeO.none _
  | refine LeO.ite ?_ ?_
  | refine LeO.bind ?_ (fun _=>?_)
set_option maxHeartbeats 8000000 in
set_option maxRecDepth 100000 in
theorem dioramaref19_row.calls (k:Nat) (A0:Option Addr) (c0:Nat) (l0:List Int) (r:List Int) (w:World) (hr0:Kd.C (Kd.int .i64) w A0 l0.length l0) (hc0:l0.length≤c0) (h:dioramaref19_row.f k l0=some r) :
 Calls Try.prog 52 #[.slice A0 l0.length c0] w fun e w'=>∃ v0_:Value,e=.returned (v0_)∧Kd.R (Kd.int .u8) 5 w' w.heap.size (fun _=>True) v0_ r∧Below w.heap.size w w':=by
 have HR0:=Aside0.mk hr0
 have HC0:=Aside0.mk hc0;clear hr0 hc0;have HB:=Aside0.mk (Below.refl w.heap.size w)
 have H:(dioramaref19_row.l0 k l0 ([]:List Int) 0)=some r:=h;clear h
 have H':=Aside0.mk H;clear H
 go_enter Try.func52,Try.ntmps52
 go_wp2
 repeat (go_quiet (fail);try go_wp2)
 go_loopg [3,4] k (fun kq v3 v4 w'=>∃ (x3_1:List Int) (x4_1:Int),v4=.int .i64 x4_1∧Aside0 (dioramaref19_row.l0 kq l0 x3_1 x4_1=some r)∧Aside0 (kq≤k)∧Aside0 (Kd.R (Kd.int .u8) 5 w' w.heap.size (fun _=>True) v3 x3_1)∧Aside0 (Below w.heap.size w w'))
 case atStart=>exact ⟨(([]:List Int)),(0),okV,H',⟨Nat.le_refl _⟩,⟨by first|exact Kd.R_nil _ _ _ _ _|exact Kd.N_nil _ _ _ _ _|exact Kd.V_nil _ _ _ _ _|exact Kd.Q_nil _ _ _ _ _|exact Kd.S_nil _ _ _ _ _⟩,⟨belV HB.out⟩⟩
 case round =>
  clear H'
  obtain ⟨x3_1,x4_1,rfl,HA,HK1,HO_3,HB⟩:=hrel
  cases gk with
  | zero=>exact absurd HA.out (by simp [dioramaref19_row.l0])
  | succ k1 =>
   have H:=HA.out;clear HA
   simp only [dioramaref19_row.l0] at H
   by_cases c2:x4_1 < (l0.length:Int)
   · rw [if_pos c2] at H
     have c2b0:decide (x4_1 < (l0.length:Int))=true:=decide_eq_true c2;clear c2
     have HC3:=Aside0.mk H;clear H
     go_upto_block 2 with (fail)
     repeat (go_quiet (fail);go_upto_block 2 with (fail))
     go_cut [5] (fun v5 wc=>∃ (kq:Nat) (x5_2:Int),v5=.int .i64 x5_2∧Aside0 (dioramaref19_row.j2 kq l0 x3_1 x4_1 x5_2=some r)∧Aside0 (kq≤k1)∧Aside0 (Kd.R (Kd.int .u8) 5 wc w.heap.size (fun _=>True) u3 x3_1)∧Aside0 (Below w.heap.size w wc))
     case first =>
      have H:=HC3.out;clear HC3
      have H':=Aside0.mk H;clear H
      go_wp2
      repeat (go_quiet (fail);try go_wp2)
      go_loopg [5] k1 (fun kq v5 w'=>∃ (x5_2:Int),v5=.int .i64 x5_2∧Aside0 (dioramaref19_row.l1 kq l0 x3_1 x4_1 x5_2=some r)∧Aside0 (kq≤k1)∧Aside0 (Kd.R (Kd.int .u8) 5 w' w.heap.size (fun _=>True) u3 x3_1)∧Aside0 (Below w.heap.size w w'))
      case atStart=>exact ⟨(1),okV,H',⟨Nat.le_refl _⟩,⟨rowV HO_3.out⟩,⟨belV HB.out⟩⟩
      case round =>
       clear H'
       try clear c2;try clear c2b0;try clear p2
       obtain ⟨x5_2,rfl,HA,HK2,HO_3,HB⟩:=hrel
       cases gk with
       | zero=>exact absurd HA.out (by simp [dioramaref19_row.l1])
       | succ k2 =>
        have H:=HA.out;clear HA
        simp only [dioramaref19_row.l1] at H
        by_cases c4:(wrap64 (x4_1+x5_2)) < (l0.length:Int)
        · rw [if_pos c4] at H
          have c4b0:decide ((wrap64 (x4_1+x5_2)) < (l0.length:Int))=true:=decide_eq_true c4;clear c4
          (first|rw [c4b0]|(simp only [i64_w,i32_w];rw [c4b0])|rw [c4b1]|skip)
          obtain ⟨ji5,hji5⟩:∃ j_:Int,(wrap64 (x4_1+x5_2))=j_:=⟨_,rfl⟩
          replace H:(if 0≤(ji5) then (if 0≤x4_1 then (if x4_1 < (l0.length:Int) then (if (rd l0 (ji5))=(rd l0 x4_1) then (dioramaref19_row.l1 k2 l0 x3_1 x4_1 (wrap64 (x5_2+1))) else (dioramaref19_row.j2 k2 l0 x3_1 x4_1 x5_2)) else (none)) else (none)) else (none))=some r:=by first|(rw [hji5] at H;exact H)|(simp only [hji5] at H ⊢;exact H)
          (try rw [hji5] at c4b0)
          have hji5w:(IntKind.i64.wrap (x4_1+x5_2))=ji5:=(i64_w _).trans hji5
          by_cases c6:0≤(ji5)
          · rw [if_pos c6] at H
            have c6b0:decide (0≤(ji5))=true:=decide_eq_true c6;clear c6
            by_cases c7:0≤x4_1
            · rw [if_pos c7] at H
              have c7b0:decide (0≤x4_1)=true:=decide_eq_true c7;clear c7
              by_cases c8:x4_1 < (l0.length:Int)
              · rw [if_pos c8] at H
                have c8b0:decide (x4_1 < (l0.length:Int))=true:=decide_eq_true c8;clear c8
                by_cases c9:(rd l0 (ji5))=(rd l0 x4_1)
                · rw [if_pos c9] at H
                  have c9b0:((rd l0 (ji5)) == (rd l0 x4_1))=true:=beq_iff_eq.mpr c9
                  have c9b1:((rd l0 (ji5)) != (rd l0 x4_1))=false:=bne_eq_false_iff_eq.mpr c9;clear c9
                  have H':=Aside0.mk H;clear H
                  have p282:0≤((ji5):Int):=of_decide_eq_true asV
                  have q282:(ji5) < (l0.length:Int):=of_decide_eq_true asV
                  obtain ⟨ad282,e282,hx282_0⟩:=Kd.at_int HR0.out (ji5) p282 q282
                  cases e282
                  replace hx282_0:=(HB.out.cell (World.block_lt_of_cell? w _ hx282_0)).trans hx282_0
                  replace p282:=eq_true p282
                  replace q282:=eq_true q282
                  have p283:0≤(x4_1:Int):=of_decide_eq_true asV
                  have q283:x4_1 < (l0.length:Int):=of_decide_eq_true asV
                  obtain ⟨ad283,e283,hx283_0⟩:=Kd.at_int HR0.out x4_1 p283 q283
                  obtain rfl:ad282=ad283:=(by injection e283)
                  replace hx283_0:=(HB.out.cell (World.block_lt_of_cell? w _ hx283_0)).trans hx283_0
                  replace p283:=eq_true p283
                  replace q283:=eq_true q283
                  go_wp2
                  repeat (go_quiet (fail);try go_wp2)
                  go_roundg k2
                  case measure=>have:=HK1.out;have:=HK2.out;omega
                  case rel=>exact ⟨(wrap64 (x5_2+1)),okV,H',⟨by have:=HK1.out;have:=HK2.out;omega⟩,⟨rowV HO_3.out⟩,⟨belV HB.out⟩⟩
                rw [if_neg c9] at H
                have c9b0:((rd l0 (ji5)) == (rd l0 x4_1))=false:=beq_eq_false_iff_ne.mpr c9
                have c9b1:((rd l0 (ji5)) != (rd l0 x4_1))=true:=bne_iff_ne.mpr c9
                have H':=Aside0.mk H;clear H
                have p282:0≤((ji5):Int):=of_decide_eq_true asV
                have q282:(ji5) < (l0.length:Int):=of_decide_eq_true asV
                obtain ⟨ad282,e282,hx282_0⟩:=Kd.at_int HR0.out (ji5) p282 q282
                cases e282
                replace hx282_0:=(HB.out.cell (World.block_lt_of_cell? w _ hx282_0)).trans hx282_0
                replace p282:=eq_true p282
                replace q282:=eq_true q282
                have p283:0≤(x4_1:Int):=of_decide_eq_true asV
                have q283:x4_1 < (l0.length:Int):=of_decide_eq_true asV
                obtain ⟨ad283,e283,hx283_0⟩:=Kd.at_int HR0.out x4_1 p283 q283
                obtain rfl:ad282=ad283:=(by injection e283)
                replace hx283_0:=(HB.out.cell (World.block_lt_of_cell? w _ hx283_0)).trans hx283_0
                replace p283:=eq_true p283
                replace q283:=eq_true q283
                go_wp2
                repeat (go_quiet (fail);try go_wp2)
                go_meet
                case rel=>exact ⟨_,(x5_2),okV,H',⟨by have:=HK1.out;have:=HK2.out;first|omega|exact Nat.le_refl _⟩,⟨rowV HO_3.out⟩,⟨belV HB.out⟩⟩
              rw [if_neg c8] at H
              exact absurd H (by simp)
            rw [if_neg c7] at H
            exact absurd H (by simp)
          rw [if_neg c6] at H
          exact absurd H (by simp)
        rw [if_neg c4] at H
        have c4b0:decide ((wrap64 (x4_1+x5_2)) < (l0.length:Int))=false:=decide_eq_false c4;clear c4
        (first|rw [c4b0]|(simp only [i64_w,i32_w];rw [c4b0])|rw [c4b1]|skip)
        have H':=Aside0.mk H;clear H
        go_wp2
        repeat (go_quiet (fail);try go_wp2)
        go_meet
        case rel=>exact ⟨_,(x5_2),okV,H',⟨by have:=HK1.out;have:=HK2.out;first|omega|exact Nat.le_refl _⟩,⟨rowV HO_3.out⟩,⟨belV HB.out⟩⟩
     case rest =>
      clear HC3
      try clear c2;try clear c2b0;try clear p2 p2;try clear q2;try clear hx2;try clear c4;try clear c4b0;try clear c4b1;try clear c5;try clear c6;try clear c6b0;try clear p6;try clear c7;try clear c7b0;try clear c8;try clear c8b0;try clear c9;try clear c9b0;try clear c9b1;try clear hx282_0;try clear hx283_0;try clear p282;try clear p283;try clear q282;try clear q283
      obtain ⟨kq,x5_2,rfl,HA,HJ2,HO_3,HB⟩:=hcut
      cases kq with
      | zero=>exact absurd HA.out (by simp [dioramaref19_row.j2])
      | succ kj2 =>
       have H:=HA.out;clear HA
       simp only [dioramaref19_row.j2] at H
       by_cases c10:(wrap64 (x4_1+x5_2))=(l0.length:Int)
       · rw [if_pos c10] at H
         have c10b0:((wrap64 (x4_1+x5_2)) == (l0.length:Int))=true:=beq_iff_eq.mpr c10
         have c10b1:((wrap64 (x4_1+x5_2)) != (l0.length:Int))=false:=bne_eq_false_iff_eq.mpr c10;clear c10
         by_cases c11:0≤x4_1
         · rw [if_pos c11] at H
           have c11b0:decide (0≤x4_1)=true:=decide_eq_true c11;clear c11
           by_cases c12:x4_1 < (l0.length:Int)
           · rw [if_pos c12] at H
             have c12b0:decide (x4_1 < (l0.length:Int))=true:=decide_eq_true c12;clear c12
             by_cases c13:x3_1.length < 140737488355328
             · rw [if_pos c13] at H
               have LMc13:=Aside0.mk c13;clear c13
               obtain ⟨y285,hy285⟩:∃ y_:List Int,y_=(x3_1 ++ [(wrap64 (16*(rd l0 x4_1))) % 256]):=⟨_,rfl⟩
               replace H:(dioramaref19_row.l0 kj2 l0 y285 (wrap64 (x4_1+x5_2)))=some r:=by first|(rw [hy285];with_reducible exact H)|(have H2_:=(Option.bind_some _ _).symm.trans H;rw [hy285];with_reducible exact H2_)|(have H2_:=(Option.bind_some _ _).symm.trans H;with_reducible exact H2_)|with_reducible exact H|(rw [hy285];exact H)|exact H
               have Ny285:=Aside0.mk hy285;clear hy285
               have H':=Aside0.mk H;clear H
               have p284:0≤(x4_1:Int):=of_decide_eq_true asV
               have q284:x4_1 < (l0.length:Int):=of_decide_eq_true asV
               obtain ⟨ad284,e284,hx284_0⟩:=Kd.at_int HR0.out x4_1 p284 q284
               cases e284
               replace hx284_0:=(HB.out.cell (World.block_lt_of_cell? w _ hx284_0)).trans hx284_0
               replace p284:=eq_true p284
               replace q284:=eq_true q284
               go_wp2_with (first|((with_reducible refine gate_builtin (b:=.append) (xs:=#[.tmp 51,.tmp 58]) rfl ?_);at_builtin;refine Kd.R_append (Kd.int .u8) (w0:=w) w.heap.size rfl (.tmp 51) (.tmp 58) 23 5 (.int .u8 0) 1 rfl Try.underlying23 info5 rfl (by decide) (by omega) u3 x3_1 ((wrap64 (16*(rd l0 x4_1))) % 256) [.int .u8 ((wrap64 (16*(rd l0 x4_1))) % 256)] (fun _=>True) (fun _=>False) rfl rfl ?aP (fun _ hk=>hk.elim) ?aF ?aO ?aB ?aS ?aL ?_;(case aP=>exact rfl);(case aB=>exact (belV HB.out));(case aF=>exact (fun _ _=>trivial));(case aO=>exact (rowV HO_3.out));(case aS=>exact (below_size (belV HB.out)));(case aL=>have:=LMc13.out;omega);intro v286 w14 ho hb hg hat;rw [← Ny285.out] at ho;have n0_:=Aside0.mk (hb);have n1_:=Aside0.mk (ho);clear HB;clear HO_3;have HB:=n0_;have HO287:=n1_;clear n0_ n1_;clear ho hb hg hat))
               repeat (go_quiet (fail);try go_wp2_with (first|((with_reducible refine gate_builtin (b:=.append) (xs:=#[.tmp 51,.tmp 58]) rfl ?_);at_builtin;refine Kd.R_append (Kd.int .u8) (w0:=w) w.heap.size rfl (.tmp 51) (.tmp 58) 23 5 (.int .u8 0) 1 rfl Try.underlying23 info5 rfl (by decide) (by omega) u3 x3_1 ((wrap64 (16*(rd l0 x4_1))) % 256) [.int .u8 ((wrap64 (16*(rd l0 x4_1))) % 256)] (fun _=>True) (fun _=>False) rfl rfl ?aP (fun _ hk=>hk.elim) ?aF ?aO ?aB ?aS ?aL ?_;(case aP=>exact rfl);(case aB=>exact (belV HB.out));(case aF=>exact (fun _ _=>trivial));(case aO=>exact (rowV HO_3.out));(case aS=>exact (below_size (belV HB.out)));(case aL=>have:=LMc13.out;omega);intro v286 w14 ho hb hg hat;rw [← Ny285.out] at ho;have n0_:=Aside0.mk (hb);have n1_:=Aside0.mk (ho);clear HB;clear HO_3;have HB:=n0_;have HO287:=n1_;clear n0_ n1_;clear ho hb hg hat)))
               go_roundg kj2
               case measure=>have:=HK1.out;have:=HJ2.out;omega
               case rel=>exact ⟨(y285),(wrap64 (x4_1+x5_2)),okV,H',⟨by have:=HK1.out;have:=HJ2.out;omega⟩,⟨rowV HO287.out⟩,⟨belV HB.out⟩⟩
             rw [if_neg c13] at H
             exact absurd H (by simp)
           rw [if_neg c12] at H
           exact absurd H (by simp)
         rw [if_neg c11] at H
         exact absurd H (by simp)
       rw [if_neg c10] at H
       have c10b0:((wrap64 (x4_1+x5_2)) == (l0.length:Int))=false:=beq_eq_false_iff_ne.mpr c10
       have c10b1:((wrap64 (x4_1+x5_2)) != (l0.length:Int))=true:=bne_iff_ne.mpr c10
       by_cases c15:x5_2 < 15
       · rw [if_pos c15] at H
         have c15b0:decide (x5_2 < 15)=true:=decide_eq_true c15;clear c15
         by_cases c16:0≤x4_1
         · rw [if_pos c16] at H
           have c16b0:decide (0≤x4_1)=true:=decide_eq_true c16;clear c16
           by_cases c17:x4_1 < (l0.length:Int)
           · rw [if_pos c17] at H
             have c17b0:decide (x4_1 < (l0.length:Int))=true:=decide_eq_true c17;clear c17
             by_cases c18:x3_1.length < 140737488355328
             · rw [if_pos c18] at H
               have LMc18:=Aside0.mk c18;clear c18
               obtain ⟨y289,hy289⟩:∃ y_:List Int,y_=(x3_1 ++ [(wrap64 ((wrap64 (16*(rd l0 x4_1)))+x5_2)) % 256]):=⟨_,rfl⟩
               replace H:(dioramaref19_row.l0 kj2 l0 y289 (wrap64 (x4_1+x5_2)))=some r:=by first|(rw [hy289];with_reducible exact H)|(have H2_:=(Option.bind_some _ _).symm.trans H;rw [hy289];with_reducible exact H2_)|(have H2_:=(Option.bind_some _ _).symm.trans H;with_reducible exact H2_)|with_reducible exact H|(rw [hy289];exact H)|exact H
               have Ny289:=Aside0.mk hy289;clear hy289
               have H':=Aside0.mk H;clear H
               have p288:0≤(x4_1:Int):=of_decide_eq_true asV
               have q288:x4_1 < (l0.length:Int):=of_decide_eq_true asV
               obtain ⟨ad288,e288,hx288_0⟩:=Kd.at_int HR0.out x4_1 p288 q288
               cases e288
               replace hx288_0:=(HB.out.cell (World.block_lt_of_cell? w _ hx288_0)).trans hx288_0
               replace p288:=eq_true p288
               replace q288:=eq_true q288
               go_wp2_with (first|((with_reducible refine gate_builtin (b:=.append) (xs:=#[.tmp 63,.tmp 72]) rfl ?_);at_builtin;refine Kd.R_append (Kd.int .u8) (w0:=w) w.heap.size rfl (.tmp 63) (.tmp 72) 23 5 (.int .u8 0) 1 rfl Try.underlying23 info5 rfl (by decide) (by omega) u3 x3_1 ((wrap64 ((wrap64 (16*(rd l0 x4_1)))+x5_2)) % 256) [.int .u8 ((wrap64 ((wrap64 (16*(rd l0 x4_1)))+x5_2)) % 256)] (fun _=>True) (fun _=>False) rfl rfl ?aP (fun _ hk=>hk.elim) ?aF ?aO ?aB ?aS ?aL ?_;(case aP=>exact rfl);(case aB=>exact (belV HB.out));(case aF=>exact (fun _ _=>trivial));(case aO=>exact (rowV HO_3.out));(case aS=>exact (below_size (belV HB.out)));(case aL=>have:=LMc18.out;omega);intro v290 w19 ho hb hg hat;rw [← Ny289.out] at ho;have n0_:=Aside0.mk (hb);have n1_:=Aside0.mk (ho);clear HB;clear HO_3;have HB:=n0_;have HO291:=n1_;clear n0_ n1_;clear ho hb hg hat))
               repeat (go_quiet (fail);try go_wp2_with (first|((with_reducible refine gate_builtin (b:=.append) (xs:=#[.tmp 63,.tmp 72]) rfl ?_);at_builtin;refine Kd.R_append (Kd.int .u8) (w0:=w) w.heap.size rfl (.tmp 63) (.tmp 72) 23 5 (.int .u8 0) 1 rfl Try.underlying23 info5 rfl (by decide) (by omega) u3 x3_1 ((wrap64 ((wrap64 (16*(rd l0 x4_1)))+x5_2)) % 256) [.int .u8 ((wrap64 ((wrap64 (16*(rd l0 x4_1)))+x5_2)) % 256)] (fun _=>True) (fun _=>False) rfl rfl ?aP (fun _ hk=>hk.elim) ?aF ?aO ?aB ?aS ?aL ?_;(case aP=>exact rfl);(case aB=>exact (belV HB.out));(case aF=>exact (fun _ _=>trivial));(case aO=>exact (rowV HO_3.out));(case aS=>exact (below_size (belV HB.out)));(case aL=>have:=LMc18.out;omega);intro v290 w19 ho hb hg hat;rw [← Ny289.out] at ho;have n0_:=Aside0.mk (hb);have n1_:=Aside0.mk (ho);clear HB;clear HO_3;have HB:=n0_;have HO291:=n1_;clear n0_ n1_;clear ho hb hg hat)))
               go_roundg kj2
               case measure=>have:=HK1.out;have:=HJ2.out;omega
               case rel=>exact ⟨(y289),(wrap64 (x4_1+x5_2)),okV,H',⟨by have:=HK1.out;have:=HJ2.out;omega⟩,⟨rowV HO291.out⟩,⟨belV HB.out⟩⟩
             rw [if_neg c18] at H
             exact absurd H (by simp)
           rw [if_neg c17] at H
           exact absurd H (by simp)
         rw [if_neg c16] at H
         exact absurd H (by simp)
       rw [if_neg c15] at H
       have c15b0:decide (x5_2 < 15)=false:=decide_eq_false c15;clear c15
       by_cases c20:0≤x4_1
       · rw [if_pos c20] at H
         have c20b0:decide (0≤x4_1)=true:=decide_eq_true c20;clear c20
         by_cases c21:x4_1 < (l0.length:Int)
         · rw [if_pos c21] at H
           have c21b0:decide (x4_1 < (l0.length:Int))=true:=decide_eq_true c21;clear c21
           obtain ⟨y293,hy293⟩:∃ y_:List Int,y_=(([(wrap64 ((wrap64 (16*(rd l0 x4_1)))+15)) % 256,(wrap64 (x5_2 - 15)) % 256]:List Int)):=⟨_,rfl⟩
           replace H:(if x3_1.length+y293.length < 140737488355328 then (dioramaref19_row.l0 kj2 l0 (x3_1 ++ y293) (wrap64 (x4_1+x5_2))) else (none))=some r:=by first|(rw [hy293];with_reducible exact H)|(have H2_:=(Option.bind_some _ _).symm.trans H;rw [hy293];with_reducible exact H2_)|(have H2_:=(Option.bind_some _ _).symm.trans H;with_reducible exact H2_)|with_reducible exact H|(rw [hy293];exact H)|exact H
           have Ny293:=Aside0.mk hy293;clear hy293
           by_cases c22:x3_1.length+y293.length < 140737488355328
           · rw [if_pos c22] at H
             have LMc22:=Aside0.mk c22;clear c22
             obtain ⟨y296,hy296⟩:∃ y_:List Int,y_=(x3_1 ++ y293):=⟨_,rfl⟩
             replace H:(dioramaref19_row.l0 kj2 l0 y296 (wrap64 (x4_1+x5_2)))=some r:=by first|(rw [hy296];with_reducible exact H)|(have H2_:=(Option.bind_some _ _).symm.trans H;rw [hy296];with_reducible exact H2_)|(have H2_:=(Option.bind_some _ _).symm.trans H;with_reducible exact H2_)|with_reducible exact H|(rw [hy296];exact H)|exact H
             have Ny296:=Aside0.mk hy296;clear hy296
             have H':=Aside0.mk H;clear H
             have p292:0≤(x4_1:Int):=of_decide_eq_true asV
             have q292:x4_1 < (l0.length:Int):=of_decide_eq_true asV
             obtain ⟨ad292,e292,hx292_0⟩:=Kd.at_int HR0.out x4_1 p292 q292
             cases e292
             replace hx292_0:=(HB.out.cell (World.block_lt_of_cell? w _ hx292_0)).trans hx292_0
             replace p292:=eq_true p292
             replace q292:=eq_true q292
             go_wp2_with (first|((with_reducible refine gate_dst (N:=42) rfl ?_);refine Kd.R_lit (Kd.int .u8) _ 5 ?hg (N:=42) ?hd (xs:=([(wrap64 ((wrap64 (16*(rd l0 x4_1)))+15)) % 256,(wrap64 (x5_2 - 15)) % 256]:List Int)) (inner:=[.int .u8 ((wrap64 ((wrap64 (16*(rd l0 x4_1)))+15)) % 256),.int .u8 ((wrap64 (x5_2 - 15)) % 256)]) (ok:=fun _=>True) (okp:=fun _=>True) ?hr ?hp (fun _ hk=>hk) trivial (Below.refl _ _) (Nat.le_refl _) (by simp) ?_;(case hd=>rfl);(case hg=>rfl);(case hr=>first|(go_simp;done)|(go_simp;rfl));(case hp=>exact (Reps.one (show Kd.M (Kd.int .u8) _ _ _ ((wrap64 ((wrap64 (16*(rd l0 x4_1)))+15)) % 256) [.int .u8 ((wrap64 ((wrap64 (16*(rd l0 x4_1)))+15)) % 256)] from rfl) (Reps.one (show Kd.M (Kd.int .u8) _ _ _ ((wrap64 (x5_2 - 15)) % 256) [.int .u8 ((wrap64 (x5_2 - 15)) % 256)] from rfl) (Reps.none _ _))));intro v294 w23 ho24 hb hg_ hnew_;clear hg_ hnew_;(first|rw [← Ny293.out] at ho24|(simp only [Int.reduceToNat] at ho24;rw [← Ny293.out] at ho24));have n0_:=Aside0.mk (Kd.R_elder' (rowV HO_3.out) (Kd.R_base ho24) hb);have n1_:=Aside0.mk (Kd.R_lower (Kd.R_new' ho24 (Kd.R_lt (rowV HO_3.out))) (below_size (belV HB.out)));have n2_:=Aside0.mk (below_step (belV HB.out) hb);clear HO_3;clear HB;have HO_3:=n0_;have HO295:=n1_;have HB:=n2_;clear n0_ n1_ n2_;clear hb ho24;obtain ⟨Ao26,co26,eo26⟩:=Kd.R_slice HO295.out;subst eo26)|((with_reducible refine gate_builtin (b:=.append) (xs:=#[.tmp 31,.tmp 42]) rfl ?_);at_builtin;refine Kd.R_append_rows (Kd.int .u8) (w0:=w) w.heap.size rfl (.tmp 31) (.tmp 42) 23 5 (.int .u8 0) 1 rfl Try.underlying23 info5 rfl (by decide) (by omega) u3 x3_1 y293 _ _ _ (fun _=>True) (fun _=>False) rfl rfl ?aO ?aR (fun _ _ h=>h) (fun _ h=>h.elim) ?aF ?aB ?aS ?aL ?_;(case aR=>exact cV (Kd.R_reads' HO295.out).2.2);(case aB=>exact (belV HB.out));(case aF=>exact (fun _ _=>trivial));(case aO=>exact (by (with_reducible repeat (first|apply Kd.R_alloc|apply Kd.R_drewN|apply Kd.R_drew));exact Kd.R_mono HO_3.out (fun _ hk=>trivial)));(case aS=>exact (below_size (belV HB.out)));(case aL=>have:=LMc22.out;omega);intro v297 w25 ho hb hg hat;rw [← Ny296.out] at ho;have n0_:=Aside0.mk (hb);have n1_:=Aside0.mk (ho);clear HB;clear HO_3;clear HO295;have HB:=n0_;have HO298:=n1_;clear n0_ n1_;clear ho hb hg hat))
             repeat (go_quiet (fail);try go_wp2_with (first|((with_reducible refine gate_dst (N:=42) rfl ?_);refine Kd.R_lit (Kd.int .u8) _ 5 ?hg (N:=42) ?hd (xs:=([(wrap64 ((wrap64 (16*(rd l0 x4_1)))+15)) % 256,(wrap64 (x5_2 - 15)) % 256]:List Int)) (inner:=[.int .u8 ((wrap64 ((wrap64 (16*(rd l0 x4_1)))+15)) % 256),.int .u8 ((wrap64 (x5_2 - 15)) % 256)]) (ok:=fun _=>True) (okp:=fun _=>True) ?hr ?hp (fun _ hk=>hk) trivial (Below.refl _ _) (Nat.le_refl _) (by simp) ?_;(case hd=>rfl);(case hg=>rfl);(case hr=>first|(go_simp;done)|(go_simp;rfl));(case hp=>exact (Reps.one (show Kd.M (Kd.int .u8) _ _ _ ((wrap64 ((wrap64 (16*(rd l0 x4_1)))+15)) % 256) [.int .u8 ((wrap64 ((wrap64 (16*(rd l0 x4_1)))+15)) % 256)] from rfl) (Reps.one (show Kd.M (Kd.int .u8) _ _ _ ((wrap64 (x5_2 - 15)) % 256) [.int .u8 ((wrap64 (x5_2 - 15)) % 256)] from rfl) (Reps.none _ _))));intro v294 w23 ho24 hb hg_ hnew_;clear hg_ hnew_;(first|rw [← Ny293.out] at ho24|(simp only [Int.reduceToNat] at ho24;rw [← Ny293.out] at ho24));have n0_:=Aside0.mk (Kd.R_elder' (rowV HO_3.out) (Kd.R_base ho24) hb);have n1_:=Aside0.mk (Kd.R_lower (Kd.R_new' ho24 (Kd.R_lt (rowV HO_3.out))) (below_size (belV HB.out)));have n2_:=Aside0.mk (below_step (belV HB.out) hb);clear HO_3;clear HB;have HO_3:=n0_;have HO295:=n1_;have HB:=n2_;clear n0_ n1_ n2_;clear hb ho24;obtain ⟨Ao26,co26,eo26⟩:=Kd.R_slice HO295.out;subst eo26)|((with_reducible refine gate_builtin (b:=.append) (xs:=#[.tmp 31,.tmp 42]) rfl ?_);at_builtin;refine Kd.R_append_rows (Kd.int .u8) (w0:=w) w.heap.size rfl (.tmp 31) (.tmp 42) 23 5 (.int .u8 0) 1 rfl Try.underlying23 info5 rfl (by decide) (by omega) u3 x3_1 y293 _ _ _ (fun _=>True) (fun _=>False) rfl rfl ?aO ?aR (fun _ _ h=>h) (fun _ h=>h.elim) ?aF ?aB ?aS ?aL ?_;(case aR=>exact cV (Kd.R_reads' HO295.out).2.2);(case aB=>exact (belV HB.out));(case aF=>exact (fun _ _=>trivial));(case aO=>exact (by (with_reducible repeat (first|apply Kd.R_alloc|apply Kd.R_drewN|apply Kd.R_drew));exact Kd.R_mono HO_3.out (fun _ hk=>trivial)));(case aS=>exact (below_size (belV HB.out)));(case aL=>have:=LMc22.out;omega);intro v297 w25 ho hb hg hat;rw [← Ny296.out] at ho;have n0_:=Aside0.mk (hb);have n1_:=Aside0.mk (ho);clear HB;clear HO_3;clear HO295;have HB:=n0_;have HO298:=n1_;clear n0_ n1_;clear ho hb hg hat)))
             go_roundg kj2
             case measure=>have:=HK1.out;have:=HJ2.out;omega
             case rel=>exact ⟨(y296),(wrap64 (x4_1+x5_2)),okV,H',⟨by have:=HK1.out;have:=HJ2.out;omega⟩,⟨rowV HO298.out⟩,⟨belV HB.out⟩⟩
           rw [if_neg c22] at H
           exact absurd H (by simp)
         rw [if_neg c21] at H
         exact absurd H (by simp)
       rw [if_neg c20] at H
       exact absurd H (by simp)
   rw [if_neg c2] at H
   have c2b0:decide (x4_1 < (l0.length:Int))=false:=decide_eq_false c2;clear c2
   obtain rfl:=Option.some.inj H
   go_wp2
   repeat (go_quiet (fail);try go_wp2)
   go_ret
   exact ⟨_,by first|rfl|(simp [errW_none,errW_some] <;> rfl)|(simp [*,errW_none,errW_some] <;> rfl),by (with_reducible repeat (first|apply Kd.R_alloc|apply Kd.R_drewN|apply Kd.R_drew));exact HO_3.out,by repeat (first|(with_reducible first|exact HB.out|apply below_alloc|apply pw_below_drewN|apply below_drew1)|exact HB.out)⟩

/-! ### dioramaref19_Runs: function 12 -/
mutual
def dioramaref19_Runs.j0 : Nat → List Int → Int → Bool → Option (List Int × Int)
 | 0,_,_,_=>none
 | k+1,x0,x1,x15=>if x15=true then (some (([]:List Int),1)) else (if x1=0 then (none) else (if ((x0.length:Int) % x1)=0 then ((dioramaref19_in.f (wrap64 ((x0.length:Int) / x1)) 1 64).bind fun t301=>(dioramaref19_Runs.j1 k x0 x1 (!t301))) else (dioramaref19_Runs.j1 k x0 x1 true)))
def dioramaref19_Runs.j1 : Nat → List Int → Int → Bool → Option (List Int × Int)
 | 0,_,_,_=>none
 | k+1,x0,x1,x28=>if x28=true then (some (([]:List Int),4)) else (dioramaref19_Runs.l0 k x0 x1 ([]:List Int) 0)
def dioramaref19_Runs.l0 : Nat → List Int → Int → List Int → Int → Option (List Int × Int)
 | 0,_,_,_,_=>none
 | k+1,x0,x1,x6,x7=>if x7 < (x0.length:Int) then (if 0≤x7 then (if x7≤(wrap64 (x7+x1)) then (if (wrap64 (x7+x1))≤(x0.length:Int) then ((dioramaref19_row.f k ((x0.take ((wrap64 (x7+x1)):Int).toNat).drop (x7:Int).toNat)).bind fun t306=>(if x6.length+t306.length < 140737488355328 then (dioramaref19_Runs.l0 k x0 x1 (x6 ++ t306) (wrap64 (x7+x1))) else (none))) else (none)) else (none)) else (none)) else (some (x6,0))
end
def dioramaref19_Runs.f (k : Nat) (l0 : List Int) (a1 : Int) : Option (List Int × Int) := (dioramaref19_in.f a1 1 64).bind fun t299 => (if t299 = true then ((dioramaref19_all.f k l0 0 15).bind fun t300 => (dioramaref19_Runs.j0 k l0 a1 (!t300))) else (dioramaref19_Runs.j0 k l0 a1 true))
theorem dioramaref19_Runs.mono_l:∀ k,(∀ y0 y1 y2,LeO (dioramaref19_Runs.j0 k y0 y1 y2) (dioramaref19_Runs.j0 (k+1) y0 y1 y2))∧(∀ y0 y1 y2,LeO (dioramaref19_Runs.j1 k y0 y1 y2) (dioramaref19_Runs.j1 (k+1) y0 y1 y2))∧(∀ y0 y1 y2 y3,LeO (dioramaref19_Runs.l0 k y0 y1 y2 y3) (dioramaref19_Runs.l0 (k+1) y0 y1 y2 y3))
 | 0=>⟨fun _ _ _ r h=>by simp [dioramaref19_Runs.j0] at h,fun _ _ _ r h=>by simp [dioramaref19_Runs.j1] at h,fun _ _ _ _ r h=>by simp [dioramaref19_Runs.l0] at h⟩
 | k+1=>by
  obtain ⟨ih0,ih1,ih2⟩:=dioramaref19_Runs.mono_l k
  refine ⟨?_,?_,?_⟩
  · intro y0 y1 y2
    unfold dioramaref19_Runs.j0
    repeat' first
    | (with_reducible exact ih0 _ _ _)
    | (with_reducible exact ih1 _ _ _)
    | (with_reducible exact ih2 _ _ _ _)
    | (with_reducible exact dioramaref19_all.mono _ _ _ _)
    | (with_reducible exact dioramaref19_row.mono _ _)
    | (with_reducible exact LeO.refl _)
    | (with_reducible exact LeO.none _)
    | (with_reducible refine LeO.ite ?_ ?_)
    | (with_reducible refine LeO.bind ?_ (fun _=>?_))
    | exact LeO.none _
    | refine LeO.ite ?_ ?_
    | refine LeO.bind ?_ (fun _=>?_)
  · intro y0 y1 y2
    unfold dioramaref19_Runs.j1
    repeat' first
    | (with_reducible exact ih0 _ _ _)
    | (with_reducible exact ih1 _ _ _)
    | (with_reducible exact ih2 _ _ _ _)
    | (with_reducible exact dioramaref19_all.mono _ _ _ _)
    | (with_reducible exact dioramaref19_row.mono _ _)
    | (with_reducible exact LeO.refl _)
    | (with_reducible exact LeO.none _)
    | (with_reducible refine LeO.ite ?_ ?_)
    | (with_reducible refine LeO.bind ?_ (fun _=>?_))
    | exact LeO.none _
    | refine LeO.ite ?_ ?_
    | refine LeO.bind ?_ (fun _=>?_)
  intro y0 y1 y2 y3
  unfold dioramaref19_Runs.l0
  repeat' first
  | (with_reducible exact ih0 _ _ _)
  | (with_reducible exact ih1 _ _ _)
  | (with_reducible exact ih2 _ _ _ _)
  | (with_reducible exact dioramaref19_all.mono _ _ _ _)
  | (with_reducible exact dioramaref19_row.mono _ _)
  | (with_reducible exact LeO.refl _)
  | (with_reducible exact LeO.none _)
  | (with_reducible refine LeO.ite ?_ ?_)
  | (with_reducible refine LeO.bind ?_ (fun _=>?_))
  | exact LeO.none _
  | refine LeO.ite ?_ ?_
  | refine LeO.bind ?_ (fun _=>?_)
theorem dioramaref19_Runs.mono:∀ a0 a1 k,LeO (dioramaref19_Runs.f k a0 a1) (dioramaref19_Runs.f (k+1) a0 a1):=by
 intro a0 a1 k
 obtain ⟨ih0,ih1,ih2⟩:=dioramaref19_Runs.mono_l k
 unfold dioramaref19_Runs.f
 repeat' first
  | (with_reducible exact ih0 _ _ _)
  | (with_reducible exact ih1 _ _ _)
  | (with_reducible exact ih2 _ _ _ _)
  | (with_reducible exact dioramaref19_all.mono _ _ _ _)
  | (with_reducible exact dioramaref19_row.mono _ _)
  | (with_reducible exact LeO.refl _)
  | (with_reducible exact LeO.none _)
  | (with_reducible refine LeO.ite ?_ ?_)
  | (with_reducible refine LeO.bind ?_ (fun _=>?_))
  | exact LeO.none _
  | refine LeO.ite ?_ ?_
  | refine LeO.bind ?_ (fun _=>?_)
set_option maxHeartbeats 8000000 in
set_option maxRecDepth 100000 in
theorem dioramaref19_Runs.calls (k:Nat) (A0:Option Addr) (c0:Nat) (l0:List Int) (a1:Int) (r1:List Int) (r2:Int) (w:World) (hr0:Kd.C (Kd.int .i64) w A0 l0.length l0) (hc0:l0.length≤c0) (h:dioramaref19_Runs.f k l0 a1=some (r1,r2)) :
 Calls Try.prog 12 #[.slice A0 l0.length c0,.int .i64 a1] w fun e w'=>∃ v0_:Value,e=.returned (.tuple #[v0_,.int .i64 r2])∧Kd.R (Kd.int .u8) 5 w' w.heap.size (fun _=>True) v0_ r1∧Below w.heap.size w w':=by
 have HR0:=Aside0.mk hr0
 have HC0:=Aside0.mk hc0;clear hr0 hc0;have HB:=Aside0.mk (Below.refl w.heap.size w)
 have H:((dioramaref19_in.f a1 1 64).bind fun t299=>(if t299=true then ((dioramaref19_all.f k l0 0 15).bind fun t300=>(dioramaref19_Runs.j0 k l0 a1 (!t300))) else (dioramaref19_Runs.j0 k l0 a1 true)))=some (r1,r2):=h
 clear h
 have HC3:=Aside0.mk H;clear H
 go_enter Try.func12,Try.ntmps12
 go_upto_region 1 with (fail)
 go_cut [15] (fun v15 wc=>∃ (kq:Nat) (x15_2:Bool),v15=.bool x15_2∧Aside0 (dioramaref19_Runs.j0 kq l0 a1 x15_2=some (r1,r2))∧Aside0 (kq≤k)∧Aside0 (Below w.heap.size w wc))
 case first =>
  have H:=HC3.out;clear HC3
  replace H:=Option.bind_eq_some_iff.mp H
  obtain ⟨t299,A40,H⟩:=H
  replace H:(if t299=true then ((dioramaref19_all.f k l0 0 15).bind fun t300=>(dioramaref19_Runs.j0 k l0 a1 (!t300))) else (dioramaref19_Runs.j0 k l0 a1 true))=some (r1,r2):=H
  have A4:=Aside0.mk A40;clear A40
  by_cases c5:t299=true
  · subst c5
    have H1:((dioramaref19_all.f k l0 0 15).bind fun t300=>(dioramaref19_Runs.j0 k l0 a1 (!t300)))=some (r1,r2):=by rw [if_pos rfl] at H;exact H
    clear H
    have H:=H1;clear H1
    replace H:=Option.bind_eq_some_iff.mp H
    obtain ⟨t300,A60,H⟩:=H
    replace H:(dioramaref19_Runs.j0 k l0 a1 (!t300))=some (r1,r2):=H
    have A6:=Aside0.mk A60;clear A60
    have H':=Aside0.mk H;clear H
    go_wp2_with (first|((with_reducible refine gate_callee (f:=50) rfl ?_);refine goesL_ (some 9) rfl rfl Try.func50 (by kernel_rfl) rfl #[.int .i64 a1,.int .i64 1,.int .i64 64] rfl (by (try simp only [List.map_toArray,List.map_cons,List.map_nil]);first|done|rfl|(simp only [List.length_drop,List.length_take];rfl)) ?_;(with_reducible refine (dioramaref19_in.calls a1 1 64 true _ A4.out).mono ?_);rintro e w' ⟨rfl,⟨nd,rfl⟩⟩;refine ⟨_,rfl,?_⟩)|(go_at_call 51;(with_reducible refine (dioramaref19_all.calls k _ _ l0 0 15 t300 _ ?side1 ?side2 A6.out).mono ?_);(case side1=>repeat (first|exact (Kd.C_below HR0.out (belV HB.out))|(with_reducible refine Kd.C_alloc ?_ _)|(with_reducible refine Kd.C_drewN ?_ _)|(with_reducible refine Kd.C_drew ?_)));(case side2=>exact HC0.out);rintro e w' ⟨rfl,⟨nd,rfl⟩⟩))
    go_meet
    case rel=>exact ⟨_,(!t300),okV,H',⟨by first|omega|exact Nat.le_refl _⟩,⟨belV HB.out⟩⟩
  replace c5:=Bool.eq_false_iff.mpr c5;subst c5
  have H1:(dioramaref19_Runs.j0 k l0 a1 true)=some (r1,r2):=by rw [if_neg (show ¬ (false=true) by decide)] at H;exact H
  clear H
  have H:=H1;clear H1
  have H':=Aside0.mk H;clear H
  go_wp2_with (first|((with_reducible refine gate_callee (f:=50) rfl ?_);refine goesL_ (some 9) rfl rfl Try.func50 (by kernel_rfl) rfl #[.int .i64 a1,.int .i64 1,.int .i64 64] rfl (by (try simp only [List.map_toArray,List.map_cons,List.map_nil]);first|done|rfl|(simp only [List.length_drop,List.length_take];rfl)) ?_;(with_reducible refine (dioramaref19_in.calls a1 1 64 false _ A4.out).mono ?_);rintro e w' ⟨rfl,⟨nd,rfl⟩⟩;refine ⟨_,rfl,?_⟩))
  go_meet
  case rel=>exact ⟨_,(true),okV,H',⟨by first|omega|exact Nat.le_refl _⟩,⟨belV HB.out⟩⟩
 case rest =>
  clear HC3
  try clear c1;try clear p2;try clear c5
  obtain ⟨kq,x15_2,rfl,HA,HJ2,HB⟩:=hcut
  cases kq with
  | zero=>exact absurd HA.out (by simp [dioramaref19_Runs.j0])
  | succ kj2 =>
   have H:=HA.out;clear HA
   simp only [dioramaref19_Runs.j0] at H
   by_cases c7:x15_2=true
   · subst c7
     have H1:(some (([]:List Int),1))=some (r1,r2):=by rw [if_pos rfl] at H;exact H
     clear H
     have H:=H1;clear H1
     simp only [Option.some.injEq,Prod.mk.injEq] at H
     obtain ⟨rfl,rfl⟩:=H
     go_wp2
     go_ret2
     exact ⟨_,by first|rfl|(simp [errW_none,errW_some] <;> rfl)|(simp [*,errW_none,errW_some] <;> rfl),by first|exact Kd.R_nil _ _ _ _ _|exact Kd.N_nil _ _ _ _ _|exact Kd.V_nil _ _ _ _ _|exact Kd.Q_nil _ _ _ _ _|exact Kd.S_nil _ _ _ _ _,by repeat (first|(with_reducible first|exact HB.out|apply below_alloc|apply pw_below_drewN|apply below_drew1)|exact HB.out)⟩
   replace c7:=Bool.eq_false_iff.mpr c7;subst c7
   have H1:(if a1=0 then (none) else (if ((l0.length:Int) % a1)=0 then ((dioramaref19_in.f (wrap64 ((l0.length:Int) / a1)) 1 64).bind fun t301=>(dioramaref19_Runs.j1 kj2 l0 a1 (!t301))) else (dioramaref19_Runs.j1 kj2 l0 a1 true)))=some (r1,r2):=by rw [if_neg (show ¬ (false=true) by decide)] at H;exact H
   clear H
   have H:=H1;clear H1
   have HC8:=Aside0.mk H;clear H
   go_upto_region 3 with (fail)
   go_cut [28] (fun v28 wc=>∃ (kq:Nat) (x28_7:Bool),v28=.bool x28_7∧Aside0 (dioramaref19_Runs.j1 kq l0 a1 x28_7=some (r1,r2))∧Aside0 (kq≤kj2)∧Aside0 (Below w.heap.size w wc))
   case first =>
    have H:=HC8.out;clear HC8
    by_cases c9:a1=0
    · rw [if_pos c9] at H
      exact absurd H (by simp)
    rw [if_neg c9] at H
    have c9b0:(a1 == 0)=false:=beq_eq_false_iff_ne.mpr c9
    have c9b1:(a1 != 0)=true:=bne_iff_ne.mpr c9
    (first|rw [c9b0]|(simp only [i64_w,i32_w];rw [c9b0])|rw [c9b1]|skip)
    by_cases c10:((l0.length:Int) % a1)=0
    · rw [if_pos c10] at H
      have c10b0:(((l0.length:Int) % a1) == 0)=true:=beq_iff_eq.mpr c10
      have c10b1:(((l0.length:Int) % a1) != 0)=false:=bne_eq_false_iff_eq.mpr c10;clear c10
      replace H:=Option.bind_eq_some_iff.mp H
      obtain ⟨t301,A110,H⟩:=H
      replace H:(dioramaref19_Runs.j1 kj2 l0 a1 (!t301))=some (r1,r2):=H
      have A11:=Aside0.mk A110;clear A110
      have H':=Aside0.mk H;clear H
      go_wp2_with (first|(go_at_call 50;(with_reducible refine (dioramaref19_in.calls (wrap64 ((l0.length:Int) / a1)) 1 64 t301 _ A11.out).mono ?_);rintro e w' ⟨rfl,⟨nd,rfl⟩⟩))
      go_meet
      case rel=>exact ⟨_,(!t301),okV,H',⟨by have:=HJ2.out;first|omega|exact Nat.le_refl _⟩,⟨belV HB.out⟩⟩
    rw [if_neg c10] at H
    have c10b0:(((l0.length:Int) % a1) == 0)=false:=beq_eq_false_iff_ne.mpr c10
    have c10b1:(((l0.length:Int) % a1) != 0)=true:=bne_iff_ne.mpr c10
    have H':=Aside0.mk H;clear H
    go_wp2
    go_meet
    case rel=>exact ⟨_,(true),okV,H',⟨by have:=HJ2.out;first|omega|exact Nat.le_refl _⟩,⟨belV HB.out⟩⟩
   case rest =>
    clear HC8
    try clear c1;try clear p2 p2;try clear c5;try clear p6;try clear c7;try clear c9;try clear c9b0;try clear c9b1;try clear c10;try clear c10b0;try clear c10b1
    obtain ⟨kq,x28_7,rfl,HA,HJ7,HB⟩:=hcut
    cases kq with
    | zero=>exact absurd HA.out (by simp [dioramaref19_Runs.j1])
    | succ kj7 =>
     have H:=HA.out;clear HA
     simp only [dioramaref19_Runs.j1] at H
     by_cases c12:x28_7=true
     · subst c12
       have H1:(some (([]:List Int),4))=some (r1,r2):=by rw [if_pos rfl] at H;exact H
       clear H
       have H:=H1;clear H1
       simp only [Option.some.injEq,Prod.mk.injEq] at H
       obtain ⟨rfl,rfl⟩:=H
       go_wp2
       go_ret2
       exact ⟨_,by first|rfl|(simp [errW_none,errW_some] <;> rfl)|(simp [*,errW_none,errW_some] <;> rfl),by first|exact Kd.R_nil _ _ _ _ _|exact Kd.N_nil _ _ _ _ _|exact Kd.V_nil _ _ _ _ _|exact Kd.Q_nil _ _ _ _ _|exact Kd.S_nil _ _ _ _ _,by repeat (first|(with_reducible first|exact HB.out|apply below_alloc|apply pw_below_drewN|apply below_drew1)|exact HB.out)⟩
     replace c12:=Bool.eq_false_iff.mpr c12;subst c12
     have H1:(dioramaref19_Runs.l0 kj7 l0 a1 ([]:List Int) 0)=some (r1,r2):=by rw [if_neg (show ¬ (false=true) by decide)] at H;exact H
     clear H
     have H:=H1;clear H1
     have H':=Aside0.mk H;clear H
     go_wp2
     go_loopg [6,7] kj7 (fun kq v6 v7 w'=>∃ (x6_3:List Int) (x7_3:Int),v7=.int .i64 x7_3∧Aside0 (dioramaref19_Runs.l0 kq l0 a1 x6_3 x7_3=some (r1,r2))∧Aside0 (kq≤kj7)∧Aside0 (Kd.R (Kd.int .u8) 5 w' w.heap.size (fun _=>True) v6 x6_3)∧Aside0 (Below w.heap.size w w'))
     case atStart=>exact ⟨(([]:List Int)),(0),okV,H',⟨Nat.le_refl _⟩,⟨by first|exact Kd.R_nil _ _ _ _ _|exact Kd.N_nil _ _ _ _ _|exact Kd.V_nil _ _ _ _ _|exact Kd.Q_nil _ _ _ _ _|exact Kd.S_nil _ _ _ _ _⟩,⟨belV HB.out⟩⟩
     case round =>
      clear H'
      try clear c1;try clear p2 p2;try clear c5;try clear p6 p6;try clear c7;try clear c9;try clear c9b0;try clear c9b1;try clear c10;try clear c10b0;try clear c10b1;try clear c12
      obtain ⟨x6_3,x7_3,rfl,HA,HK3,HO_6,HB⟩:=hrel
      cases gk with
      | zero=>exact absurd HA.out (by simp [dioramaref19_Runs.l0])
      | succ k3 =>
       have H:=HA.out;clear HA
       simp only [dioramaref19_Runs.l0] at H
       by_cases c13:x7_3 < (l0.length:Int)
       · rw [if_pos c13] at H
         have c13b0:decide (x7_3 < (l0.length:Int))=true:=decide_eq_true c13;clear c13
         by_cases c14:0≤x7_3
         · rw [if_pos c14] at H
           have c14b0:=eq_true c14
           have c14b1:decide (0≤x7_3)=true:=decide_eq_true c14;clear c14
           by_cases c15:x7_3≤(wrap64 (x7_3+a1))
           · rw [if_pos c15] at H
             have c15b0:=eq_true c15
             have c15b1:decide (x7_3≤(wrap64 (x7_3+a1)))=true:=decide_eq_true c15
             by_cases c16:(wrap64 (x7_3+a1))≤(l0.length:Int)
             · rw [if_pos c16] at H
               have c16b0:=eq_true c16
               have c16b1:decide ((wrap64 (x7_3+a1))≤(l0.length:Int))=true:=decide_eq_true c16
               obtain ⟨y302,hy302⟩:∃ y_:List Int,y_=((l0.take ((wrap64 (x7_3+a1)):Int).toNat).drop (x7_3:Int).toNat):=⟨_,rfl⟩
               replace H:((dioramaref19_row.f k3 y302).bind fun t306=>(if x6_3.length+t306.length < 140737488355328 then (dioramaref19_Runs.l0 k3 l0 a1 (x6_3 ++ t306) (wrap64 (x7_3+a1))) else (none)))=some (r1,r2):=by first|(rw [hy302];with_reducible exact H)|(have H2_:=(Option.bind_some _ _).symm.trans H;rw [hy302];with_reducible exact H2_)|(have H2_:=(Option.bind_some _ _).symm.trans H;with_reducible exact H2_)|with_reducible exact H|(rw [hy302];exact H)|exact H
               have Ny302:=Aside0.mk hy302;clear hy302
               replace H:=Option.bind_eq_some_iff.mp H
               obtain ⟨t306,A170,H⟩:=H
               replace H:(if x6_3.length+t306.length < 140737488355328 then (dioramaref19_Runs.l0 k3 l0 a1 (x6_3 ++ t306) (wrap64 (x7_3+a1))) else (none))=some (r1,r2):=H
               have A17:=Aside0.mk A170;clear A170
               by_cases c18:x6_3.length+t306.length < 140737488355328
               · rw [if_pos c18] at H
                 have LMc18:=Aside0.mk c18;clear c18
                 obtain ⟨y309,hy309⟩:∃ y_:List Int,y_=(x6_3 ++ t306):=⟨_,rfl⟩
                 replace H:(dioramaref19_Runs.l0 k3 l0 a1 y309 (wrap64 (x7_3+a1)))=some (r1,r2):=by first|(rw [hy309];with_reducible exact H)|(have H2_:=(Option.bind_some _ _).symm.trans H;rw [hy309];with_reducible exact H2_)|(have H2_:=(Option.bind_some _ _).symm.trans H;with_reducible exact H2_)|with_reducible exact H|(rw [hy309];exact H)|exact H
                 have Ny309:=Aside0.mk hy309;clear hy309
                 have H':=Aside0.mk H;clear H
                 have q19:((wrap64 (x7_3+a1)):Int)≤((l0.length:Int):Int):=of_decide_eq_true asV
                 obtain ⟨i019,hi019,_,hsz19,_⟩:=info_parts info3
                 have hroom19:l0.length≤c0:=HC0.out
                 have hC19:Kd.C (Kd.int .i64) _ A0 l0.length l0:=HR0.out
                 have ql19:(x7_3:Int)≤((wrap64 (x7_3+a1)):Int):=of_decide_eq_true asV
                 have q019:(0:Int)≤(x7_3:Int):=of_decide_eq_true asV
                 have hcut19:=cut_mid (P:=Try.prog) 22 3 .i64 .i64 Try.underlying22 hi019 1 hsz19 A0 l0.length c0 x7_3 (wrap64 (x7_3+a1)) q019 ql19 q19 hroom19
                 have hr19:=Kd.C_mid (lo:=(x7_3:Int).toNat) (hi:=((wrap64 (x7_3+a1)):Int).toNat) (c:=c0) hC19 (by omega) (by omega) hroom19
                 obtain ⟨A19,hA19⟩:∃ A1,A1=(if c0=(x7_3:Int).toNat then A0 else (A0:Option Addr).map (·.add ((x7_3:Int).toNat*1))):=⟨_,rfl⟩
                 obtain ⟨c19,hc19⟩:∃ c1,c1=c0 - (x7_3:Int).toNat:=⟨_,rfl⟩
                 have hy19:y302.length=((wrap64 (x7_3+a1)):Int).toNat - (x7_3:Int).toNat:=(by rw [Ny302.out,List.length_drop,List.length_take] <;> omega)
                 rw [show ((l0).take ((wrap64 (x7_3+a1)):Int).toNat).drop (x7_3:Int).toNat=y302 from Ny302.out.symm] at hr19
                 replace hr19:Kd.C (Kd.int .i64) _ A19 y302.length y302:=(by rw [hA19];exact hr19)
                 rw [← hy19,← hA19,← hc19] at hcut19
                 have HR305:=Aside0.mk hr19
                 have HC305:=Aside0.mk (show y302.length≤c19 from by rw [hy19,hc19];exact Nat.sub_le_sub_right (Nat.le_trans (by omega) hroom19) _);clear hr19 hC19 hroom19 hi019 hsz19 hc19
                 have KY19:=Aside0.mk hy19
                 have KA19:=Aside0.mk hA19;clear hy19 hA19
                 replace q19:=eq_true q19
                 go_wp2_with (first|((with_reducible refine gate_callee (f:=52) rfl ?_);refine goesL_ (some 43) rfl rfl Try.func52 (by kernel_rfl) rfl #[.slice A19 y302.length c19] rfl (by (try simp only [List.map_toArray,List.map_cons,List.map_nil]);first|done|rfl|(simp only [List.length_drop,List.length_take];rfl)) ?_;(with_reducible refine (dioramaref19_row.calls k3 _ _ y302 t306 _ ?side1 ?side2 A17.out).mono ?_);(case side1=>exact cV (Kd.C_below HR305.out HB.out));(case side2=>exact HC305.out);rintro e w20 ⟨v307,rfl,ho0,hb⟩;refine ⟨_,rfl,?_⟩;have n0_:=Aside0.mk (Kd.R_elder' (rowV HO_6.out) (Kd.R_base ho0) hb);have n1_:=Aside0.mk (Kd.R_lower (Kd.R_new' ho0 (Kd.R_lt (rowV HO_6.out))) (below_size (belV HB.out)));have n2_:=Aside0.mk (below_step (belV HB.out) hb);clear HO_6;clear HB;have HO_6:=n0_;have HO308:=n1_;have HB:=n2_;clear n0_ n1_ n2_;(try clear hb);(try clear hb2);(try clear hk);(try clear hi);(try clear ho0);obtain ⟨Ao22,co22,eo22⟩:=Kd.R_slice HO308.out;subst eo22)|((with_reducible refine gate_builtin (b:=.append) (xs:=#[.tmp 36,.tmp 43]) rfl ?_);(try (refine gate_guard (by rfl) ?_;dsimp only));at_builtin;refine Kd.R_append_rows (Kd.int .u8) (w0:=w) w.heap.size rfl (.tmp 36) (.tmp 43) 23 5 (.int .u8 0) 1 rfl Try.underlying23 info5 rfl (by decide) (by omega) u6 x6_3 t306 _ _ _ (fun _=>True) (fun _=>False) rfl rfl ?aO ?aR (fun _ _ h=>h) (fun _ h=>h.elim) ?aF ?aB ?aS ?aL ?_;(case aR=>exact cV (Kd.R_reads' HO308.out).2.2);(case aB=>exact (belV HB.out));(case aF=>exact (fun _ _=>trivial));(case aO=>exact (by (with_reducible repeat (first|apply Kd.R_alloc|apply Kd.R_drewN|apply Kd.R_drew));exact Kd.R_mono HO_6.out (fun _ hk=>trivial)));(case aS=>exact (below_size (belV HB.out)));(case aL=>have:=LMc18.out;omega);intro v310 w21 ho hb hg hat;rw [← Ny309.out] at ho;have n0_:=Aside0.mk (hb);have n1_:=Aside0.mk (ho);clear HB;clear HO_6;clear HO308;have HB:=n0_;have HO311:=n1_;clear n0_ n1_;clear ho hb hg hat))
                 go_roundg k3
                 case measure=>have:=HJ2.out;have:=HJ7.out;have:=HK3.out;omega
                 case rel=>exact ⟨(y309),(wrap64 (x7_3+a1)),okV,H',⟨by have:=HJ2.out;have:=HJ7.out;have:=HK3.out;omega⟩,⟨rowV HO311.out⟩,⟨belV HB.out⟩⟩
               rw [if_neg c18] at H
               exact absurd H (by simp)
             rw [if_neg c16] at H
             exact absurd H (by simp)
           rw [if_neg c15] at H
           exact absurd H (by simp)
         rw [if_neg c14] at H
         exact absurd H (by simp)
       rw [if_neg c13] at H
       have c13b0:decide (x7_3 < (l0.length:Int))=false:=decide_eq_false c13;clear c13
       simp only [Option.some.injEq,Prod.mk.injEq] at H
       obtain ⟨rfl,rfl⟩:=H
       go_wp2
       go_ret2
       exact ⟨_,by first|rfl|(simp [errW_none,errW_some] <;> rfl)|(simp [*,errW_none,errW_some] <;> rfl),by (with_reducible repeat (first|apply Kd.R_alloc|apply Kd.R_drewN|apply Kd.R_drew));exact HO_6.out,by repeat (first|(with_reducible first|exact HB.out|apply below_alloc|apply pw_below_drewN|apply below_drew1)|exact HB.out)⟩

end Go.Proofs.Ytaebgjdaoloceaa.QBmpP
