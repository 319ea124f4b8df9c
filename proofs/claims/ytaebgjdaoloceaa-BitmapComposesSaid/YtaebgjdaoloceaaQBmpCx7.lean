/- Part of a proof: functions of the program as Lean functions, and that the machine's calls come to them. Made by a program of this session (wip/mp). -/
import Derived.Test.YtaebgjdaoloceaaQBmpCx0
import Derived.Test.YtaebgjdaoloceaaQBmpCx2
import Derived.Test.YtaebgjdaoloceaaQBmpCx5
import Derived.Test.YtaebgjdaoloceaaQBmpCx6
namespace Go.Proofs.Ytaebgjdaoloceaa.QBmpC
open Go.RowKit Go.Proofs.YtaebgjdaoloceaaV Go.Proofs.YtaebgjdaoloceaaW.PrintWords Go.Proofs.YtaebgjdaoloceaaW.PrintLast Go.Proofs.YtaebgjdaoloceaaW.PrintMore
attribute [local go_sem] max2_int min2_int max_two min_two max_three min_three max_four min_four   -- for this text's walks alone
set_option linter.unusedVariables false
set_option linter.unusedSimpArgs false

/-! ### dioramaref19_Compose: function 20 -/
def dioramaref19_Compose.l0 : Nat → List (S51) → Int → Int → Int → Int → List Int → List Int → Option (Int × Int × List Int × List Int × Int)
 | 0,_,_,_,_,_,_,_=>none
 | k+1,x0,x9,x10,x336000,x336001,x336002,x336003=>if x10 < (x0.length:Int) then (if x9=0 then (if 0≤x10 then ((dioramaref19_Draw.f k x336000 x336001 x336002 x336003 ((rd_T51 x0 x10).f0) ((rd_T51 x0 x10).f1) ((rd_T51 x0 x10).f2)).bind fun bt337=>(dioramaref19_Compose.l0 k x0 bt337.2.2.2.2 (wrap64 (x10+1)) bt337.1 bt337.2.1 bt337.2.2.1 bt337.2.2.2.1)) else (none)) else (some (0,0,([]:List Int),([]:List Int),x9))) else (if x9=0 then (some (x336000,x336001,x336002,x336003,0)) else (some (0,0,([]:List Int),([]:List Int),x9)))
def dioramaref19_Compose.f (k : Nat) (l0 : List (S51)) (a1 : Int) (a2 : Int) : Option (Int × Int × List Int × List Int × Int) := (dioramaref19_Empty.f k a1 a2).bind fun bt326 => (dioramaref19_Compose.l0 k l0 bt326.2.2.2.2 0 bt326.1 bt326.2.1 bt326.2.2.1 bt326.2.2.2.1)
theorem dioramaref19_Compose.mono_l:∀ k,(∀ y0 y1 y2 y3 y4 y5 y6,LeO (dioramaref19_Compose.l0 k y0 y1 y2 y3 y4 y5 y6) (dioramaref19_Compose.l0 (k+1) y0 y1 y2 y3 y4 y5 y6))
 | 0=>fun _ _ _ _ _ _ _ r h=>by simp [dioramaref19_Compose.l0] at h
 | k+1=>by
  have ih0:=dioramaref19_Compose.mono_l k
  · intro y0 y1 y2 y3 y4 y5 y6
    unfold dioramaref19_Compose.l0
    repeat' first
    | (with_reducible exact ih0 _ _ _ _ _ _ _)
    | (with_reducible exact dioramaref19_Draw.mono _ _ _ _ _ _ _ _)
    | (with_reducible exact dioramaref19_Empty.mono _ _ _)
    | (with_reducible exact LeO.refl _)
    | (with_reducible exact LeO.none _)
    | (with_reducible refine LeO.ite ?_ ?_)
    | (with_reducible refine LeO.bind ?_ (fun _=>?_))
    | exact LeO.none _
    | refine LeO.ite ?_ ?_
    | refine LeO.bind ?_ (fun _=>?_)
theorem dioramaref19_Compose.mono:∀ a0 a1 a2 k,LeO (dioramaref19_Compose.f k a0 a1 a2) (dioramaref19_Compose.f (k+1) a0 a1 a2):=by
 intro a0 a1 a2 k
 have ih0:=dioramaref19_Compose.mono_l k
 unfold dioramaref19_Compose.f
 repeat' first
  | (with_reducible exact ih0 _ _ _ _ _ _ _)
  | (with_reducible exact dioramaref19_Draw.mono _ _ _ _ _ _ _ _)
  | (with_reducible exact dioramaref19_Empty.mono _ _ _)
  | (with_reducible exact LeO.refl _)
  | (with_reducible exact LeO.none _)
  | (with_reducible refine LeO.ite ?_ ?_)
  | (with_reducible refine LeO.bind ?_ (fun _=>?_))
  | exact LeO.none _
  | refine LeO.ite ?_ ?_
  | refine LeO.bind ?_ (fun _=>?_)
def dioramaref19_Compose.T5 : Bool × List (List Nat × List Nat) := (true, [([], []), ([], []), ([], []), ([1, 2], [1, 2]), ([3], [3]), ([0, 4], [0, 4]), ([5], [5]), ([6], [6]), ([6], [6]), ([7, 5, 0, 1, 2, 3, 4, 5, 6, 7], [7]), ([8, 9, 0, 1, 2, 3, 4, 5, 6, 7, 8, 9], [8])])
def dioramaref19_Compose.B5 : List Nat := [0, 0, 0, 6, 14, 31, 63, 127, 127, 255, 1023]
theorem dioramaref19_Compose.tab5:rtab .any (opsOf Try.f20 5)=dioramaref19_Compose.T5:=by kernel_rfl
theorem dioramaref19_Compose.bits5:waitsOk dioramaref19_Compose.T5.2 dioramaref19_Compose.B5=true:=by kernel_rfl
set_option maxHeartbeats 8000000 in
set_option maxRecDepth 100000 in
theorem dioramaref19_Compose.calls (k:Nat) (A0:Option Addr) (c0:Nat) (l0:List (S51)) (a1:Int) (a2:Int) (r1:Int) (r2:Int) (r3:List Int) (r4:List Int) (r5:Int) (w:World) (hr0:Kd.C k51 w A0 l0.length l0) (hc0:l0.length≤c0) (h:dioramaref19_Compose.f k l0 a1 a2=some (r1,r2,r3,r4,r5)) :
 Calls Try.prog 20 #[.slice A0 l0.length c0,.int .i64 a1,.int .i64 a2] w fun e w'=>∃ v2_ v3_:Value,e=.returned (.tuple #[.agg #[.int .i64 r1,.int .i64 r2,v2_,v3_],.int .i64 r5])∧Kd.R (Kd.int .i64) 3 w' w.heap.size (fun k_=>some k_≠(v3_:Value).ownBlock) v2_ r3∧Kd.R (Kd.int .i64) 3 w' w.heap.size (fun k_=>some k_≠(v2_:Value).ownBlock) v3_ r4∧Below w.heap.size w w':=by
 have hu41:=Try.underlying41
 have hu51:=Try.underlying51
 have HR0:=Aside0.mk hr0
 have HC0:=Aside0.mk hc0;clear hr0 hc0;have HB:=Aside0.mk (Below.refl w.heap.size w)
 have H:((dioramaref19_Empty.f k a1 a2).bind fun bt326=>(dioramaref19_Compose.l0 k l0 bt326.2.2.2.2 0 bt326.1 bt326.2.1 bt326.2.2.1 bt326.2.2.2.1))=some (r1,r2,r3,r4,r5):=h;clear h
 replace H:=Option.bind_eq_some_iff.mp H
 obtain ⟨⟨t326,t327,t328,t331,t334⟩,A40,H⟩:=H
 replace H:(dioramaref19_Compose.l0 k l0 t334 0 t326 t327 t328 t331)=some (r1,r2,r3,r4,r5):=H
 have A4:=Aside0.mk A40;clear A40
 have H':=Aside0.mk H;clear H
 go_enter Try.func20,Try.ntmps20
 go_wp2_with (first|((with_reducible refine gate_dst (N:=6) rfl ?_);refine box_event ?hg (N:=6) ?hd (cs:=#[.int .i64 0,.int .i64 0,.slice none 0 0,.slice none 0 0]) (t:=41) ?hr ?_;(case hd=>rfl);(case hg=>rfl);(case hr=>first|(go_simp;done)|(go_simp;rfl));intro gb325 hg w5 hbox hb;have n0_:=Aside0.mk (below_step (belV HB.out) hb);have n1_:=Aside0.mk (hbox);have n2_:=Aside0.mk ((by rw [hg];exact (below_size (belV HB.out)):w.heap.size≤gb325));have n3_:=Aside0.mk ((by rw [hg];exact (below_size (belV HB.out)):w.heap.size≤gb325));clear HB;have HB:=n0_;have BK325:=n1_;have GW325:=n2_;have GE325:=n3_;clear n0_ n1_ n2_ n3_;clear hb hbox hg)|((with_reducible refine gate_callee (f:=24) rfl ?_);refine goesL_ (some 14) rfl rfl Try.func24 (by kernel_rfl) rfl #[.int .i64 a1,.int .i64 a2] rfl (by (try simp only [List.map_toArray,List.map_cons,List.map_nil]);first|done|rfl|(simp only [List.length_drop,List.length_take];rfl)) ?_;(with_reducible refine (dioramaref19_Empty.calls k a1 a2 t326 t327 t328 t331 t334 _ A4.out).mono ?_);rintro e w6 ⟨v329,v332,rfl,ho0,ho1,hb⟩;refine ⟨_,rfl,?_⟩;have n0_:=Aside0.mk (Kd.R_lower ho0 (below_size (belV1 HB.out GE325.out)));have n1_:=Aside0.mk (Kd.R_lower ho1 (below_size (belV1 HB.out GE325.out)));have n2_:=Aside0.mk (blk_below (g:=gb325) (blkV BK325.out) hb);have n3_:=Aside0.mk (below_step (belV1 HB.out GE325.out) hb);clear BK325;clear HB;have HO330:=n0_;have HO333:=n1_;have BK325:=n2_;have HB:=n3_;clear n0_ n1_ n2_ n3_;(try clear hb);(try clear hb2);(try clear hk);(try clear hi);(try clear ho0);(try clear ho1))|((with_reducible refine gate_dst (N:=8) rfl ?_);refine box_event ?hg (N:=8) ?hd (cs:=#[.int .i64 0,.int .i64 0,.slice none 0 0,.slice none 0 0]) (t:=41) ?hr ?_;(case hd=>rfl);(case hg=>rfl);(case hr=>first|(go_simp;done)|(go_simp;rfl));intro gb335 hg w7 hbox hb;have n0_:=Aside0.mk (Kd.R_below (rowV HO330.out) hb);have n1_:=Aside0.mk (Kd.R_below (rowV HO333.out) hb);have n2_:=Aside0.mk (blk_below (g:=gb325) (blkV BK325.out) hb);have n3_:=Aside0.mk (below_step (belV1 HB.out GE325.out) hb);have n4_:=Aside0.mk (hbox);have n5_:=Aside0.mk ((by rw [hg];exact (below_size (belV1 HB.out GE325.out)):w.heap.size≤gb335));have n6_:=Aside0.mk ((by rw [hg];exact (below_size (belV1 HB.out GE325.out)):w.heap.size≤gb335));have n7_:=Aside0.mk ((by rw [hg];exact Nat.ne_of_lt (blk_lt (g:=gb325) (blkV BK325.out)):gb325≠gb335));have n8_:=Aside0.mk ((by rw [hg];exact Nat.ne_of_gt (blk_lt (g:=gb325) (blkV BK325.out)):gb335≠gb325));clear HO330;clear HO333;clear BK325;clear HB;have HO330:=n0_;have HO333:=n1_;have BK325:=n2_;have HB:=n3_;have BK335:=n4_;have GW335:=n5_;have GE335:=n6_;have NB325_335:=n7_;have NB335_325:=n8_;clear n0_ n1_ n2_ n3_ n4_ n5_ n6_ n7_ n8_;clear hb hbox hg;have hnb8:=NB335_325.out;have hnc8:=NB325_335.out;obtain ⟨hcz9_0,hcz9_1,hcz9_2,hcz9_3,hfz9_0,hfz9_1,hfz9_2,hfz9_3⟩:=bcells4 BK335.out;obtain ⟨Ao10,co10,eo10⟩:=Kd.R_slice HO330.out;subst eo10;obtain ⟨Ao11,co11,eo11⟩:=Kd.R_slice HO333.out;subst eo11))
 go_loopg [9,10] k (fun kq v9 v10 w'=>∃ (x9_1:Int) (x10_1:Int) (x336000_1:Int) (x336001_1:Int) (x336002_1:List Int) (x336003_1:List Int) (u336002:Value) (u336003:Value),v9=.int .i64 x9_1∧v10=.int .i64 x10_1∧Aside0 (dioramaref19_Compose.l0 kq l0 x9_1 x10_1 x336000_1 x336001_1 x336002_1 x336003_1=some (r1,r2,r3,r4,r5))∧Aside0 (kq≤k)∧Aside0 (Kd.R (Kd.int .i64) 3 w' w.heap.size (fun k_=>some k_≠(u336003:Value).ownBlock) u336002 x336002_1)∧Aside0 (Kd.R (Kd.int .i64) 3 w' w.heap.size (fun k_=>some k_≠(u336002:Value).ownBlock) u336003 x336003_1)∧Aside0 (w'.heap[gb325]?=some (.cells #[.int .i64 0,.int .i64 0,(.slice none 0 0),(.slice none 0 0)] 41 (0,0)))∧Aside0 (w'.heap[gb335]?=some (.cells #[.int .i64 x336000_1,.int .i64 x336001_1,u336002,u336003] 41 (0,0)))∧Aside0 (Below w.heap.size w w'))
 case atStart=>exact ⟨(t334),(0),(t326),(t327),(t328),(t331),(.slice Ao10 t328.length co10),(.slice Ao11 t331.length co11),okV,okV,H',⟨Nat.le_refl _⟩,⟨by (with_reducible repeat (first|apply Kd.R_alloc|apply Kd.R_drewN|apply Kd.R_drew));exact Kd.R_mono (Kd.R_put4 HO330.out BK335.out (by decide)) (fun _ hk=>hk.1)⟩,⟨by (with_reducible repeat (first|apply Kd.R_alloc|apply Kd.R_drewN|apply Kd.R_drew));exact Kd.R_mono (Kd.R_put4 HO333.out BK335.out (by decide)) (fun _ hk=>hk.1)⟩,⟨blkW BK325.out NB325_335.out⟩,⟨by (with_reducible repeat (first|refine blk_drewN ?_ _|refine blk_drew ?_|refine blk_alloc ?_ _));refine blk_put (cs:=#[.int .i64 t326,.int .i64 t327,.slice Ao10 t328.length co10,.slice none 0 0]) ?_ 3 _ rfl;(with_reducible repeat (first|refine blk_drewN ?_ _|refine blk_drew ?_|refine blk_alloc ?_ _));refine blk_put (cs:=#[.int .i64 t326,.int .i64 t327,.slice none 0 0,.slice none 0 0]) ?_ 2 _ rfl;(with_reducible repeat (first|refine blk_drewN ?_ _|refine blk_drew ?_|refine blk_alloc ?_ _));refine blk_put (cs:=#[.int .i64 t326,.int .i64 0,.slice none 0 0,.slice none 0 0]) ?_ 1 _ rfl;(with_reducible repeat (first|refine blk_drewN ?_ _|refine blk_drew ?_|refine blk_alloc ?_ _));refine blk_put (cs:=#[.int .i64 0,.int .i64 0,.slice none 0 0,.slice none 0 0]) ?_ 0 _ rfl;(with_reducible repeat (first|refine blk_drewN ?_ _|refine blk_drew ?_|refine blk_alloc ?_ _));exact BK335.out⟩,⟨belV2 HB.out GE325.out GE335.out⟩⟩
 case round =>
  clear H'
  try clear c2;try clear p2;try clear c8;try clear hcz9_0 hcz9_1 hcz9_2 hcz9_3;try clear hfz9_0 hfz9_1 hfz9_2 hfz9_3
  obtain ⟨x9_1,x10_1,x336000_1,x336001_1,x336002_1,x336003_1,u336002,u336003,rfl,rfl,HA,HK1,HO_336002,HO_336003,BK325,BK335,HB⟩:=hrel
  cases gk with
  | zero=>exact absurd HA.out (by simp [dioramaref19_Compose.l0])
  | succ k1 =>
   have H:=HA.out;clear HA
   simp only [dioramaref19_Compose.l0] at H
   by_cases c12:x10_1 < (l0.length:Int)
   · rw [if_pos c12] at H
     have c12b0:decide (x10_1 < (l0.length:Int))=true:=decide_eq_true c12;clear c12
     by_cases c13:x9_1=0
     · rw [if_pos c13] at H
       have c13b0:(x9_1 == 0)=true:=beq_iff_eq.mpr c13
       have c13b1:(x9_1 != 0)=false:=bne_eq_false_iff_eq.mpr c13;clear c13
       by_cases c14:0≤x10_1
       · rw [if_pos c14] at H
         have c14b0:decide (0≤x10_1)=true:=decide_eq_true c14;clear c14
         replace H:=Option.bind_eq_some_iff.mp H
         obtain ⟨⟨t337,t338,t339,t342,t345⟩,A150,H⟩:=H
         replace H:(dioramaref19_Compose.l0 k1 l0 t345 (wrap64 (x10_1+1)) t337 t338 t339 t342)=some (r1,r2,r3,r4,r5):=H
         have A15:=Aside0.mk A150;clear A150
         have H':=Aside0.mk H;clear H
         try go_wp2
         have n0_:=Aside0.mk (Kd.R_drew HO_336002.out)
         have n1_:=Aside0.mk (Kd.R_drew HO_336003.out)
         have n2_:=Aside0.mk (blk_drew BK325.out)
         have n3_:=Aside0.mk (blk_drew BK335.out)
         have n4_:=Aside0.mk (below_drew1 HB.out);clear HO_336002;clear HO_336003;clear BK325;clear BK335;clear HB;have HO_336002:=n0_;have HO_336003:=n1_;have BK325:=n2_;have BK335:=n3_;have HB:=n4_;clear n0_ n1_ n2_ n3_ n4_
         have p336:0≤(x10_1:Int):=of_decide_eq_true asV
         have q336:x10_1 < (l0.length:Int):=of_decide_eq_true asV
         obtain ⟨ad336,A336_1,c336_1,A336_2,c336_2,e336,hx336_0,hx336_1,hx336_2,hl336_1,hi336_1,hl336_2,hi336_2⟩:=at_T51 HR0.out x10_1 p336 q336
         have hw336_2:=hx336_2
         have hw336_1:=hx336_1
         have hw336_0:=hx336_0
         cases e336
         replace hx336_0:=(HB.out.cell (World.block_lt_of_cell? w _ hx336_0)).trans hx336_0
         replace hx336_1:=(HB.out.cell (World.block_lt_of_cell? w _ hx336_1)).trans hx336_1
         replace hx336_2:=(HB.out.cell (World.block_lt_of_cell? w _ hx336_2)).trans hx336_2
         have HR336_1:=Aside0.mk hi336_1
         have HC336_1:=Aside0.mk hl336_1;clear hi336_1 hl336_1
         have HR336_2:=Aside0.mk hi336_2
         have HC336_2:=Aside0.mk hl336_2;clear hi336_2 hl336_2
         replace p336:=eq_true p336
         replace q336:=eq_true q336
         obtain ⟨Ao17,co17,eo17⟩:=Kd.R_slice HO_336002.out
         (first|subst eo17|(injection eo17 with f1_ f2_ f3_;have f4_:=f1_.symm;have f5_:=f3_.symm;clear f1_ f2_ f3_;subst f4_;subst f5_))
         obtain ⟨Ao18,co18,eo18⟩:=Kd.R_slice HO_336003.out
         (first|subst eo18|(injection eo18 with f1_ f2_ f3_;have f4_:=f1_.symm;have f5_:=f3_.symm;clear f1_ f2_ f3_;subst f4_;subst f5_))
         refine start_ (n:=11) (S:=fun w'=>w'.cell? ⟨gb335,0,none⟩=some (.int .i64 x336000_1)∧w'.cell? ⟨gb335,1,none⟩=some (.int .i64 x336001_1)∧w'.cell? ⟨gb335,2,none⟩=some (.slice Ao17 x336002_1.length co17)∧w'.cell? ⟨gb335,3,none⟩=some (.slice Ao18 x336003_1.length co18)∧w'.cell? (ad336.add ((x10_1).toNat*3))=some (.bool ((rd_T51 l0 x10_1).f0))∧w'.cell? ⟨(ad336.add ((x10_1).toNat*3)).block,(ad336.add ((x10_1).toNat*3)).off+1,none⟩=some (.slice A336_1 ((rd_T51 l0 x10_1).f1).length c336_1)∧w'.cell? ⟨(ad336.add ((x10_1).toNat*3)).block,(ad336.add ((x10_1).toNat*3)).off+2,none⟩=some (.slice A336_2 ((rd_T51 l0 x10_1).f2).length c336_2)) (ds:=[9]) ((bm false [11]).toArray) (by kernel_rfl) rfl rfl ⟨(blk_cell BK335.out 0).trans rfl,(blk_cell BK335.out 1).trans rfl,(blk_cell BK335.out 2).trans rfl,(blk_cell BK335.out 3).trans rfl,((HB.out.cell (World.block_lt_of_cell? w _ hw336_0)).trans hw336_0),((HB.out.cell (World.block_lt_of_cell? w _ hw336_1)).trans hw336_1),((HB.out.cell (World.block_lt_of_cell? w _ hw336_2)).trans hw336_2)⟩ (fun hHeld=>?_);refine with_tabW dioramaref19_Compose.tab5 dioramaref19_Compose.bits5 (fun HT_ HW_=>?_)
         generalize wr.drew=w16 at HO_336002 HO_336003 BK325 BK335 HB HR336_1 HR336_2 hx336_0 hx336_1 hx336_2 hHeld ⊢
         refine pure_ (i:=1) (N:=some 29) (v:=?_) (a':=?_) ((bm false [1,1,9]).toArray) rfl rfl (any_of HT_.out (by kernel_rfl)) (fun _ _ _ h=>h) (Or.inl ⟨by rfl,?_⟩) ?_ ?_;rotate_left
         · intro w';go_simp;with_reducible rfl
         rotate_left
         · simp only [Act.put,List.setIfInBounds_toArray,List.set_cons_zero,List.set_cons_succ,i64_w,i32_w];rfl
         refine pure_ (i:=2) (N:=some 30) (v:=?_) (a':=?_) ((bm false [1,2,8]).toArray) rfl rfl (any_of HT_.out (by kernel_rfl)) (fun _ _ _ h=>h) (Or.inl ⟨by rfl,?_⟩) ?_ ?_;rotate_left
         · intro w';go_simp;with_reducible rfl
         rotate_left
         · simp only [Act.put,List.setIfInBounds_toArray,List.set_cons_zero,List.set_cons_succ,i64_w,i32_w];rfl
         refine pure_ (i:=3) (N:=some 31) (v:=?_) (a':=?_) ((bm false [1,3,7]).toArray) rfl rfl (any_of HT_.out (by kernel_rfl)) (fun _ _ _ h=>h) (Or.inl ⟨by rfl,?_⟩) ?_ ?_;rotate_left
         · intro w';go_simp;with_reducible rfl
         rotate_left
         · simp only [Act.put,List.setIfInBounds_toArray,List.set_cons_zero,List.set_cons_succ,i64_w,i32_w];rfl
         refine take_ (i:=0) (N:=some 28) (v:=?_) (a':=?_) ((bm true [4,7]).toArray) rfl rfl (take_ofW HT_.out HW_.out (by kernel_rfl)) (fun _ _ _ h=>h) (Or.inl ⟨by rfl,?_⟩) hHeld ?_ ?_;rotate_left
         · rintro w' ⟨s0,s1,s2,s3,s4,s5,s6⟩
           go_simp;with_reducible rfl
         rotate_left
         · simp only [Act.put,List.setIfInBounds_toArray,List.set_cons_zero,List.set_cons_succ,i64_w,i32_w];rfl
         refine take_ (i:=4) (N:=some 32) (v:=?_) (a':=?_) ((bm true [5,6]).toArray) rfl rfl (take_ofW HT_.out HW_.out (by kernel_rfl)) (fun _ _ _ h=>h) (Or.inl ⟨by rfl,?_⟩) hHeld ?_ ?_;rotate_left
         · rintro w' ⟨s0,s1,s2,s3,s4,s5,s6⟩
           go_simp;with_reducible rfl
         rotate_left
         · simp only [Act.put,List.setIfInBounds_toArray,List.set_cons_zero,List.set_cons_succ,i64_w,i32_w];rfl
         refine one_ (i:=5) (N:=some 33) ((bm true [6,5]).toArray) rfl rfl (one_of HT_.out (by kernel_rfl)) (by decide) (fun K hK=>?_)
         refine goes_ Try.func31 (by kernel_rfl) rfl #[.agg #[.int .i64 x336000_1,.int .i64 x336001_1,.slice Ao17 x336002_1.length co17,.slice Ao18 x336003_1.length co18],.agg #[.bool ((rd_T51 l0 x10_1).f0),.slice A336_1 ((rd_T51 l0 x10_1).f1).length c336_1,.slice A336_2 ((rd_T51 l0 x10_1).f2).length c336_2]] (by rfl) rfl rfl (by (try simp only [List.map_toArray,List.map_cons,List.map_nil]);first|done|rfl|(simp only [List.length_drop,List.length_take];rfl)) ?_
         with_reducible refine (dioramaref19_Draw.calls k1 x336000_1 x336001_1 _ _ x336002_1 _ _ x336003_1 ((rd_T51 l0 x10_1).f0) _ _ ((rd_T51 l0 x10_1).f1) _ _ ((rd_T51 l0 x10_1).f2) t337 t338 t339 t342 t345 _ ?side1 ?side2 ?side3 ?side4 ?side5 ?side6 ?side7 ?side8 A15.out).mono ?_
         (case side1=>exact cV (Kd.R_reads' HO_336002.out).2.2)
         (case side2=>exact (Kd.R_reads' HO_336002.out).2.1)
         (case side3=>exact cV (Kd.R_reads' HO_336003.out).2.2)
         (case side4=>exact (Kd.R_reads' HO_336003.out).2.1)
         (case side5=>exact cV (Kd.C_below HR336_1.out HB.out))
         (case side6=>exact HC336_1.out)
         (case side7=>exact cV (Kd.C_below HR336_2.out HB.out))
         (case side8=>exact HC336_2.out)
         rintro e w19 ⟨v340,v343,rfl,ho0,ho1,hb⟩
         refine ⟨_,rfl,?_⟩
         have n0_:=Aside0.mk (Kd.R_mono (Kd.R_told (Kd.R_told (Kd.R_old (rowV HO_336002.out) hb) (Kd.R_base ho0)) (Kd.R_base ho1)) (fun _ h_=>h_.1))
         have n1_:=Aside0.mk (Kd.R_mono (Kd.R_told (Kd.R_told (Kd.R_old (rowV HO_336003.out) hb) (Kd.R_base ho0)) (Kd.R_base ho1)) (fun _ h_=>h_.1))
         have n2_:=Aside0.mk (Kd.R_lower (Kd.R_new' (Kd.R_new' ho0 (Kd.R_lt (rowV HO_336002.out))) (Kd.R_lt (rowV HO_336003.out))) (below_size (belV2 HB.out GE325.out GE335.out)))
         have n3_:=Aside0.mk (Kd.R_lower (Kd.R_new' (Kd.R_new' ho1 (Kd.R_lt (rowV HO_336002.out))) (Kd.R_lt (rowV HO_336003.out))) (below_size (belV2 HB.out GE325.out GE335.out)))
         have n4_:=Aside0.mk (blk_below (g:=gb325) (blkV BK325.out) hb)
         have n5_:=Aside0.mk (blk_below (g:=gb335) (blkV BK335.out) hb)
         have n6_:=Aside0.mk (below_step (belV2 HB.out GE325.out GE335.out) hb);clear HO_336002;clear HO_336003;clear BK325;clear BK335;clear HB;have HO_336002:=n0_;have HO_336003:=n1_;have HO341:=n2_;have HO344:=n3_;have BK325:=n4_;have BK335:=n5_;have HB:=n6_;clear n0_ n1_ n2_ n3_ n4_ n5_ n6_
         (try clear hb)
         (try clear hb2)
         (try clear hk)
         (try clear hi)
         (try clear ho0)
         (try clear ho1)
         obtain ⟨Ao22,co22,eo22⟩:=Kd.R_slice HO341.out
         (first|subst eo22|(injection eo22 with f1_ f2_ f3_;have f4_:=f1_.symm;have f5_:=f3_.symm;clear f1_ f2_ f3_;subst f4_;subst f5_))
         obtain ⟨Ao24,co24,eo24⟩:=Kd.R_slice HO344.out
         (first|subst eo24|(injection eo24 with f1_ f2_ f3_;have f4_:=f1_.symm;have f5_:=f3_.symm;clear f1_ f2_ f3_;subst f4_;subst f5_))
         refine hK.out _ _ ⟨(blk_cell BK335.out 0).trans rfl,(blk_cell BK335.out 1).trans rfl,(blk_cell BK335.out 2).trans rfl,(blk_cell BK335.out 3).trans rfl,((HB.out.cell (World.block_lt_of_cell? w _ hw336_0)).trans hw336_0),((HB.out.cell (World.block_lt_of_cell? w _ hw336_1)).trans hw336_1),((HB.out.cell (World.block_lt_of_cell? w _ hw336_2)).trans hw336_2)⟩ (fun hHeld=>?_);clear hK K
         refine norm_ (a':=?_) ?_ ?_;rotate_left
         · show Act.put _ (some 33) _=_
           simp only [Act.put,List.setIfInBounds_toArray,List.set_cons_zero,List.set_cons_succ,i64_w,i32_w];rfl
         refine pure_ (i:=6) (N:=some 27) (v:=?_) (a':=?_) ((bm true [7,4]).toArray) rfl rfl (any_of HT_.out (by kernel_rfl)) (fun _ _ _ h=>h) (Or.inl ⟨by rfl,?_⟩) ?_ ?_;rotate_left
         · intro w';go_simp;with_reducible rfl
         rotate_left
         · simp only [Act.put,List.setIfInBounds_toArray,List.set_cons_zero,List.set_cons_succ,i64_w,i32_w];rfl
         refine pure_ (i:=7) (N:=some 34) (v:=?_) (a':=?_) ((bm true [8,3]).toArray) rfl rfl (any_of HT_.out (by kernel_rfl)) (fun _ _ _ h=>h) (Or.inl ⟨by rfl,?_⟩) ?_ ?_;rotate_left
         · intro w';go_simp;with_reducible rfl
         rotate_left
         · simp only [Act.put,List.setIfInBounds_toArray,List.set_cons_zero,List.set_cons_succ,i64_w,i32_w];rfl
         refine pure_ (i:=8) (N:=some 35) (v:=?_) (a':=?_) ((bm true [9,2]).toArray) rfl rfl (any_of HT_.out (by kernel_rfl)) (fun _ _ _ h=>h) (Or.inl ⟨by rfl,?_⟩) ?_ ?_;rotate_left
         · intro w';go_simp;with_reducible rfl
         rotate_left
         · simp only [Act.put,List.setIfInBounds_toArray,List.set_cons_zero,List.set_cons_succ,i64_w,i32_w];rfl
         refine last_ (i:=9) (N:=none) ((bm true [10,1]).toArray) rfl rfl (one_of HT_.out (by kernel_rfl)) (by decide) (fun K hK=>?_)
         have hs20:w19.cell? ⟨gb335,0,none⟩=some (.int .i64 x336000_1):=(blk_cell BK335.out 0).trans rfl
         have hfs20:=blk_frozen BK335.out 0
         have hns20_0:=NB325_335.out
         have hms20_0:=NB335_325.out
         have hs21:w19.cell? ⟨gb335,1,none⟩=some (.int .i64 x336001_1):=(blk_cell BK335.out 1).trans rfl
         have hfs21:=blk_frozen BK335.out 1
         have hns21_0:=NB325_335.out
         have hms21_0:=NB335_325.out
         have hs23:w19.cell? ⟨gb335,2,none⟩=some (.slice Ao17 x336002_1.length co17):=(blk_cell BK335.out 2).trans rfl
         have hfs23:=blk_frozen BK335.out 2
         have hns23_0:=NB325_335.out
         have hms23_0:=NB335_325.out
         have hs25:w19.cell? ⟨gb335,3,none⟩=some (.slice Ao18 x336003_1.length co18):=(blk_cell BK335.out 3).trans rfl
         have hfs25:=blk_frozen BK335.out 3
         have hns25_0:=NB325_335.out
         have hms25_0:=NB335_325.out
         refine skip_ (w1:=?_) (by rfl) rfl ?_ ?_;rotate_left
         · go_simp;rfl
         refine hK.out _ _ ?_;clear hK K
         refine pure_ (i:=10) (N:=some 9) (v:=?_) (a':=?_) ((bm true [11]).toArray) rfl rfl (any_of HT_.out (by kernel_rfl)) (fun _ _ _ h=>h) (Or.inl ⟨by rfl,?_⟩) ?_ ?_;rotate_left
         · intro w';go_simp;with_reducible rfl
         rotate_left
         · simp only [Act.put,List.setIfInBounds_toArray,List.set_cons_zero,List.set_cons_succ,i64_w,i32_w];rfl
         refine done_ (done_of HT_.out (by kernel_rfl)) ?_
         try go_wp2
         go_roundg k1
         case measure=>have:=HK1.out;omega
         case rel=>exact ⟨(t345),(wrap64 (x10_1+1)),(t337),(t338),(t339),(t342),(.slice Ao22 t339.length co22),(.slice Ao24 t342.length co24),okV,okV,H',⟨by have:=HK1.out;omega⟩,⟨by (with_reducible repeat (first|apply Kd.R_alloc|apply Kd.R_drewN|apply Kd.R_drew));exact Kd.R_mono (Kd.R_put4 HO341.out BK335.out (by decide)) (fun _ hk=>hk.1.1.1)⟩,⟨by (with_reducible repeat (first|apply Kd.R_alloc|apply Kd.R_drewN|apply Kd.R_drew));exact Kd.R_mono (Kd.R_put4 HO344.out BK335.out (by decide)) (fun _ hk=>hk.1.1.1)⟩,⟨blkW BK325.out NB325_335.out⟩,⟨by (with_reducible repeat (first|refine blk_drewN ?_ _|refine blk_drew ?_|refine blk_alloc ?_ _));refine blk_put (cs:=#[.int .i64 t337,.int .i64 t338,.slice Ao22 t339.length co22,.slice Ao18 x336003_1.length co18]) ?_ 3 _ rfl;(with_reducible repeat (first|refine blk_drewN ?_ _|refine blk_drew ?_|refine blk_alloc ?_ _));refine blk_put (cs:=#[.int .i64 t337,.int .i64 t338,.slice Ao17 x336002_1.length co17,.slice Ao18 x336003_1.length co18]) ?_ 2 _ rfl;(with_reducible repeat (first|refine blk_drewN ?_ _|refine blk_drew ?_|refine blk_alloc ?_ _));refine blk_put (cs:=#[.int .i64 t337,.int .i64 x336001_1,.slice Ao17 x336002_1.length co17,.slice Ao18 x336003_1.length co18]) ?_ 1 _ rfl;(with_reducible repeat (first|refine blk_drewN ?_ _|refine blk_drew ?_|refine blk_alloc ?_ _));refine blk_put (cs:=#[.int .i64 x336000_1,.int .i64 x336001_1,.slice Ao17 x336002_1.length co17,.slice Ao18 x336003_1.length co18]) ?_ 0 _ rfl;(with_reducible repeat (first|refine blk_drewN ?_ _|refine blk_drew ?_|refine blk_alloc ?_ _));exact BK335.out⟩,⟨belV2 HB.out GE325.out GE335.out⟩⟩
       rw [if_neg c14] at H
       exact absurd H (by simp)
     rw [if_neg c13] at H
     have c13b0:(x9_1 == 0)=false:=beq_eq_false_iff_ne.mpr c13
     have c13b1:(x9_1 != 0)=true:=bne_iff_ne.mpr c13
     simp only [Option.some.injEq,Prod.mk.injEq] at H
     obtain ⟨rfl,rfl,rfl,rfl,rfl⟩:=H
     have hnb26:=NB325_335.out
     have hnc26:=NB335_325.out
     obtain ⟨hcz27_0,hcz27_1,hcz27_2,hcz27_3,hfz27_0,hfz27_1,hfz27_2,hfz27_3⟩:=bcells4 BK325.out
     go_wp2
     refine bodyPost_ret (results_ct rfl _ _ gb325 41 #[.int .i64 0,.int .i64 0,.slice none 0 0,.slice none 0 0] (0,0) _ rfl (by (with_reducible repeat (first|refine blk_drewN ?_ _|refine blk_drew ?_|refine blk_alloc ?_ _));refine blk_put (cs:=#[.int .i64 0,.int .i64 0,.slice none 0 0,.slice none 0 0]) ?_ 3 _ rfl;(with_reducible repeat (first|refine blk_drewN ?_ _|refine blk_drew ?_|refine blk_alloc ?_ _));refine blk_put (cs:=#[.int .i64 0,.int .i64 0,.slice none 0 0,.slice none 0 0]) ?_ 2 _ rfl;(with_reducible repeat (first|refine blk_drewN ?_ _|refine blk_drew ?_|refine blk_alloc ?_ _));refine blk_put (cs:=#[.int .i64 0,.int .i64 0,.slice none 0 0,.slice none 0 0]) ?_ 1 _ rfl;(with_reducible repeat (first|refine blk_drewN ?_ _|refine blk_drew ?_|refine blk_alloc ?_ _));refine blk_put (cs:=#[.int .i64 0,.int .i64 0,.slice none 0 0,.slice none 0 0]) ?_ 0 _ rfl;(with_reducible repeat (first|refine blk_drewN ?_ _|refine blk_drew ?_|refine blk_alloc ?_ _));exact BK325.out) Try.underlying41 rfl (by kernel_rfl)) rfl ?_
     exact ⟨_,_,by first|rfl|(simp [errW_none,errW_some] <;> rfl)|(simp [*,errW_none,errW_some] <;> rfl),by first|exact Kd.R_nil _ _ _ _ _|exact Kd.N_nil _ _ _ _ _|exact Kd.V_nil _ _ _ _ _|exact Kd.Q_nil _ _ _ _ _|exact Kd.S_nil _ _ _ _ _,by first|exact Kd.R_nil _ _ _ _ _|exact Kd.N_nil _ _ _ _ _|exact Kd.V_nil _ _ _ _ _|exact Kd.Q_nil _ _ _ _ _|exact Kd.S_nil _ _ _ _ _,by repeat (first|(with_reducible first|exact HB.out|apply below_alloc|apply pw_below_drewN|apply below_drew1|refine below_set ?_ GE325.out|refine below_set ?_ GE335.out)|exact HB.out)⟩
   rw [if_neg c12] at H
   have c12b0:decide (x10_1 < (l0.length:Int))=false:=decide_eq_false c12;clear c12
   by_cases c28:x9_1=0
   · rw [if_pos c28] at H
     have c28b0:(x9_1 == 0)=true:=beq_iff_eq.mpr c28
     have c28b1:(x9_1 != 0)=false:=bne_eq_false_iff_eq.mpr c28;clear c28
     simp only [Option.some.injEq,Prod.mk.injEq] at H
     obtain ⟨rfl,rfl,rfl,rfl,rfl⟩:=H
     have hnb29:=NB335_325.out
     have hnc29:=NB325_335.out
     obtain ⟨hcz30_0,hcz30_1,hcz30_2,hcz30_3,hfz30_0,hfz30_1,hfz30_2,hfz30_3⟩:=bcells4 BK335.out
     obtain ⟨hcz31_0,hcz31_1,hcz31_2,hcz31_3,hfz31_0,hfz31_1,hfz31_2,hfz31_3⟩:=bcells4 BK325.out
     obtain ⟨Ao32,co32,eo32⟩:=Kd.R_slice HO_336002.out;subst eo32
     obtain ⟨Ao33,co33,eo33⟩:=Kd.R_slice HO_336003.out;subst eo33
     go_wp2
     refine bodyPost_ret (results_ct rfl _ _ gb325 41 #[.int .i64 x336000_1,.int .i64 x336001_1,.slice Ao32 x336002_1.length co32,.slice Ao33 x336003_1.length co33] (0,0) _ rfl (by (with_reducible repeat (first|refine blk_drewN ?_ _|refine blk_drew ?_|refine blk_alloc ?_ _));refine blk_put (cs:=#[.int .i64 x336000_1,.int .i64 x336001_1,.slice Ao32 x336002_1.length co32,.slice none 0 0]) ?_ 3 _ rfl;(with_reducible repeat (first|refine blk_drewN ?_ _|refine blk_drew ?_|refine blk_alloc ?_ _));refine blk_put (cs:=#[.int .i64 x336000_1,.int .i64 x336001_1,.slice none 0 0,.slice none 0 0]) ?_ 2 _ rfl;(with_reducible repeat (first|refine blk_drewN ?_ _|refine blk_drew ?_|refine blk_alloc ?_ _));refine blk_put (cs:=#[.int .i64 x336000_1,.int .i64 0,.slice none 0 0,.slice none 0 0]) ?_ 1 _ rfl;(with_reducible repeat (first|refine blk_drewN ?_ _|refine blk_drew ?_|refine blk_alloc ?_ _));refine blk_put (cs:=#[.int .i64 0,.int .i64 0,.slice none 0 0,.slice none 0 0]) ?_ 0 _ rfl;(with_reducible repeat (first|refine blk_drewN ?_ _|refine blk_drew ?_|refine blk_alloc ?_ _));exact BK325.out) Try.underlying41 rfl (by kernel_rfl)) rfl ?_
     exact ⟨_,_,by first|rfl|(simp [errW_none,errW_some] <;> rfl)|(simp [*,errW_none,errW_some] <;> rfl),by (with_reducible repeat (first|apply Kd.R_alloc|apply Kd.R_drewN|apply Kd.R_drew));exact Kd.R_mono (Kd.R_put4 HO_336002.out BK325.out (by decide)) (fun _ hk=>hk.1),by (with_reducible repeat (first|apply Kd.R_alloc|apply Kd.R_drewN|apply Kd.R_drew));exact Kd.R_mono (Kd.R_put4 HO_336003.out BK325.out (by decide)) (fun _ hk=>hk.1),by repeat (first|(with_reducible first|exact HB.out|apply below_alloc|apply pw_below_drewN|apply below_drew1|refine below_set ?_ GE325.out|refine below_set ?_ GE335.out)|exact HB.out)⟩
   rw [if_neg c28] at H
   have c28b0:(x9_1 == 0)=false:=beq_eq_false_iff_ne.mpr c28
   have c28b1:(x9_1 != 0)=true:=bne_iff_ne.mpr c28
   simp only [Option.some.injEq,Prod.mk.injEq] at H
   obtain ⟨rfl,rfl,rfl,rfl,rfl⟩:=H
   have hnb34:=NB325_335.out
   have hnc34:=NB335_325.out
   obtain ⟨hcz35_0,hcz35_1,hcz35_2,hcz35_3,hfz35_0,hfz35_1,hfz35_2,hfz35_3⟩:=bcells4 BK325.out
   go_wp2
   refine bodyPost_ret (results_ct rfl _ _ gb325 41 #[.int .i64 0,.int .i64 0,.slice none 0 0,.slice none 0 0] (0,0) _ rfl (by (with_reducible repeat (first|refine blk_drewN ?_ _|refine blk_drew ?_|refine blk_alloc ?_ _));refine blk_put (cs:=#[.int .i64 0,.int .i64 0,.slice none 0 0,.slice none 0 0]) ?_ 3 _ rfl;(with_reducible repeat (first|refine blk_drewN ?_ _|refine blk_drew ?_|refine blk_alloc ?_ _));refine blk_put (cs:=#[.int .i64 0,.int .i64 0,.slice none 0 0,.slice none 0 0]) ?_ 2 _ rfl;(with_reducible repeat (first|refine blk_drewN ?_ _|refine blk_drew ?_|refine blk_alloc ?_ _));refine blk_put (cs:=#[.int .i64 0,.int .i64 0,.slice none 0 0,.slice none 0 0]) ?_ 1 _ rfl;(with_reducible repeat (first|refine blk_drewN ?_ _|refine blk_drew ?_|refine blk_alloc ?_ _));refine blk_put (cs:=#[.int .i64 0,.int .i64 0,.slice none 0 0,.slice none 0 0]) ?_ 0 _ rfl;(with_reducible repeat (first|refine blk_drewN ?_ _|refine blk_drew ?_|refine blk_alloc ?_ _));exact BK325.out) Try.underlying41 rfl (by kernel_rfl)) rfl ?_
   exact ⟨_,_,by first|rfl|(simp [errW_none,errW_some] <;> rfl)|(simp [*,errW_none,errW_some] <;> rfl),by first|exact Kd.R_nil _ _ _ _ _|exact Kd.N_nil _ _ _ _ _|exact Kd.V_nil _ _ _ _ _|exact Kd.Q_nil _ _ _ _ _|exact Kd.S_nil _ _ _ _ _,by first|exact Kd.R_nil _ _ _ _ _|exact Kd.N_nil _ _ _ _ _|exact Kd.V_nil _ _ _ _ _|exact Kd.Q_nil _ _ _ _ _|exact Kd.S_nil _ _ _ _ _,by repeat (first|(with_reducible first|exact HB.out|apply below_alloc|apply pw_below_drewN|apply below_drew1|refine below_set ?_ GE325.out|refine below_set ?_ GE335.out)|exact HB.out)⟩

/-! ### dioramalaw19_same: function 21 -/
def dioramalaw19_same.f (k : Nat) (a0_0 : Int) (a0_1 : Int) (l0_2 : List Int) (l0_3 : List Int) (a1_0 : Int) (a1_1 : Int) (l1_2 : List Int) (l1_3 : List Int) : Option (Bool) := if a0_0 = a1_0 then (if a0_1 = a1_1 then ((dioramaref00_EqInts.f k l0_2 l1_2).bind fun t348 => (if t348 = true then ((dioramaref00_EqInts.f k l0_3 l1_3).bind fun t349 => (some t349)) else (some false))) else (some false)) else (some false)
theorem dioramalaw19_same.mono:∀ a0 a1 a2 a3 a4 a5 a6 a7 k,LeO (dioramalaw19_same.f k a0 a1 a2 a3 a4 a5 a6 a7) (dioramalaw19_same.f (k+1) a0 a1 a2 a3 a4 a5 a6 a7):=by
 intro a0 a1 a2 a3 a4 a5 a6 a7 k
 unfold dioramalaw19_same.f
 repeat' first
  | (with_reducible exact dioramaref00_EqInts.mono _ _ _)
  | (with_reducible exact LeO.refl _)
  | (with_reducible exact LeO.none _)
  | (with_reducible refine LeO.ite ?_ ?_)
  | (with_reducible refine LeO.bind ?_ (fun _=>?_))
  | exact LeO.none _
  | refine LeO.ite ?_ ?_
  | refine LeO.bind ?_ (fun _=>?_)
set_option maxHeartbeats 8000000 in
set_option maxRecDepth 100000 in
theorem dioramalaw19_same.calls (k:Nat) (a0_0:Int) (a0_1:Int) (A0_2:Option Addr) (c0_2:Nat) (l0_2:List Int) (A0_3:Option Addr) (c0_3:Nat) (l0_3:List Int) (a1_0:Int) (a1_1:Int) (A1_2:Option Addr) (c1_2:Nat) (l1_2:List Int) (A1_3:Option Addr) (c1_3:Nat) (l1_3:List Int) (r:Bool) (w:World) (hr0_2:Kd.C (Kd.int .i64) w A0_2 l0_2.length l0_2) (hc0_2:l0_2.length≤c0_2) (hr0_3:Kd.C (Kd.int .i64) w A0_3 l0_3.length l0_3) (hc0_3:l0_3.length≤c0_3) (hr1_2:Kd.C (Kd.int .i64) w A1_2 l1_2.length l1_2) (hc1_2:l1_2.length≤c1_2) (hr1_3:Kd.C (Kd.int .i64) w A1_3 l1_3.length l1_3) (hc1_3:l1_3.length≤c1_3) (h:dioramalaw19_same.f k a0_0 a0_1 l0_2 l0_3 a1_0 a1_1 l1_2 l1_3=some r) :
 Calls Try.prog 21 #[.agg #[.int .i64 a0_0,.int .i64 a0_1,.slice A0_2 l0_2.length c0_2,.slice A0_3 l0_3.length c0_3],.agg #[.int .i64 a1_0,.int .i64 a1_1,.slice A1_2 l1_2.length c1_2,.slice A1_3 l1_3.length c1_3]] w fun e w'=>e=.returned (.bool r)∧Below w.heap.size w w':=by
 have hu41:=Try.underlying41
 have HR0_2:=Aside0.mk hr0_2
 have HC0_2:=Aside0.mk hc0_2;clear hr0_2 hc0_2
 have HR0_3:=Aside0.mk hr0_3
 have HC0_3:=Aside0.mk hc0_3;clear hr0_3 hc0_3
 have HR1_2:=Aside0.mk hr1_2
 have HC1_2:=Aside0.mk hc1_2;clear hr1_2 hc1_2
 have HR1_3:=Aside0.mk hr1_3
 have HC1_3:=Aside0.mk hc1_3;clear hr1_3 hc1_3;have HB:=Aside0.mk (Below.refl w.heap.size w)
 have H:(if a0_0=a1_0 then (if a0_1=a1_1 then ((dioramaref00_EqInts.f k l0_2 l1_2).bind fun t348=>(if t348=true then ((dioramaref00_EqInts.f k l0_3 l1_3).bind fun t349=>(some t349)) else (some false))) else (some false)) else (some false))=some r:=h;clear h
 by_cases c3:a0_0=a1_0
 · rw [if_pos c3] at H
   have c3b0:(a0_0 == a1_0)=true:=beq_iff_eq.mpr c3
   have c3b1:(a0_0 != a1_0)=false:=bne_eq_false_iff_eq.mpr c3;clear c3
   by_cases c4:a0_1=a1_1
   · rw [if_pos c4] at H
     have c4b0:(a0_1 == a1_1)=true:=beq_iff_eq.mpr c4
     have c4b1:(a0_1 != a1_1)=false:=bne_eq_false_iff_eq.mpr c4;clear c4
     replace H:=Option.bind_eq_some_iff.mp H
     obtain ⟨t348,A50,H⟩:=H
     replace H:(if t348=true then ((dioramaref00_EqInts.f k l0_3 l1_3).bind fun t349=>(some t349)) else (some false))=some r:=H
     have A5:=Aside0.mk A50;clear A50
     by_cases c6:t348=true
     · subst c6
       have H1:((dioramaref00_EqInts.f k l0_3 l1_3).bind fun t349=>(some t349))=some r:=by rw [if_pos rfl] at H;exact H
       clear H
       have H:=H1;clear H1
       replace H:=Option.bind_eq_some_iff.mp H
       obtain ⟨t349,A70,H⟩:=H
       replace H:(some t349)=some r:=H
       have A7:=Aside0.mk A70;clear A70
       obtain rfl:=Option.some.inj H
       go_enter Try.func21,Try.ntmps21
       go_wp2_with (first|((with_reducible refine gate_dst (N:=2) rfl ?_);refine box_event ?hg (N:=2) ?hd (cs:=#[.int .i64 a0_0,.int .i64 a0_1,.slice A0_2 l0_2.length c0_2,.slice A0_3 l0_3.length c0_3]) (t:=41) ?hr ?_;(case hd=>rfl);(case hg=>rfl);(case hr=>first|(go_simp;done)|(go_simp;rfl));intro gb346 hg w8 hbox hb;have n0_:=Aside0.mk (below_step (belV HB.out) hb);have n1_:=Aside0.mk (hbox);have n2_:=Aside0.mk ((by rw [hg];exact (below_size (belV HB.out)):w.heap.size≤gb346));have n3_:=Aside0.mk ((by rw [hg];exact (below_size (belV HB.out)):w.heap.size≤gb346));clear HB;have HB:=n0_;have BK346:=n1_;have GW346:=n2_;have GE346:=n3_;clear n0_ n1_ n2_ n3_;clear hb hbox hg)|((with_reducible refine gate_dst (N:=3) rfl ?_);refine box_event ?hg (N:=3) ?hd (cs:=#[.int .i64 a1_0,.int .i64 a1_1,.slice A1_2 l1_2.length c1_2,.slice A1_3 l1_3.length c1_3]) (t:=41) ?hr ?_;(case hd=>rfl);(case hg=>rfl);(case hr=>first|(go_simp;done)|(go_simp;rfl));intro gb347 hg w9 hbox hb;have n0_:=Aside0.mk (blk_below (g:=gb346) (blkV BK346.out) hb);have n1_:=Aside0.mk (below_step (belV1 HB.out GE346.out) hb);have n2_:=Aside0.mk (hbox);have n3_:=Aside0.mk ((by rw [hg];exact (below_size (belV1 HB.out GE346.out)):w.heap.size≤gb347));have n4_:=Aside0.mk ((by rw [hg];exact (below_size (belV1 HB.out GE346.out)):w.heap.size≤gb347));have n5_:=Aside0.mk ((by rw [hg];exact Nat.ne_of_lt (blk_lt (g:=gb346) (blkV BK346.out)):gb346≠gb347));have n6_:=Aside0.mk ((by rw [hg];exact Nat.ne_of_gt (blk_lt (g:=gb346) (blkV BK346.out)):gb347≠gb346));clear BK346;clear HB;have BK346:=n0_;have HB:=n1_;have BK347:=n2_;have GW347:=n3_;have GE347:=n4_;have NB346_347:=n5_;have NB347_346:=n6_;clear n0_ n1_ n2_ n3_ n4_ n5_ n6_;clear hb hbox hg;have hnb10:=NB346_347.out;have hnc10:=NB347_346.out;obtain ⟨hcz11_0,hcz11_1,hcz11_2,hcz11_3,hfz11_0,hfz11_1,hfz11_2,hfz11_3⟩:=bcells4 BK346.out;obtain ⟨hcz12_0,hcz12_1,hcz12_2,hcz12_3,hfz12_0,hfz12_1,hfz12_2,hfz12_3⟩:=bcells4 BK347.out)|(go_at_call 15;(with_reducible refine (dioramaref00_EqInts.calls k _ _ l0_2 _ _ l1_2 true _ ?side1 ?side2 ?side3 ?side4 A5.out).mono ?_);(case side1=>exact cV (Kd.C_below HR0_2.out HB.out));(case side2=>exact HC0_2.out);(case side3=>exact cV (Kd.C_below HR1_2.out HB.out));(case side4=>exact HC1_2.out);rintro e w' ⟨rfl,⟨nd,rfl⟩⟩)|(go_at_call 15;(with_reducible refine (dioramaref00_EqInts.calls k _ _ l0_3 _ _ l1_3 t349 _ ?side1 ?side2 ?side3 ?side4 A7.out).mono ?_);(case side1=>repeat (first|exact (Kd.C_below HR0_3.out (belV2 HB.out GE346.out GE347.out))|(with_reducible refine Kd.C_alloc ?_ _)|(with_reducible refine Kd.C_drewN ?_ _)|(with_reducible refine Kd.C_drew ?_)));(case side2=>exact HC0_3.out);(case side3=>repeat (first|exact (Kd.C_below HR1_3.out (belV2 HB.out GE346.out GE347.out))|(with_reducible refine Kd.C_alloc ?_ _)|(with_reducible refine Kd.C_drewN ?_ _)|(with_reducible refine Kd.C_drew ?_)));(case side4=>exact HC1_3.out);rintro e w' ⟨rfl,⟨nd,rfl⟩⟩))
       go_ret
       exact ⟨by first|rfl|(simp [errW_none,errW_some] <;> rfl)|(simp [*,errW_none,errW_some] <;> rfl),by repeat (first|(with_reducible first|exact HB.out|apply below_alloc|apply pw_below_drewN|apply below_drew1|refine below_set ?_ GE346.out|refine below_set ?_ GE347.out)|exact HB.out)⟩
     replace c6:=Bool.eq_false_iff.mpr c6;subst c6
     have H1:(some false)=some r:=by rw [if_neg (show ¬ (false=true) by decide)] at H;exact H
     clear H
     have H:=H1;clear H1
     obtain rfl:=Option.some.inj H
     go_enter Try.func21,Try.ntmps21
     go_wp2_with (first|((with_reducible refine gate_dst (N:=2) rfl ?_);refine box_event ?hg (N:=2) ?hd (cs:=#[.int .i64 a0_0,.int .i64 a0_1,.slice A0_2 l0_2.length c0_2,.slice A0_3 l0_3.length c0_3]) (t:=41) ?hr ?_;(case hd=>rfl);(case hg=>rfl);(case hr=>first|(go_simp;done)|(go_simp;rfl));intro gb346 hg w13 hbox hb;have n0_:=Aside0.mk (below_step (belV HB.out) hb);have n1_:=Aside0.mk (hbox);have n2_:=Aside0.mk ((by rw [hg];exact (below_size (belV HB.out)):w.heap.size≤gb346));have n3_:=Aside0.mk ((by rw [hg];exact (below_size (belV HB.out)):w.heap.size≤gb346));clear HB;have HB:=n0_;have BK346:=n1_;have GW346:=n2_;have GE346:=n3_;clear n0_ n1_ n2_ n3_;clear hb hbox hg)|((with_reducible refine gate_dst (N:=3) rfl ?_);refine box_event ?hg (N:=3) ?hd (cs:=#[.int .i64 a1_0,.int .i64 a1_1,.slice A1_2 l1_2.length c1_2,.slice A1_3 l1_3.length c1_3]) (t:=41) ?hr ?_;(case hd=>rfl);(case hg=>rfl);(case hr=>first|(go_simp;done)|(go_simp;rfl));intro gb347 hg w14 hbox hb;have n0_:=Aside0.mk (blk_below (g:=gb346) (blkV BK346.out) hb);have n1_:=Aside0.mk (below_step (belV1 HB.out GE346.out) hb);have n2_:=Aside0.mk (hbox);have n3_:=Aside0.mk ((by rw [hg];exact (below_size (belV1 HB.out GE346.out)):w.heap.size≤gb347));have n4_:=Aside0.mk ((by rw [hg];exact (below_size (belV1 HB.out GE346.out)):w.heap.size≤gb347));have n5_:=Aside0.mk ((by rw [hg];exact Nat.ne_of_lt (blk_lt (g:=gb346) (blkV BK346.out)):gb346≠gb347));have n6_:=Aside0.mk ((by rw [hg];exact Nat.ne_of_gt (blk_lt (g:=gb346) (blkV BK346.out)):gb347≠gb346));clear BK346;clear HB;have BK346:=n0_;have HB:=n1_;have BK347:=n2_;have GW347:=n3_;have GE347:=n4_;have NB346_347:=n5_;have NB347_346:=n6_;clear n0_ n1_ n2_ n3_ n4_ n5_ n6_;clear hb hbox hg;have hnb15:=NB346_347.out;have hnc15:=NB347_346.out;obtain ⟨hcz16_0,hcz16_1,hcz16_2,hcz16_3,hfz16_0,hfz16_1,hfz16_2,hfz16_3⟩:=bcells4 BK346.out;obtain ⟨hcz17_0,hcz17_1,hcz17_2,hcz17_3,hfz17_0,hfz17_1,hfz17_2,hfz17_3⟩:=bcells4 BK347.out)|(go_at_call 15;(with_reducible refine (dioramaref00_EqInts.calls k _ _ l0_2 _ _ l1_2 false _ ?side1 ?side2 ?side3 ?side4 A5.out).mono ?_);(case side1=>exact cV (Kd.C_below HR0_2.out HB.out));(case side2=>exact HC0_2.out);(case side3=>exact cV (Kd.C_below HR1_2.out HB.out));(case side4=>exact HC1_2.out);rintro e w' ⟨rfl,⟨nd,rfl⟩⟩))
     go_ret
     exact ⟨by first|rfl|(simp [errW_none,errW_some] <;> rfl)|(simp [*,errW_none,errW_some] <;> rfl),by repeat (first|(with_reducible first|exact HB.out|apply below_alloc|apply pw_below_drewN|apply below_drew1|refine below_set ?_ GE346.out|refine below_set ?_ GE347.out)|exact HB.out)⟩
   rw [if_neg c4] at H
   have c4b0:(a0_1 == a1_1)=false:=beq_eq_false_iff_ne.mpr c4
   have c4b1:(a0_1 != a1_1)=true:=bne_iff_ne.mpr c4
   obtain rfl:=Option.some.inj H
   go_enter Try.func21,Try.ntmps21
   go_wp2_with (first|((with_reducible refine gate_dst (N:=2) rfl ?_);refine box_event ?hg (N:=2) ?hd (cs:=#[.int .i64 a0_0,.int .i64 a0_1,.slice A0_2 l0_2.length c0_2,.slice A0_3 l0_3.length c0_3]) (t:=41) ?hr ?_;(case hd=>rfl);(case hg=>rfl);(case hr=>first|(go_simp;done)|(go_simp;rfl));intro gb346 hg w18 hbox hb;have n0_:=Aside0.mk (below_step (belV HB.out) hb);have n1_:=Aside0.mk (hbox);have n2_:=Aside0.mk ((by rw [hg];exact (below_size (belV HB.out)):w.heap.size≤gb346));have n3_:=Aside0.mk ((by rw [hg];exact (below_size (belV HB.out)):w.heap.size≤gb346));clear HB;have HB:=n0_;have BK346:=n1_;have GW346:=n2_;have GE346:=n3_;clear n0_ n1_ n2_ n3_;clear hb hbox hg)|((with_reducible refine gate_dst (N:=3) rfl ?_);refine box_event ?hg (N:=3) ?hd (cs:=#[.int .i64 a1_0,.int .i64 a1_1,.slice A1_2 l1_2.length c1_2,.slice A1_3 l1_3.length c1_3]) (t:=41) ?hr ?_;(case hd=>rfl);(case hg=>rfl);(case hr=>first|(go_simp;done)|(go_simp;rfl));intro gb347 hg w19 hbox hb;have n0_:=Aside0.mk (blk_below (g:=gb346) (blkV BK346.out) hb);have n1_:=Aside0.mk (below_step (belV1 HB.out GE346.out) hb);have n2_:=Aside0.mk (hbox);have n3_:=Aside0.mk ((by rw [hg];exact (below_size (belV1 HB.out GE346.out)):w.heap.size≤gb347));have n4_:=Aside0.mk ((by rw [hg];exact (below_size (belV1 HB.out GE346.out)):w.heap.size≤gb347));have n5_:=Aside0.mk ((by rw [hg];exact Nat.ne_of_lt (blk_lt (g:=gb346) (blkV BK346.out)):gb346≠gb347));have n6_:=Aside0.mk ((by rw [hg];exact Nat.ne_of_gt (blk_lt (g:=gb346) (blkV BK346.out)):gb347≠gb346));clear BK346;clear HB;have BK346:=n0_;have HB:=n1_;have BK347:=n2_;have GW347:=n3_;have GE347:=n4_;have NB346_347:=n5_;have NB347_346:=n6_;clear n0_ n1_ n2_ n3_ n4_ n5_ n6_;clear hb hbox hg;have hnb20:=NB346_347.out;have hnc20:=NB347_346.out;obtain ⟨hcz21_0,hcz21_1,hcz21_2,hcz21_3,hfz21_0,hfz21_1,hfz21_2,hfz21_3⟩:=bcells4 BK346.out;obtain ⟨hcz22_0,hcz22_1,hcz22_2,hcz22_3,hfz22_0,hfz22_1,hfz22_2,hfz22_3⟩:=bcells4 BK347.out))
   go_ret
   exact ⟨by first|rfl|(simp [errW_none,errW_some] <;> rfl)|(simp [*,errW_none,errW_some] <;> rfl),by repeat (first|(with_reducible first|exact HB.out|apply below_alloc|apply pw_below_drewN|apply below_drew1|refine below_set ?_ GE346.out|refine below_set ?_ GE347.out)|exact HB.out)⟩
 rw [if_neg c3] at H
 have c3b0:(a0_0 == a1_0)=false:=beq_eq_false_iff_ne.mpr c3
 have c3b1:(a0_0 != a1_0)=true:=bne_iff_ne.mpr c3
 obtain rfl:=Option.some.inj H
 go_enter Try.func21,Try.ntmps21
 go_wp2_with (first|((with_reducible refine gate_dst (N:=2) rfl ?_);refine box_event ?hg (N:=2) ?hd (cs:=#[.int .i64 a0_0,.int .i64 a0_1,.slice A0_2 l0_2.length c0_2,.slice A0_3 l0_3.length c0_3]) (t:=41) ?hr ?_;(case hd=>rfl);(case hg=>rfl);(case hr=>first|(go_simp;done)|(go_simp;rfl));intro gb346 hg w23 hbox hb;have n0_:=Aside0.mk (below_step (belV HB.out) hb);have n1_:=Aside0.mk (hbox);have n2_:=Aside0.mk ((by rw [hg];exact (below_size (belV HB.out)):w.heap.size≤gb346));have n3_:=Aside0.mk ((by rw [hg];exact (below_size (belV HB.out)):w.heap.size≤gb346));clear HB;have HB:=n0_;have BK346:=n1_;have GW346:=n2_;have GE346:=n3_;clear n0_ n1_ n2_ n3_;clear hb hbox hg)|((with_reducible refine gate_dst (N:=3) rfl ?_);refine box_event ?hg (N:=3) ?hd (cs:=#[.int .i64 a1_0,.int .i64 a1_1,.slice A1_2 l1_2.length c1_2,.slice A1_3 l1_3.length c1_3]) (t:=41) ?hr ?_;(case hd=>rfl);(case hg=>rfl);(case hr=>first|(go_simp;done)|(go_simp;rfl));intro gb347 hg w24 hbox hb;have n0_:=Aside0.mk (blk_below (g:=gb346) (blkV BK346.out) hb);have n1_:=Aside0.mk (below_step (belV1 HB.out GE346.out) hb);have n2_:=Aside0.mk (hbox);have n3_:=Aside0.mk ((by rw [hg];exact (below_size (belV1 HB.out GE346.out)):w.heap.size≤gb347));have n4_:=Aside0.mk ((by rw [hg];exact (below_size (belV1 HB.out GE346.out)):w.heap.size≤gb347));have n5_:=Aside0.mk ((by rw [hg];exact Nat.ne_of_lt (blk_lt (g:=gb346) (blkV BK346.out)):gb346≠gb347));have n6_:=Aside0.mk ((by rw [hg];exact Nat.ne_of_gt (blk_lt (g:=gb346) (blkV BK346.out)):gb347≠gb346));clear BK346;clear HB;have BK346:=n0_;have HB:=n1_;have BK347:=n2_;have GW347:=n3_;have GE347:=n4_;have NB346_347:=n5_;have NB347_346:=n6_;clear n0_ n1_ n2_ n3_ n4_ n5_ n6_;clear hb hbox hg;have hnb25:=NB346_347.out;have hnc25:=NB347_346.out;obtain ⟨hcz26_0,hcz26_1,hcz26_2,hcz26_3,hfz26_0,hfz26_1,hfz26_2,hfz26_3⟩:=bcells4 BK346.out;obtain ⟨hcz27_0,hcz27_1,hcz27_2,hcz27_3,hfz27_0,hfz27_1,hfz27_2,hfz27_3⟩:=bcells4 BK347.out))
 go_ret
 exact ⟨by first|rfl|(simp [errW_none,errW_some] <;> rfl)|(simp [*,errW_none,errW_some] <;> rfl),by repeat (first|(with_reducible first|exact HB.out|apply below_alloc|apply pw_below_drewN|apply below_drew1|refine below_set ?_ GE346.out|refine below_set ?_ GE347.out)|exact HB.out)⟩

/-! ### dioramalaw19_ours: function 22 -/
def dioramalaw19_ours.f (a0_0 : Int) (a0_1 : Int) (l0_2 : List Int) (l0_3 : List Int) : Option (Int) := some 0
theorem dioramalaw19_ours.calls (a0_0 : Int) (a0_1 : Int) (A0_2 : Option Addr) (c0_2 : Nat) (l0_2 : List Int) (A0_3 : Option Addr) (c0_3 : Nat) (l0_3 : List Int) (r : Int) (w : World) (hr0_2 : Kd.C (Kd.int .i64) w A0_2 l0_2.length l0_2) (hc0_2 : l0_2.length ≤ c0_2) (hr0_3 : Kd.C (Kd.int .i64) w A0_3 l0_3.length l0_3) (hc0_3 : l0_3.length ≤ c0_3) (h : dioramalaw19_ours.f a0_0 a0_1 l0_2 l0_3 = some r) :
    Calls Try.prog 22 #[.agg #[.int .i64 a0_0, .int .i64 a0_1, .slice A0_2 l0_2.length c0_2, .slice A0_3 l0_3.length c0_3]] w fun e w' => e = .returned (.agg #[.int .i64 a0_0, .int .i64 a0_1, .slice A0_2 l0_2.length c0_2, .slice A0_3 l0_3.length c0_3]) ∧ Below w.heap.size w w' := by
  clear hr0_2 hc0_2 hr0_3 hc0_3 h
  generalize l0_2.length = n2
  generalize l0_3.length = n3
  go_enter Try.func22, Try.ntmps22
  go_wp2
  exact bodyPost_ret (v := .agg #[.int .i64 a0_0, .int .i64 a0_1, .slice A0_2 n2 c0_2, .slice A0_3 n3 c0_3]) (by simp [results, Try.results22, go_sem]) rfl ⟨rfl, by repeat (first | exact Below.refl _ _ | (with_reducible apply below_alloc) | (with_reducible apply below_drew1))⟩

-- NOT PRINTED: function 4 (dioramalaw19_BitmapComposes)

end Go.Proofs.Ytaebgjdaoloceaa.QBmpC
