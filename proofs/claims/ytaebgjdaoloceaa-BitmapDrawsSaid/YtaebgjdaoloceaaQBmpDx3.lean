/- Part of a proof: functions of the program as Lean functions, and that the machine's calls come to them. Made by a program of this session (wip/mp). -/
import Derived.Test.YtaebgjdaoloceaaQBmpDx0
import Derived.Test.YtaebgjdaoloceaaQBmpDx1
import Derived.Test.YtaebgjdaoloceaaQBmpDx2
namespace Go.Proofs.Ytaebgjdaoloceaa.QBmpD
open Go.RowKit Go.Proofs.YtaebgjdaoloceaaV Go.Proofs.YtaebgjdaoloceaaW.PrintWords Go.Proofs.YtaebgjdaoloceaaW.PrintLast Go.Proofs.YtaebgjdaoloceaaW.PrintMore
attribute [local go_sem] max2_int min2_int max_two min_two max_three min_three max_four min_four   -- for this text's walks alone
set_option linter.unusedVariables false
set_option linter.unusedSimpArgs false

/-! ### dioramalaw19_theirs: function 29 -/
def dioramalaw19_theirs.f (k : Nat) (a0_0 : Int) (a0_1 : Int) (l0_2 : List Int) (l0_3 : List Int) : Option (Int × Int × List Int × List Int) := (dioramaref00_CopyInts.f k l0_2).bind fun t203 => ((dioramaref00_CopyInts.f k l0_3).bind fun t206 => (some (a0_0, a0_1, t203, t206)))
theorem dioramalaw19_theirs.mono:∀ a0 a1 a2 a3 k,LeO (dioramalaw19_theirs.f k a0 a1 a2 a3) (dioramalaw19_theirs.f (k+1) a0 a1 a2 a3):=by
 intro a0 a1 a2 a3 k
 unfold dioramalaw19_theirs.f
 repeat' first
  | (with_reducible exact dioramaref00_CopyInts.mono _ _)
  | (with_reducible exact LeO.refl _)
  | (with_reducible exact LeO.none _)
  | (with_reducible refine LeO.ite ?_ ?_)
  | (with_reducible refine LeO.bind ?_ (fun _=>?_))
  | exact LeO.none _
  | refine LeO.ite ?_ ?_
  | refine LeO.bind ?_ (fun _=>?_)
def dioramalaw19_theirs.T1 : Bool × List (List Nat × List Nat) := (true, [([], []), ([0], [0]), ([], []), ([2], [2]), ([], []), ([4], [4]), ([5], [5]), ([], []), ([7], [7]), ([8, 6], [8]), ([1, 3, 6, 9], [1, 3, 6, 9]), ([10, 9, 0, 1, 2, 3, 4, 5, 6, 7, 8, 9, 10], [10])])
def dioramalaw19_theirs.B1 : List Nat := [0, 1, 0, 4, 0, 16, 48, 0, 128, 496, 1023, 2047]
theorem dioramalaw19_theirs.tab1:rtab .any (opsOf Try.f29 1)=dioramalaw19_theirs.T1:=by kernel_rfl
theorem dioramalaw19_theirs.bits1:waitsOk dioramalaw19_theirs.T1.2 dioramalaw19_theirs.B1=true:=by kernel_rfl
set_option maxHeartbeats 8000000 in
set_option maxRecDepth 100000 in
theorem dioramalaw19_theirs.calls (k:Nat) (a0_0:Int) (a0_1:Int) (A0_2:Option Addr) (c0_2:Nat) (l0_2:List Int) (A0_3:Option Addr) (c0_3:Nat) (l0_3:List Int) (r1:Int) (r2:Int) (r3:List Int) (r4:List Int) (w:World) (hr0_2:Kd.C (Kd.int .i64) w A0_2 l0_2.length l0_2) (hc0_2:l0_2.length≤c0_2) (hr0_3:Kd.C (Kd.int .i64) w A0_3 l0_3.length l0_3) (hc0_3:l0_3.length≤c0_3) (h:dioramalaw19_theirs.f k a0_0 a0_1 l0_2 l0_3=some (r1,r2,r3,r4)) :
 Calls Try.prog 29 #[.agg #[.int .i64 a0_0,.int .i64 a0_1,.slice A0_2 l0_2.length c0_2,.slice A0_3 l0_3.length c0_3]] w fun e w'=>∃ v2_ v3_:Value,e=.returned (.agg #[.int .i64 r1,.int .i64 r2,v2_,v3_])∧Kd.R (Kd.int .i64) 3 w' w.heap.size (fun k_=>some k_≠(v3_:Value).ownBlock) v2_ r3∧Kd.R (Kd.int .i64) 3 w' w.heap.size (fun k_=>some k_≠(v2_:Value).ownBlock) v3_ r4∧Below w.heap.size w w':=by
 have hu41:=Try.underlying41
 have hu38:=Try.underlying38
 have HR0_2:=Aside0.mk hr0_2
 have HC0_2:=Aside0.mk hc0_2;clear hr0_2 hc0_2
 have HR0_3:=Aside0.mk hr0_3
 have HC0_3:=Aside0.mk hc0_3;clear hr0_3 hc0_3;have HB:=Aside0.mk (Below.refl w.heap.size w)
 have H:((dioramaref00_CopyInts.f k l0_2).bind fun t203=>((dioramaref00_CopyInts.f k l0_3).bind fun t206=>(some (a0_0,a0_1,t203,t206))))=some (r1,r2,r3,r4):=h;clear h
 replace H:=Option.bind_eq_some_iff.mp H
 obtain ⟨t203,A20,H⟩:=H
 replace H:((dioramaref00_CopyInts.f k l0_3).bind fun t206=>(some (a0_0,a0_1,t203,t206)))=some (r1,r2,r3,r4):=H
 have A2:=Aside0.mk A20;clear A20
 replace H:=Option.bind_eq_some_iff.mp H
 obtain ⟨t206,A30,H⟩:=H
 replace H:(some (a0_0,a0_1,t203,t206))=some (r1,r2,r3,r4):=H
 have A3:=Aside0.mk A30;clear A30
 simp only [Option.some.injEq,Prod.mk.injEq] at H
 obtain ⟨rfl,rfl,rfl,rfl⟩:=H
 go_enter Try.func29,Try.ntmps29
 try go_wp2_with (first|((with_reducible refine gate_dst (N:=1) rfl ?_);refine box_event ?hg (N:=1) ?hd (cs:=#[.int .i64 a0_0,.int .i64 a0_1,.slice A0_2 l0_2.length c0_2,.slice A0_3 l0_3.length c0_3]) (t:=41) ?hr ?_;(case hd=>rfl);(case hg=>rfl);(case hr=>first|(go_simp;done)|(go_simp;rfl));intro gb201 hg w4 hbox hb;have n0_:=Aside0.mk (below_step (belV HB.out) hb);have n1_:=Aside0.mk (hbox);have n2_:=Aside0.mk ((by rw [hg];exact (below_size (belV HB.out)):w.heap.size≤gb201));have n3_:=Aside0.mk ((by rw [hg];exact (below_size (belV HB.out)):w.heap.size≤gb201));clear HB;have HB:=n0_;have BK201:=n1_;have GW201:=n2_;have GE201:=n3_;clear n0_ n1_ n2_ n3_;clear hb hbox hg)|((with_reducible refine gate_dst (N:=2) rfl ?_);refine box_event ?hg (N:=2) ?hd (cs:=#[.int .i64 0,.int .i64 0,.slice none 0 0,.slice none 0 0]) (t:=38) ?hr ?_;(case hd=>rfl);(case hg=>rfl);(case hr=>first|(go_simp;done)|(go_simp;rfl));intro gb202 hg w5 hbox hb;have n0_:=Aside0.mk (blk_below (g:=gb201) (blkV BK201.out) hb);have n1_:=Aside0.mk (below_step (belV1 HB.out GE201.out) hb);have n2_:=Aside0.mk (hbox);have n3_:=Aside0.mk ((by rw [hg];exact (below_size (belV1 HB.out GE201.out)):w.heap.size≤gb202));have n4_:=Aside0.mk ((by rw [hg];exact (below_size (belV1 HB.out GE201.out)):w.heap.size≤gb202));have n5_:=Aside0.mk ((by rw [hg];exact Nat.ne_of_lt (blk_lt (g:=gb201) (blkV BK201.out)):gb201≠gb202));have n6_:=Aside0.mk ((by rw [hg];exact Nat.ne_of_gt (blk_lt (g:=gb201) (blkV BK201.out)):gb202≠gb201));clear BK201;clear HB;have BK201:=n0_;have HB:=n1_;have BK202:=n2_;have GW202:=n3_;have GE202:=n4_;have NB201_202:=n5_;have NB202_201:=n6_;clear n0_ n1_ n2_ n3_ n4_ n5_ n6_;clear hb hbox hg))
 have n0_:=Aside0.mk (blk_drew BK201.out)
 have n1_:=Aside0.mk (blk_drew BK202.out)
 have n2_:=Aside0.mk (below_drew1 HB.out);clear BK201;clear BK202;clear HB;have BK201:=n0_;have BK202:=n1_;have HB:=n2_;clear n0_ n1_ n2_
 refine start_ (n:=12) (S:=fun w'=>w'.cell? ⟨gb201,0,none⟩=some (.int .i64 a0_0)∧w'.cell? ⟨gb201,1,none⟩=some (.int .i64 a0_1)∧w'.cell? ⟨gb201,2,none⟩=some (.slice A0_2 l0_2.length c0_2)∧w'.cell? ⟨gb201,3,none⟩=some (.slice A0_3 l0_3.length c0_3)) (ds:=[]) ((bm false [12]).toArray) (by kernel_rfl) rfl rfl ⟨(blk_cell BK201.out 0).trans rfl,(blk_cell BK201.out 1).trans rfl,(blk_cell BK201.out 2).trans rfl,(blk_cell BK201.out 3).trans rfl⟩ (fun hHeld=>?_);refine with_tabW dioramalaw19_theirs.tab1 dioramalaw19_theirs.bits1 (fun HT_ HW_=>?_)
 generalize w5.drew=w6 at BK201 BK202 HB hHeld ⊢
 refine pure_ (i:=0) (N:=some 3) (v:=?_) (a':=?_) ((bm true [1,11]).toArray) rfl rfl (any_of HT_.out (by kernel_rfl)) (fun _ _ _ h=>h) (Or.inl ⟨by rfl,?_⟩) ?_ ?_;rotate_left
 · intro w';go_simp;with_reducible rfl
 rotate_left
 · simp only [Act.put,List.setIfInBounds_toArray,List.set_cons_zero,List.set_cons_succ,i64_w,i32_w];rfl
 refine pure_ (i:=2) (N:=some 5) (v:=?_) (a':=?_) ((bm true [1,1,1,9]).toArray) rfl rfl (any_of HT_.out (by kernel_rfl)) (fun _ _ _ h=>h) (Or.inl ⟨by rfl,?_⟩) ?_ ?_;rotate_left
 · intro w';go_simp;with_reducible rfl
 rotate_left
 · simp only [Act.put,List.setIfInBounds_toArray,List.set_cons_zero,List.set_cons_succ,i64_w,i32_w];rfl
 refine pure_ (i:=4) (N:=some 7) (v:=?_) (a':=?_) ((bm true [1,1,1,1,1,7]).toArray) rfl rfl (any_of HT_.out (by kernel_rfl)) (fun _ _ _ h=>h) (Or.inl ⟨by rfl,?_⟩) ?_ ?_;rotate_left
 · intro w';go_simp;with_reducible rfl
 rotate_left
 · simp only [Act.put,List.setIfInBounds_toArray,List.set_cons_zero,List.set_cons_succ,i64_w,i32_w];rfl
 refine pure_ (i:=7) (N:=some 10) (v:=?_) (a':=?_) ((bm true [1,1,1,1,1,2,1,4]).toArray) rfl rfl (any_of HT_.out (by kernel_rfl)) (fun _ _ _ h=>h) (Or.inl ⟨by rfl,?_⟩) ?_ ?_;rotate_left
 · intro w';go_simp;with_reducible rfl
 rotate_left
 · simp only [Act.put,List.setIfInBounds_toArray,List.set_cons_zero,List.set_cons_succ,i64_w,i32_w];rfl
 refine take_ (i:=1) (N:=some 4) (v:=?_) (a':=?_) ((bm true [3,1,1,2,1,4]).toArray) rfl rfl (take_ofW HT_.out HW_.out (by kernel_rfl)) (fun _ _ _ h=>h) (Or.inl ⟨by rfl,?_⟩) hHeld ?_ ?_;rotate_left
 · rintro w' ⟨s0,s1,s2,s3⟩
   go_simp;with_reducible rfl
 rotate_left
 · simp only [Act.put,List.setIfInBounds_toArray,List.set_cons_zero,List.set_cons_succ,i64_w,i32_w];rfl
 refine take_ (i:=3) (N:=some 6) (v:=?_) (a':=?_) ((bm true [5,2,1,4]).toArray) rfl rfl (take_ofW HT_.out HW_.out (by kernel_rfl)) (fun _ _ _ h=>h) (Or.inl ⟨by rfl,?_⟩) hHeld ?_ ?_;rotate_left
 · rintro w' ⟨s0,s1,s2,s3⟩
   go_simp;with_reducible rfl
 rotate_left
 · simp only [Act.put,List.setIfInBounds_toArray,List.set_cons_zero,List.set_cons_succ,i64_w,i32_w];rfl
 refine take_ (i:=5) (N:=some 8) (v:=?_) (a':=?_) ((bm true [6,1,1,4]).toArray) rfl rfl (take_ofW HT_.out HW_.out (by kernel_rfl)) (fun _ _ _ h=>h) (Or.inl ⟨by rfl,?_⟩) hHeld ?_ ?_;rotate_left
 · rintro w' ⟨s0,s1,s2,s3⟩
   go_simp;with_reducible rfl
 rotate_left
 · simp only [Act.put,List.setIfInBounds_toArray,List.set_cons_zero,List.set_cons_succ,i64_w,i32_w];rfl
 refine take_ (i:=8) (N:=some 11) (v:=?_) (a':=?_) ((bm true [6,1,2,3]).toArray) rfl rfl (take_ofW HT_.out HW_.out (by kernel_rfl)) (fun _ _ _ h=>h) (Or.inl ⟨by rfl,?_⟩) hHeld ?_ ?_;rotate_left
 · rintro w' ⟨s0,s1,s2,s3⟩
   go_simp;with_reducible rfl
 rotate_left
 · simp only [Act.put,List.setIfInBounds_toArray,List.set_cons_zero,List.set_cons_succ,i64_w,i32_w];rfl
 refine one_ (i:=6) (N:=some 9) ((bm true [9,3]).toArray) rfl rfl (one_of HT_.out (by kernel_rfl)) (by decide) (fun K hK=>?_)
 refine goes_ Try.func64 (by kernel_rfl) rfl #[.slice A0_2 l0_2.length c0_2] (by rfl) rfl rfl (by (try simp only [List.map_toArray,List.map_cons,List.map_nil]);first|done|rfl|(simp only [List.length_drop,List.length_take];rfl)) ?_
 with_reducible refine (dioramaref00_CopyInts.calls k _ _ l0_2 t203 _ ?side1 ?side2 A2.out).mono ?_
 (case side1=>exact cV (Kd.C_below HR0_2.out HB.out))
 (case side2=>exact HC0_2.out)
 rintro e w7 ⟨v204,rfl,ho0,hb⟩
 refine ⟨_,rfl,?_⟩
 have n0_:=Aside0.mk (Kd.R_lower ho0 (below_size (belV2 HB.out GE201.out GE202.out)))
 have n1_:=Aside0.mk (blk_below (g:=gb201) (blkV BK201.out) hb)
 have n2_:=Aside0.mk (blk_below (g:=gb202) (blkV BK202.out) hb)
 have n3_:=Aside0.mk (below_step (belV2 HB.out GE201.out GE202.out) hb);clear BK201;clear BK202;clear HB;have HO205:=n0_;have BK201:=n1_;have BK202:=n2_;have HB:=n3_;clear n0_ n1_ n2_ n3_
 (try clear hb)
 (try clear hb2)
 (try clear hk)
 (try clear hi)
 (try clear ho0)
 refine hK.out _ _ ⟨(blk_cell BK201.out 0).trans rfl,(blk_cell BK201.out 1).trans rfl,(blk_cell BK201.out 2).trans rfl,(blk_cell BK201.out 3).trans rfl⟩ (fun hHeld=>?_);clear hK K
 refine norm_ (a':=?_) ?_ ?_;rotate_left
 · show Act.put _ (some 9) _=_
   simp only [Act.put,List.setIfInBounds_toArray,List.set_cons_zero,List.set_cons_succ,i64_w,i32_w];rfl
 refine one_ (i:=9) (N:=some 12) ((bm true [10,2]).toArray) rfl rfl (one_of HT_.out (by kernel_rfl)) (by decide) (fun K hK=>?_)
 refine goes_ Try.func64 (by kernel_rfl) rfl #[.slice A0_3 l0_3.length c0_3] (by rfl) rfl rfl (by (try simp only [List.map_toArray,List.map_cons,List.map_nil]);first|done|rfl|(simp only [List.length_drop,List.length_take];rfl)) ?_
 with_reducible refine (dioramaref00_CopyInts.calls k _ _ l0_3 t206 _ ?side1 ?side2 A3.out).mono ?_
 (case side1=>exact cV (Kd.C_below HR0_3.out HB.out))
 (case side2=>exact HC0_3.out)
 rintro e w8 ⟨v207,rfl,ho0,hb⟩
 refine ⟨_,rfl,?_⟩
 have n0_:=Aside0.mk (Kd.R_elder' (rowV HO205.out) (Kd.R_base ho0) hb)
 have n1_:=Aside0.mk (Kd.R_lower (Kd.R_new' ho0 (Kd.R_lt (rowV HO205.out))) (below_size (belV2 HB.out GE201.out GE202.out)))
 have n2_:=Aside0.mk (blk_below (g:=gb201) (blkV BK201.out) hb)
 have n3_:=Aside0.mk (blk_below (g:=gb202) (blkV BK202.out) hb)
 have n4_:=Aside0.mk (below_step (belV2 HB.out GE201.out GE202.out) hb);clear HO205;clear BK201;clear BK202;clear HB;have HO205:=n0_;have HO208:=n1_;have BK201:=n2_;have BK202:=n3_;have HB:=n4_;clear n0_ n1_ n2_ n3_ n4_
 (try clear hb)
 (try clear hb2)
 (try clear hk)
 (try clear hi)
 (try clear ho0)
 obtain ⟨Ao9,co9,eo9⟩:=Kd.R_slice HO208.out
 (first|subst eo9|(injection eo9 with f1_ f2_ f3_;have f4_:=f1_.symm;have f5_:=f3_.symm;clear f1_ f2_ f3_;subst f4_;subst f5_))
 obtain ⟨Ao10,co10,eo10⟩:=Kd.R_slice HO205.out
 (first|subst eo10|(injection eo10 with f1_ f2_ f3_;have f4_:=f1_.symm;have f5_:=f3_.symm;clear f1_ f2_ f3_;subst f4_;subst f5_))
 refine hK.out _ _ ⟨(blk_cell BK201.out 0).trans rfl,(blk_cell BK201.out 1).trans rfl,(blk_cell BK201.out 2).trans rfl,(blk_cell BK201.out 3).trans rfl⟩ (fun hHeld=>?_);clear hK K
 refine norm_ (a':=?_) ?_ ?_;rotate_left
 · show Act.put _ (some 12) _=_
   simp only [Act.put,List.setIfInBounds_toArray,List.set_cons_zero,List.set_cons_succ,i64_w,i32_w];rfl
 refine pure_ (i:=10) (N:=some 13) (v:=?_) (a':=?_) ((bm true [11,1]).toArray) rfl rfl (any_of HT_.out (by kernel_rfl)) (fun _ _ _ h=>h) (Or.inl ⟨by rfl,?_⟩) ?_ ?_;rotate_left
 · intro w';go_simp;with_reducible rfl
 rotate_left
 · simp only [Act.put,List.setIfInBounds_toArray,List.set_cons_zero,List.set_cons_succ,i64_w,i32_w];rfl
 refine one_ (i:=11) (N:=none) ((bm true [12]).toArray) rfl rfl (one_of HT_.out (by kernel_rfl)) (by decide) (fun K hK=>?_)
 have hs11:w8.cell? ⟨gb202,0,none⟩=some (.int .i64 0):=(blk_cell BK202.out 0).trans rfl
 have hfs11:=blk_frozen BK202.out 0
 have hns11_0:=NB201_202.out
 have hms11_0:=NB202_201.out
 have hs12:w8.cell? ⟨gb202,1,none⟩=some (.int .i64 0):=(blk_cell BK202.out 1).trans rfl
 have hfs12:=blk_frozen BK202.out 1
 have hns12_0:=NB201_202.out
 have hms12_0:=NB202_201.out
 have hs13:w8.cell? ⟨gb202,2,none⟩=some (.slice none 0 0):=(blk_cell BK202.out 2).trans rfl
 have hfs13:=blk_frozen BK202.out 2
 have hns13_0:=NB201_202.out
 have hms13_0:=NB202_201.out
 have hs14:w8.cell? ⟨gb202,3,none⟩=some (.slice none 0 0):=(blk_cell BK202.out 3).trans rfl
 have hfs14:=blk_frozen BK202.out 3
 have hns14_0:=NB201_202.out
 have hms14_0:=NB202_201.out
 refine skip_ (w1:=?_) (by rfl) rfl ?_ ?_;rotate_left
 · go_simp;rfl
 refine hK.out _ _ ⟨((cell_far (p:=⟨gb202,_,none⟩) NB201_202.out _).trans (((cell_far (p:=⟨gb202,_,none⟩) NB201_202.out _).trans (((cell_far (p:=⟨gb202,_,none⟩) NB201_202.out _).trans (((cell_far (p:=⟨gb202,_,none⟩) NB201_202.out _).trans (hHeld.1)))))))),((cell_far (p:=⟨gb202,_,none⟩) NB201_202.out _).trans (((cell_far (p:=⟨gb202,_,none⟩) NB201_202.out _).trans (((cell_far (p:=⟨gb202,_,none⟩) NB201_202.out _).trans (((cell_far (p:=⟨gb202,_,none⟩) NB201_202.out _).trans (hHeld.2.1)))))))),((cell_far (p:=⟨gb202,_,none⟩) NB201_202.out _).trans (((cell_far (p:=⟨gb202,_,none⟩) NB201_202.out _).trans (((cell_far (p:=⟨gb202,_,none⟩) NB201_202.out _).trans (((cell_far (p:=⟨gb202,_,none⟩) NB201_202.out _).trans (hHeld.2.2.1)))))))),((cell_far (p:=⟨gb202,_,none⟩) NB201_202.out _).trans (((cell_far (p:=⟨gb202,_,none⟩) NB201_202.out _).trans (((cell_far (p:=⟨gb202,_,none⟩) NB201_202.out _).trans (((cell_far (p:=⟨gb202,_,none⟩) NB201_202.out _).trans (hHeld.2.2.2))))))))⟩ (fun hHeld=>?_)
 clear hK K
 refine done_ (done_of HT_.out (by kernel_rfl)) ?_
 try go_wp2
 refine bodyPost_ret (results_cell_row rfl _ _ gb202 38 #[.int .i64 a0_0,.int .i64 a0_1,.slice Ao10 t203.length co10,.slice Ao9 t206.length co9] (0,0) _ rfl (by (with_reducible repeat (first|refine blk_drewN ?_ _|refine blk_drew ?_|refine blk_alloc ?_ _));refine blk_put (cs:=#[.int .i64 a0_0,.int .i64 a0_1,.slice Ao10 t203.length co10,.slice none 0 0]) ?_ 3 _ rfl;(with_reducible repeat (first|refine blk_drewN ?_ _|refine blk_drew ?_|refine blk_alloc ?_ _));refine blk_put (cs:=#[.int .i64 a0_0,.int .i64 a0_1,.slice none 0 0,.slice none 0 0]) ?_ 2 _ rfl;(with_reducible repeat (first|refine blk_drewN ?_ _|refine blk_drew ?_|refine blk_alloc ?_ _));refine blk_put (cs:=#[.int .i64 a0_0,.int .i64 0,.slice none 0 0,.slice none 0 0]) ?_ 1 _ rfl;(with_reducible repeat (first|refine blk_drewN ?_ _|refine blk_drew ?_|refine blk_alloc ?_ _));refine blk_put (cs:=#[.int .i64 0,.int .i64 0,.slice none 0 0,.slice none 0 0]) ?_ 0 _ rfl;(with_reducible repeat (first|refine blk_drewN ?_ _|refine blk_drew ?_|refine blk_alloc ?_ _));exact BK202.out) Try.underlying38 rfl (by kernel_rfl)) rfl ?_
 exact ⟨_,_,by first|rfl|(simp [errW_none,errW_some] <;> rfl)|(simp [*,errW_none,errW_some] <;> rfl),by (with_reducible repeat (first|apply Kd.R_alloc|apply Kd.R_drewN|apply Kd.R_drew));exact Kd.R_mono (Kd.R_put4 HO205.out BK202.out (by decide)) (fun _ hk=>hk.1.2),by (with_reducible repeat (first|apply Kd.R_alloc|apply Kd.R_drewN|apply Kd.R_drew));exact Kd.R_mono (Kd.R_put4 HO208.out BK202.out (by decide)) (fun _ hk=>hk.1.2),by repeat (first|(with_reducible first|exact HB.out|apply below_alloc|apply pw_below_drewN|apply below_drew1|refine below_set ?_ GE201.out|refine below_set ?_ GE202.out)|exact HB.out)⟩

/-! ### bitmap_colours_1: function 88 -/
def bitmap_colours_1.f (a0 : Int) : Option (Bool) := (bitmap_within.f a0 0 16777215).bind fun t209 => (some (!t209))
set_option maxHeartbeats 8000000 in
set_option maxRecDepth 100000 in
theorem bitmap_colours_1.calls (a0 : Int) (r : Bool) (w : World) (h : bitmap_colours_1.f a0 = some r) :
    Calls Try.prog 88 #[.int .i64 a0] w fun e w' => e = .returned (.bool r) ∧ Drawn0 w w' := by
  have H : ((bitmap_within.f a0 0 16777215).bind fun t209 => (some (!t209))) = some r := h
  clear h
  replace H := Option.bind_eq_some_iff.mp H
  obtain ⟨t209, A20, H⟩ := H
  replace H : (some (!t209)) = some r := H
  have A2 := Aside0.mk A20
  clear A20
  obtain rfl := Option.some.inj H
  go_enter Try.func88, Try.ntmps88
  go_wp2_with (first | ((with_reducible refine gate_callee (f := 47) rfl ?_); refine goesL_ (some 4) rfl rfl Try.func47 (by kernel_rfl) rfl #[.int .i64 a0, .int .i64 0, .int .i64 16777215] rfl (by (try simp only [List.map_toArray, List.map_cons, List.map_nil]); first | done | rfl | (simp only [List.length_drop, List.length_take]; rfl)) ?_; (with_reducible refine (bitmap_within.calls a0 0 16777215 t209 _ A2.out).mono ?_); rintro e w' ⟨rfl, ⟨nd, rfl⟩⟩; refine ⟨_, rfl, ?_⟩))
  go_ret
  exact ⟨by first | rfl | (simp; done) | (simp [*]; done), by repeat (first | exact Drawn0.refl _ | apply Drawn0.step)⟩

/-! ### slices_IndexFunc_int_int__88: function 83 -/
def slices_IndexFunc_int_int__88.l0 : Nat → List Int → Int → Int → Option (Int)
 | 0,_,_,_=>none
 | k+1,x0,x7,x8=>if x8 < x7 then (if 0≤x8 then (if x8 < (x0.length:Int) then ((bitmap_colours_1.f (rd x0 x8)).bind fun t211=>(if t211=true then (some x8) else (slices_IndexFunc_int_int__88.l0 k x0 x7 (wrap64 (x8+1))))) else (none)) else (none)) else (some (-1))
def slices_IndexFunc_int_int__88.f (k : Nat) (l0 : List Int)  : Option (Int) := slices_IndexFunc_int_int__88.l0 k l0 (l0.length : Int) 0
theorem slices_IndexFunc_int_int__88.mono_l:∀ k,(∀ y0 y1 y2,LeO (slices_IndexFunc_int_int__88.l0 k y0 y1 y2) (slices_IndexFunc_int_int__88.l0 (k+1) y0 y1 y2))
 | 0=>fun _ _ _ r h=>by simp [slices_IndexFunc_int_int__88.l0] at h
 | k+1=>by
  have ih0:=slices_IndexFunc_int_int__88.mono_l k
  · intro y0 y1 y2
    unfold slices_IndexFunc_int_int__88.l0
    repeat' first
    | (with_reducible exact ih0 _ _ _)
    | (with_reducible exact LeO.refl _)
    | (with_reducible exact LeO.none _)
    | (with_reducible refine LeO.ite ?_ ?_)
    | (with_reducible refine LeO.bind ?_ (fun _=>?_))
    | exact LeO.none _
    | refine LeO.ite ?_ ?_
    | refine LeO.bind ?_ (fun _=>?_)
theorem slices_IndexFunc_int_int__88.mono:∀ a0 k,LeO (slices_IndexFunc_int_int__88.f k a0) (slices_IndexFunc_int_int__88.f (k+1) a0):=by
 intro a0 k
 have ih0:=slices_IndexFunc_int_int__88.mono_l k
 unfold slices_IndexFunc_int_int__88.f
 repeat' first
  | (with_reducible exact ih0 _ _ _)
  | (with_reducible exact LeO.refl _)
  | (with_reducible exact LeO.none _)
  | (with_reducible refine LeO.ite ?_ ?_)
  | (with_reducible refine LeO.bind ?_ (fun _=>?_))
  | exact LeO.none _
  | refine LeO.ite ?_ ?_
  | refine LeO.bind ?_ (fun _=>?_)
set_option maxHeartbeats 8000000 in
set_option maxRecDepth 100000 in
theorem slices_IndexFunc_int_int__88.calls (k:Nat) (A0:Option Addr) (c0:Nat) (l0:List Int)  (r:Int) (w:World) (hr0:Kd.C (Kd.int .i64) w A0 l0.length l0) (hc0:l0.length≤c0) (h:slices_IndexFunc_int_int__88.f k l0=some r) :
 Calls Try.prog 83 #[.slice A0 l0.length c0,.func (.func 88) #[] #[]] w fun e w'=>e=.returned (.int .i64 r)∧Drawn0 w w':=by
 have HR0:=Aside0.mk hr0
 have HC0:=Aside0.mk hc0;clear hr0 hc0
 have H:(slices_IndexFunc_int_int__88.l0 k l0 (l0.length:Int) 0)=some r:=h;clear h
 have H':=Aside0.mk H;clear H
 go_enter Try.func83,Try.ntmps83
 go_wp2
 go_loopg [8] k (fun kq v8 w'=>∃ (x8_1:Int),v8=.int .i64 x8_1∧Aside0 (slices_IndexFunc_int_int__88.l0 kq l0 (l0.length:Int) x8_1=some r)∧Aside0 (kq≤k)∧Drawn0 w w')
 case atStart=>exact ⟨(0),okV,H',⟨Nat.le_refl _⟩,by repeat (first|exact Drawn0.refl _|apply Drawn0.step)⟩
 case round =>
  clear H'
  try clear p2
  obtain ⟨x8_1,rfl,HA,HK1,⟨m1,rfl⟩⟩:=hrel
  cases gk with
  | zero=>exact absurd HA.out (by simp [slices_IndexFunc_int_int__88.l0])
  | succ k1 =>
   have H:=HA.out;clear HA
   simp only [slices_IndexFunc_int_int__88.l0] at H
   by_cases c3:x8_1 < (l0.length:Int)
   · rw [if_pos c3] at H
     have c3b0:decide (x8_1 < (l0.length:Int))=true:=decide_eq_true c3;clear c3
     by_cases c4:0≤x8_1
     · rw [if_pos c4] at H
       have c4b0:decide (0≤x8_1)=true:=decide_eq_true c4;clear c4
       by_cases c5:x8_1 < (l0.length:Int)
       · rw [if_pos c5] at H
         have c5b0:decide (x8_1 < (l0.length:Int))=true:=decide_eq_true c5;clear c5
         replace H:=Option.bind_eq_some_iff.mp H
         obtain ⟨t211,A60,H⟩:=H
         replace H:(if t211=true then (some x8_1) else (slices_IndexFunc_int_int__88.l0 k1 l0 (l0.length:Int) (wrap64 (x8_1+1))))=some r:=H
         have A6:=Aside0.mk A60;clear A60
         by_cases c7:t211=true
         · subst c7
           have H1:(some x8_1)=some r:=by rw [if_pos rfl] at H;exact H
           clear H
           have H:=H1;clear H1
           obtain rfl:=Option.some.inj H
           have p210:0≤(x8_1:Int):=of_decide_eq_true asV
           have q210:x8_1 < (l0.length:Int):=of_decide_eq_true asV
           obtain ⟨ad210,e210,hx210_0⟩:=Kd.at_int HR0.out x8_1 p210 q210
           cases e210
           replace p210:=eq_true p210
           replace q210:=eq_true q210
           go_wp2_with (first|(go_at_call 88;(with_reducible refine (bitmap_colours_1.calls (rd l0 x8_1) true _ A6.out).mono ?_);rintro e w' ⟨rfl,⟨nd,rfl⟩⟩))
           go_ret
           exact ⟨by first|rfl|(simp;done)|(simp [*];done),by repeat (first|exact Drawn0.refl _|apply Drawn0.step)⟩
         replace c7:=Bool.eq_false_iff.mpr c7;subst c7
         have H1:(slices_IndexFunc_int_int__88.l0 k1 l0 (l0.length:Int) (wrap64 (x8_1+1)))=some r:=by rw [if_neg (show ¬ (false=true) by decide)] at H;exact H
         clear H
         have H:=H1;clear H1
         have H':=Aside0.mk H;clear H
         have p210:0≤(x8_1:Int):=of_decide_eq_true asV
         have q210:x8_1 < (l0.length:Int):=of_decide_eq_true asV
         obtain ⟨ad210,e210,hx210_0⟩:=Kd.at_int HR0.out x8_1 p210 q210
         cases e210
         replace p210:=eq_true p210
         replace q210:=eq_true q210
         go_wp2_with (first|(go_at_call 88;(with_reducible refine (bitmap_colours_1.calls (rd l0 x8_1) false _ A6.out).mono ?_);rintro e w' ⟨rfl,⟨nd,rfl⟩⟩))
         go_roundg k1
         case measure=>have:=HK1.out;omega
         case rel=>exact ⟨(wrap64 (x8_1+1)),okV,H',⟨by have:=HK1.out;omega⟩,by repeat (first|exact Drawn0.refl _|apply Drawn0.step)⟩
       rw [if_neg c5] at H
       exact absurd H (by simp)
     rw [if_neg c4] at H
     exact absurd H (by simp)
   rw [if_neg c3] at H
   have c3b0:decide (x8_1 < (l0.length:Int))=false:=decide_eq_false c3;clear c3
   obtain rfl:=Option.some.inj H
   go_wp2
   go_ret
   exact ⟨by first|rfl|(simp;done)|(simp [*];done),by repeat (first|exact Drawn0.refl _|apply Drawn0.step)⟩

/-! ### slices_ContainsFunc_int_int__88: function 48 -/
def slices_ContainsFunc_int_int__88.f (k : Nat) (l0 : List Int)  : Option (Bool) := (slices_IndexFunc_int_int__88.f k l0).bind fun t212 => (some (decide (t212 ≥ 0)))
theorem slices_ContainsFunc_int_int__88.mono : ∀ a0 k, LeO (slices_ContainsFunc_int_int__88.f k a0) (slices_ContainsFunc_int_int__88.f (k + 1) a0) := by
  intro a0 k
  unfold slices_ContainsFunc_int_int__88.f
  repeat' first
      | (with_reducible exact slices_IndexFunc_int_int__88.mono _ _)
      | (with_reducible exact LeO.refl _)
      | (with_reducible exact LeO.none _)
      | (with_reducible refine LeO.ite ?_ ?_)
      | (with_reducible refine LeO.bind ?_ (fun _ => ?_))
      | exact slices_IndexFunc_int_int__88.mono _ _
      | exact LeO.none _
      | refine LeO.ite ?_ ?_
      | refine LeO.bind ?_ (fun _ => ?_)
set_option maxHeartbeats 8000000 in
set_option maxRecDepth 100000 in
theorem slices_ContainsFunc_int_int__88.calls (k : Nat) (A0 : Option Addr) (c0 : Nat) (l0 : List Int)  (r : Bool) (w : World) (hr0 : Kd.C (Kd.int .i64) w A0 l0.length l0) (hc0 : l0.length ≤ c0) (h : slices_ContainsFunc_int_int__88.f k l0 = some r) :
    Calls Try.prog 48 #[.slice A0 l0.length c0, .func (.func 88) #[] #[]] w fun e w' => e = .returned (.bool r) ∧ Drawn0 w w' := by
  have HR0 := Aside0.mk hr0
  have HC0 := Aside0.mk hc0
  clear hr0 hc0
  have H : ((slices_IndexFunc_int_int__88.f k l0).bind fun t212 => (some (decide (t212 ≥ 0)))) = some r := h
  clear h
  replace H := Option.bind_eq_some_iff.mp H
  obtain ⟨t212, A30, H⟩ := H
  replace H : (some (decide (t212 ≥ 0))) = some r := H
  have A3 := Aside0.mk A30
  clear A30
  obtain rfl := Option.some.inj H
  go_enter Try.func48, Try.ntmps48
  go_wp2_with (first | ((with_reducible refine gate_callee (f := 83) rfl ?_); refine goesL_ (some 7) rfl rfl Try.func83 (by kernel_rfl) rfl #[.slice A0 l0.length c0, .func (.func 88) #[] #[]] rfl (by (try simp only [List.map_toArray, List.map_cons, List.map_nil]); first | done | rfl | (simp only [List.length_drop, List.length_take]; rfl)) ?_; (with_reducible refine (slices_IndexFunc_int_int__88.calls k _ _ l0  t212 _ ?side1 ?side2 A3.out).mono ?_); (case side1 => repeat (first | exact HR0.out | (with_reducible refine Kd.C_alloc ?_ _) | (with_reducible refine Kd.C_drewN ?_ _) | (with_reducible refine Kd.C_drew ?_))); (case side2 => exact HC0.out); rintro e w' ⟨rfl, ⟨nd, rfl⟩⟩; refine ⟨_, rfl, ?_⟩))
  go_ret
  exact ⟨by first | rfl | (simp; done) | (simp [*]; done), by repeat (first | exact Drawn0.refl _ | apply Drawn0.step)⟩

/-! ### bitmap_colours: function 71 -/
def bitmap_colours.f (k : Nat) (l0 : List Int) : Option (Bool) := (slices_ContainsFunc_int_int__88.f k l0).bind fun t213 => (some (!t213))
theorem bitmap_colours.mono : ∀ a0 k, LeO (bitmap_colours.f k a0) (bitmap_colours.f (k + 1) a0) := by
  intro a0 k
  unfold bitmap_colours.f
  repeat' first
      | (with_reducible exact slices_ContainsFunc_int_int__88.mono _ _)
      | (with_reducible exact LeO.refl _)
      | (with_reducible exact LeO.none _)
      | (with_reducible refine LeO.ite ?_ ?_)
      | (with_reducible refine LeO.bind ?_ (fun _ => ?_))
      | exact slices_ContainsFunc_int_int__88.mono _ _
      | exact LeO.none _
      | refine LeO.ite ?_ ?_
      | refine LeO.bind ?_ (fun _ => ?_)
set_option maxHeartbeats 8000000 in
set_option maxRecDepth 100000 in
theorem bitmap_colours.calls (k : Nat) (A0 : Option Addr) (c0 : Nat) (l0 : List Int) (r : Bool) (w : World) (hr0 : Kd.C (Kd.int .i64) w A0 l0.length l0) (hc0 : l0.length ≤ c0) (h : bitmap_colours.f k l0 = some r) :
    Calls Try.prog 71 #[.slice A0 l0.length c0] w fun e w' => e = .returned (.bool r) ∧ Drawn0 w w' := by
  have HR0 := Aside0.mk hr0
  have HC0 := Aside0.mk hc0
  clear hr0 hc0
  have H : ((slices_ContainsFunc_int_int__88.f k l0).bind fun t213 => (some (!t213))) = some r := h
  clear h
  replace H := Option.bind_eq_some_iff.mp H
  obtain ⟨t213, A20, H⟩ := H
  replace H : (some (!t213)) = some r := H
  have A2 := Aside0.mk A20
  clear A20
  obtain rfl := Option.some.inj H
  go_enter Try.func71, Try.ntmps71
  go_wp2_with (first | ((with_reducible refine gate_callee (f := 48) rfl ?_); refine goesL_ (some 4) rfl rfl Try.func48 (by kernel_rfl) rfl #[.slice A0 l0.length c0, .func (.func 88) #[] #[]] rfl (by (try simp only [List.map_toArray, List.map_cons, List.map_nil]); first | done | rfl | (simp only [List.length_drop, List.length_take]; rfl)) ?_; (with_reducible refine (slices_ContainsFunc_int_int__88.calls k _ _ l0  t213 _ ?side1 ?side2 A2.out).mono ?_); (case side1 => repeat (first | exact HR0.out | (with_reducible refine Kd.C_alloc ?_ _) | (with_reducible refine Kd.C_drewN ?_ _) | (with_reducible refine Kd.C_drew ?_))); (case side2 => exact HC0.out); rintro e w' ⟨rfl, ⟨nd, rfl⟩⟩; refine ⟨_, rfl, ?_⟩))
  go_ret
  exact ⟨by first | rfl | (simp; done) | (simp [*]; done), by repeat (first | exact Drawn0.refl _ | apply Drawn0.step)⟩

/-! ### bitmap_place: function 58 -/
def bitmap_place.f (a0_0 : Int) (a0_1 : Int) (a0_2 : Int) (a0_3 : Int) (l0_4 : List Int) : Option (Bool) := (bitmap_within.f a0_0 0 999).bind fun t215 => (if t215 = true then ((bitmap_within.f a0_1 0 999).bind fun t216 => (if t216 = true then ((bitmap_within.f a0_2 1 64).bind fun t217 => (if t217 = true then ((bitmap_within.f a0_3 1 64).bind fun t218 => (some t218)) else (some false))) else (some false))) else (some false))
set_option maxHeartbeats 8000000 in
set_option maxRecDepth 100000 in
theorem bitmap_place.calls (a0_0:Int) (a0_1:Int) (a0_2:Int) (a0_3:Int) (A0_4:Option Addr) (c0_4:Nat) (l0_4:List Int) (r:Bool) (w:World) (hr0_4:Kd.C (Kd.int .i64) w A0_4 l0_4.length l0_4) (hc0_4:l0_4.length≤c0_4) (h:bitmap_place.f a0_0 a0_1 a0_2 a0_3 l0_4=some r) :
 Calls Try.prog 58 #[.agg #[.int .i64 a0_0,.int .i64 a0_1,.int .i64 a0_2,.int .i64 a0_3,.slice A0_4 l0_4.length c0_4]] w fun e w'=>e=.returned (.bool r)∧Below w.heap.size w w':=by
 have hu91:=Try.underlying91
 have HR0_4:=Aside0.mk hr0_4
 have HC0_4:=Aside0.mk hc0_4;clear hr0_4 hc0_4;have HB:=Aside0.mk (Below.refl w.heap.size w)
 have H:((bitmap_within.f a0_0 0 999).bind fun t215=>(if t215=true then ((bitmap_within.f a0_1 0 999).bind fun t216=>(if t216=true then ((bitmap_within.f a0_2 1 64).bind fun t217=>(if t217=true then ((bitmap_within.f a0_3 1 64).bind fun t218=>(some t218)) else (some false))) else (some false))) else (some false)))=some r:=h
 clear h
 replace H:=Option.bind_eq_some_iff.mp H
 obtain ⟨t215,A20,H⟩:=H
 replace H:(if t215=true then ((bitmap_within.f a0_1 0 999).bind fun t216=>(if t216=true then ((bitmap_within.f a0_2 1 64).bind fun t217=>(if t217=true then ((bitmap_within.f a0_3 1 64).bind fun t218=>(some t218)) else (some false))) else (some false))) else (some false))=some r:=H
 have A2:=Aside0.mk A20;clear A20
 by_cases c3:t215=true
 · subst c3
   have H1:((bitmap_within.f a0_1 0 999).bind fun t216=>(if t216=true then ((bitmap_within.f a0_2 1 64).bind fun t217=>(if t217=true then ((bitmap_within.f a0_3 1 64).bind fun t218=>(some t218)) else (some false))) else (some false)))=some r:=by rw [if_pos rfl] at H;exact H
   clear H
   have H:=H1;clear H1
   replace H:=Option.bind_eq_some_iff.mp H
   obtain ⟨t216,A40,H⟩:=H
   replace H:(if t216=true then ((bitmap_within.f a0_2 1 64).bind fun t217=>(if t217=true then ((bitmap_within.f a0_3 1 64).bind fun t218=>(some t218)) else (some false))) else (some false))=some r:=H
   have A4:=Aside0.mk A40;clear A40
   by_cases c5:t216=true
   · subst c5
     have H1:((bitmap_within.f a0_2 1 64).bind fun t217=>(if t217=true then ((bitmap_within.f a0_3 1 64).bind fun t218=>(some t218)) else (some false)))=some r:=by rw [if_pos rfl] at H;exact H
     clear H
     have H:=H1;clear H1
     replace H:=Option.bind_eq_some_iff.mp H
     obtain ⟨t217,A60,H⟩:=H
     replace H:(if t217=true then ((bitmap_within.f a0_3 1 64).bind fun t218=>(some t218)) else (some false))=some r:=H
     have A6:=Aside0.mk A60;clear A60
     by_cases c7:t217=true
     · subst c7
       have H1:((bitmap_within.f a0_3 1 64).bind fun t218=>(some t218))=some r:=by rw [if_pos rfl] at H;exact H
       clear H
       have H:=H1;clear H1
       replace H:=Option.bind_eq_some_iff.mp H
       obtain ⟨t218,A80,H⟩:=H
       replace H:(some t218)=some r:=H
       have A8:=Aside0.mk A80;clear A80
       obtain rfl:=Option.some.inj H
       go_enter Try.func58,Try.ntmps58
       go_wp2_with (first|((with_reducible refine gate_dst (N:=1) rfl ?_);refine box_event ?hg (N:=1) ?hd (cs:=#[.int .i64 a0_0,.int .i64 a0_1,.int .i64 a0_2,.int .i64 a0_3,.slice A0_4 l0_4.length c0_4]) (t:=91) ?hr ?_;(case hd=>rfl);(case hg=>rfl);(case hr=>first|(go_simp;done)|(go_simp;rfl));intro gb214 hg w9 hbox hb;have n0_:=Aside0.mk (below_step (belV HB.out) hb);have n1_:=Aside0.mk (hbox);have n2_:=Aside0.mk ((by rw [hg];exact (below_size (belV HB.out)):w.heap.size≤gb214));have n3_:=Aside0.mk ((by rw [hg];exact (below_size (belV HB.out)):w.heap.size≤gb214));clear HB;have HB:=n0_;have BK214:=n1_;have GW214:=n2_;have GE214:=n3_;clear n0_ n1_ n2_ n3_;clear hb hbox hg;obtain ⟨hcz10_0,hcz10_1,hcz10_2,hcz10_3,hcz10_4,hfz10_0,hfz10_1,hfz10_2,hfz10_3,hfz10_4⟩:=bcells5 BK214.out)|((with_reducible refine gate_callee (f:=47) rfl ?_);refine goesL_ (some 5) rfl rfl Try.func47 (by kernel_rfl) rfl #[.int .i64 a0_0,.int .i64 0,.int .i64 999] rfl (by (try simp only [List.map_toArray,List.map_cons,List.map_nil]);first|done|rfl|(simp only [List.length_drop,List.length_take];rfl)) ?_;(with_reducible refine (bitmap_within.calls a0_0 0 999 true _ A2.out).mono ?_);rintro e w' ⟨rfl,⟨nd,rfl⟩⟩;refine ⟨_,rfl,?_⟩)|(go_at_call 47;(with_reducible refine (bitmap_within.calls a0_1 0 999 true _ A4.out).mono ?_);rintro e w' ⟨rfl,⟨nd,rfl⟩⟩)|(go_at_call 47;(with_reducible refine (bitmap_within.calls a0_2 1 64 true _ A6.out).mono ?_);rintro e w' ⟨rfl,⟨nd,rfl⟩⟩)|(go_at_call 47;(with_reducible refine (bitmap_within.calls a0_3 1 64 t218 _ A8.out).mono ?_);rintro e w' ⟨rfl,⟨nd,rfl⟩⟩))
       go_ret
       exact ⟨by first|rfl|(simp [errW_none,errW_some] <;> rfl)|(simp [*,errW_none,errW_some] <;> rfl),by repeat (first|(with_reducible first|exact HB.out|apply below_alloc|apply pw_below_drewN|apply below_drew1|refine below_set ?_ GE214.out)|exact HB.out)⟩
     replace c7:=Bool.eq_false_iff.mpr c7;subst c7
     have H1:(some false)=some r:=by rw [if_neg (show ¬ (false=true) by decide)] at H;exact H
     clear H
     have H:=H1;clear H1
     obtain rfl:=Option.some.inj H
     go_enter Try.func58,Try.ntmps58
     go_wp2_with (first|((with_reducible refine gate_dst (N:=1) rfl ?_);refine box_event ?hg (N:=1) ?hd (cs:=#[.int .i64 a0_0,.int .i64 a0_1,.int .i64 a0_2,.int .i64 a0_3,.slice A0_4 l0_4.length c0_4]) (t:=91) ?hr ?_;(case hd=>rfl);(case hg=>rfl);(case hr=>first|(go_simp;done)|(go_simp;rfl));intro gb214 hg w11 hbox hb;have n0_:=Aside0.mk (below_step (belV HB.out) hb);have n1_:=Aside0.mk (hbox);have n2_:=Aside0.mk ((by rw [hg];exact (below_size (belV HB.out)):w.heap.size≤gb214));have n3_:=Aside0.mk ((by rw [hg];exact (below_size (belV HB.out)):w.heap.size≤gb214));clear HB;have HB:=n0_;have BK214:=n1_;have GW214:=n2_;have GE214:=n3_;clear n0_ n1_ n2_ n3_;clear hb hbox hg;obtain ⟨hcz12_0,hcz12_1,hcz12_2,hcz12_3,hcz12_4,hfz12_0,hfz12_1,hfz12_2,hfz12_3,hfz12_4⟩:=bcells5 BK214.out)|((with_reducible refine gate_callee (f:=47) rfl ?_);refine goesL_ (some 5) rfl rfl Try.func47 (by kernel_rfl) rfl #[.int .i64 a0_0,.int .i64 0,.int .i64 999] rfl (by (try simp only [List.map_toArray,List.map_cons,List.map_nil]);first|done|rfl|(simp only [List.length_drop,List.length_take];rfl)) ?_;(with_reducible refine (bitmap_within.calls a0_0 0 999 true _ A2.out).mono ?_);rintro e w' ⟨rfl,⟨nd,rfl⟩⟩;refine ⟨_,rfl,?_⟩)|(go_at_call 47;(with_reducible refine (bitmap_within.calls a0_1 0 999 true _ A4.out).mono ?_);rintro e w' ⟨rfl,⟨nd,rfl⟩⟩)|(go_at_call 47;(with_reducible refine (bitmap_within.calls a0_2 1 64 false _ A6.out).mono ?_);rintro e w' ⟨rfl,⟨nd,rfl⟩⟩))
     go_ret
     exact ⟨by first|rfl|(simp [errW_none,errW_some] <;> rfl)|(simp [*,errW_none,errW_some] <;> rfl),by repeat (first|(with_reducible first|exact HB.out|apply below_alloc|apply pw_below_drewN|apply below_drew1|refine below_set ?_ GE214.out)|exact HB.out)⟩
   replace c5:=Bool.eq_false_iff.mpr c5;subst c5
   have H1:(some false)=some r:=by rw [if_neg (show ¬ (false=true) by decide)] at H;exact H
   clear H
   have H:=H1;clear H1
   obtain rfl:=Option.some.inj H
   go_enter Try.func58,Try.ntmps58
   go_wp2_with (first|((with_reducible refine gate_dst (N:=1) rfl ?_);refine box_event ?hg (N:=1) ?hd (cs:=#[.int .i64 a0_0,.int .i64 a0_1,.int .i64 a0_2,.int .i64 a0_3,.slice A0_4 l0_4.length c0_4]) (t:=91) ?hr ?_;(case hd=>rfl);(case hg=>rfl);(case hr=>first|(go_simp;done)|(go_simp;rfl));intro gb214 hg w13 hbox hb;have n0_:=Aside0.mk (below_step (belV HB.out) hb);have n1_:=Aside0.mk (hbox);have n2_:=Aside0.mk ((by rw [hg];exact (below_size (belV HB.out)):w.heap.size≤gb214));have n3_:=Aside0.mk ((by rw [hg];exact (below_size (belV HB.out)):w.heap.size≤gb214));clear HB;have HB:=n0_;have BK214:=n1_;have GW214:=n2_;have GE214:=n3_;clear n0_ n1_ n2_ n3_;clear hb hbox hg;obtain ⟨hcz14_0,hcz14_1,hcz14_2,hcz14_3,hcz14_4,hfz14_0,hfz14_1,hfz14_2,hfz14_3,hfz14_4⟩:=bcells5 BK214.out)|((with_reducible refine gate_callee (f:=47) rfl ?_);refine goesL_ (some 5) rfl rfl Try.func47 (by kernel_rfl) rfl #[.int .i64 a0_0,.int .i64 0,.int .i64 999] rfl (by (try simp only [List.map_toArray,List.map_cons,List.map_nil]);first|done|rfl|(simp only [List.length_drop,List.length_take];rfl)) ?_;(with_reducible refine (bitmap_within.calls a0_0 0 999 true _ A2.out).mono ?_);rintro e w' ⟨rfl,⟨nd,rfl⟩⟩;refine ⟨_,rfl,?_⟩)|(go_at_call 47;(with_reducible refine (bitmap_within.calls a0_1 0 999 false _ A4.out).mono ?_);rintro e w' ⟨rfl,⟨nd,rfl⟩⟩))
   go_ret
   exact ⟨by first|rfl|(simp [errW_none,errW_some] <;> rfl)|(simp [*,errW_none,errW_some] <;> rfl),by repeat (first|(with_reducible first|exact HB.out|apply below_alloc|apply pw_below_drewN|apply below_drew1|refine below_set ?_ GE214.out)|exact HB.out)⟩
 replace c3:=Bool.eq_false_iff.mpr c3;subst c3
 have H1:(some false)=some r:=by rw [if_neg (show ¬ (false=true) by decide)] at H;exact H
 clear H
 have H:=H1;clear H1
 obtain rfl:=Option.some.inj H
 go_enter Try.func58,Try.ntmps58
 go_wp2_with (first|((with_reducible refine gate_dst (N:=1) rfl ?_);refine box_event ?hg (N:=1) ?hd (cs:=#[.int .i64 a0_0,.int .i64 a0_1,.int .i64 a0_2,.int .i64 a0_3,.slice A0_4 l0_4.length c0_4]) (t:=91) ?hr ?_;(case hd=>rfl);(case hg=>rfl);(case hr=>first|(go_simp;done)|(go_simp;rfl));intro gb214 hg w15 hbox hb;have n0_:=Aside0.mk (below_step (belV HB.out) hb);have n1_:=Aside0.mk (hbox);have n2_:=Aside0.mk ((by rw [hg];exact (below_size (belV HB.out)):w.heap.size≤gb214));have n3_:=Aside0.mk ((by rw [hg];exact (below_size (belV HB.out)):w.heap.size≤gb214));clear HB;have HB:=n0_;have BK214:=n1_;have GW214:=n2_;have GE214:=n3_;clear n0_ n1_ n2_ n3_;clear hb hbox hg;obtain ⟨hcz16_0,hcz16_1,hcz16_2,hcz16_3,hcz16_4,hfz16_0,hfz16_1,hfz16_2,hfz16_3,hfz16_4⟩:=bcells5 BK214.out)|((with_reducible refine gate_callee (f:=47) rfl ?_);refine goesL_ (some 5) rfl rfl Try.func47 (by kernel_rfl) rfl #[.int .i64 a0_0,.int .i64 0,.int .i64 999] rfl (by (try simp only [List.map_toArray,List.map_cons,List.map_nil]);first|done|rfl|(simp only [List.length_drop,List.length_take];rfl)) ?_;(with_reducible refine (bitmap_within.calls a0_0 0 999 false _ A2.out).mono ?_);rintro e w' ⟨rfl,⟨nd,rfl⟩⟩;refine ⟨_,rfl,?_⟩))
 go_ret
 exact ⟨by first|rfl|(simp [errW_none,errW_some] <;> rfl)|(simp [*,errW_none,errW_some] <;> rfl),by repeat (first|(with_reducible first|exact HB.out|apply below_alloc|apply pw_below_drewN|apply below_drew1|refine below_set ?_ GE214.out)|exact HB.out)⟩

/-! ### bitmap_checkPatch_1: function 89 -/
def bitmap_checkPatch_1.f (a0 : Int) : Option (Bool) := (bitmap_within.f a0 0 15).bind fun t219 => (some (!t219))
set_option maxHeartbeats 8000000 in
set_option maxRecDepth 100000 in
theorem bitmap_checkPatch_1.calls (a0 : Int) (r : Bool) (w : World) (h : bitmap_checkPatch_1.f a0 = some r) :
    Calls Try.prog 89 #[.int .i64 a0] w fun e w' => e = .returned (.bool r) ∧ Drawn0 w w' := by
  have H : ((bitmap_within.f a0 0 15).bind fun t219 => (some (!t219))) = some r := h
  clear h
  replace H := Option.bind_eq_some_iff.mp H
  obtain ⟨t219, A20, H⟩ := H
  replace H : (some (!t219)) = some r := H
  have A2 := Aside0.mk A20
  clear A20
  obtain rfl := Option.some.inj H
  go_enter Try.func89, Try.ntmps89
  go_wp2_with (first | ((with_reducible refine gate_callee (f := 47) rfl ?_); refine goesL_ (some 4) rfl rfl Try.func47 (by kernel_rfl) rfl #[.int .i64 a0, .int .i64 0, .int .i64 15] rfl (by (try simp only [List.map_toArray, List.map_cons, List.map_nil]); first | done | rfl | (simp only [List.length_drop, List.length_take]; rfl)) ?_; (with_reducible refine (bitmap_within.calls a0 0 15 t219 _ A2.out).mono ?_); rintro e w' ⟨rfl, ⟨nd, rfl⟩⟩; refine ⟨_, rfl, ?_⟩))
  go_ret
  exact ⟨by first | rfl | (simp; done) | (simp [*]; done), by repeat (first | exact Drawn0.refl _ | apply Drawn0.step)⟩

/-! ### slices_IndexFunc_int_int__89: function 83 -/
def slices_IndexFunc_int_int__89.l0 : Nat → List Int → Int → Int → Option (Int)
 | 0,_,_,_=>none
 | k+1,x0,x7,x8=>if x8 < x7 then (if 0≤x8 then (if x8 < (x0.length:Int) then ((bitmap_checkPatch_1.f (rd x0 x8)).bind fun t221=>(if t221=true then (some x8) else (slices_IndexFunc_int_int__89.l0 k x0 x7 (wrap64 (x8+1))))) else (none)) else (none)) else (some (-1))
def slices_IndexFunc_int_int__89.f (k : Nat) (l0 : List Int)  : Option (Int) := slices_IndexFunc_int_int__89.l0 k l0 (l0.length : Int) 0
theorem slices_IndexFunc_int_int__89.mono_l:∀ k,(∀ y0 y1 y2,LeO (slices_IndexFunc_int_int__89.l0 k y0 y1 y2) (slices_IndexFunc_int_int__89.l0 (k+1) y0 y1 y2))
 | 0=>fun _ _ _ r h=>by simp [slices_IndexFunc_int_int__89.l0] at h
 | k+1=>by
  have ih0:=slices_IndexFunc_int_int__89.mono_l k
  · intro y0 y1 y2
    unfold slices_IndexFunc_int_int__89.l0
    repeat' first
    | (with_reducible exact ih0 _ _ _)
    | (with_reducible exact LeO.refl _)
    | (with_reducible exact LeO.none _)
    | (with_reducible refine LeO.ite ?_ ?_)
    | (with_reducible refine LeO.bind ?_ (fun _=>?_))
    | exact LeO.none _
    | refine LeO.ite ?_ ?_
    | refine LeO.bind ?_ (fun _=>?_)
theorem slices_IndexFunc_int_int__89.mono:∀ a0 k,LeO (slices_IndexFunc_int_int__89.f k a0) (slices_IndexFunc_int_int__89.f (k+1) a0):=by
 intro a0 k
 have ih0:=slices_IndexFunc_int_int__89.mono_l k
 unfold slices_IndexFunc_int_int__89.f
 repeat' first
  | (with_reducible exact ih0 _ _ _)
  | (with_reducible exact LeO.refl _)
  | (with_reducible exact LeO.none _)
  | (with_reducible refine LeO.ite ?_ ?_)
  | (with_reducible refine LeO.bind ?_ (fun _=>?_))
  | exact LeO.none _
  | refine LeO.ite ?_ ?_
  | refine LeO.bind ?_ (fun _=>?_)
set_option maxHeartbeats 8000000 in
set_option maxRecDepth 100000 in
theorem slices_IndexFunc_int_int__89.calls (k:Nat) (A0:Option Addr) (c0:Nat) (l0:List Int)  (r:Int) (w:World) (hr0:Kd.C (Kd.int .i64) w A0 l0.length l0) (hc0:l0.length≤c0) (h:slices_IndexFunc_int_int__89.f k l0=some r) :
 Calls Try.prog 83 #[.slice A0 l0.length c0,.func (.func 89) #[] #[]] w fun e w'=>e=.returned (.int .i64 r)∧Drawn0 w w':=by
 have HR0:=Aside0.mk hr0
 have HC0:=Aside0.mk hc0;clear hr0 hc0
 have H:(slices_IndexFunc_int_int__89.l0 k l0 (l0.length:Int) 0)=some r:=h;clear h
 have H':=Aside0.mk H;clear H
 go_enter Try.func83,Try.ntmps83
 go_wp2
 go_loopg [8] k (fun kq v8 w'=>∃ (x8_1:Int),v8=.int .i64 x8_1∧Aside0 (slices_IndexFunc_int_int__89.l0 kq l0 (l0.length:Int) x8_1=some r)∧Aside0 (kq≤k)∧Drawn0 w w')
 case atStart=>exact ⟨(0),okV,H',⟨Nat.le_refl _⟩,by repeat (first|exact Drawn0.refl _|apply Drawn0.step)⟩
 case round =>
  clear H'
  try clear p2
  obtain ⟨x8_1,rfl,HA,HK1,⟨m1,rfl⟩⟩:=hrel
  cases gk with
  | zero=>exact absurd HA.out (by simp [slices_IndexFunc_int_int__89.l0])
  | succ k1 =>
   have H:=HA.out;clear HA
   simp only [slices_IndexFunc_int_int__89.l0] at H
   by_cases c3:x8_1 < (l0.length:Int)
   · rw [if_pos c3] at H
     have c3b0:decide (x8_1 < (l0.length:Int))=true:=decide_eq_true c3;clear c3
     by_cases c4:0≤x8_1
     · rw [if_pos c4] at H
       have c4b0:decide (0≤x8_1)=true:=decide_eq_true c4;clear c4
       by_cases c5:x8_1 < (l0.length:Int)
       · rw [if_pos c5] at H
         have c5b0:decide (x8_1 < (l0.length:Int))=true:=decide_eq_true c5;clear c5
         replace H:=Option.bind_eq_some_iff.mp H
         obtain ⟨t221,A60,H⟩:=H
         replace H:(if t221=true then (some x8_1) else (slices_IndexFunc_int_int__89.l0 k1 l0 (l0.length:Int) (wrap64 (x8_1+1))))=some r:=H
         have A6:=Aside0.mk A60;clear A60
         by_cases c7:t221=true
         · subst c7
           have H1:(some x8_1)=some r:=by rw [if_pos rfl] at H;exact H
           clear H
           have H:=H1;clear H1
           obtain rfl:=Option.some.inj H
           have p220:0≤(x8_1:Int):=of_decide_eq_true asV
           have q220:x8_1 < (l0.length:Int):=of_decide_eq_true asV
           obtain ⟨ad220,e220,hx220_0⟩:=Kd.at_int HR0.out x8_1 p220 q220
           cases e220
           replace p220:=eq_true p220
           replace q220:=eq_true q220
           go_wp2_with (first|(go_at_call 89;(with_reducible refine (bitmap_checkPatch_1.calls (rd l0 x8_1) true _ A6.out).mono ?_);rintro e w' ⟨rfl,⟨nd,rfl⟩⟩))
           go_ret
           exact ⟨by first|rfl|(simp;done)|(simp [*];done),by repeat (first|exact Drawn0.refl _|apply Drawn0.step)⟩
         replace c7:=Bool.eq_false_iff.mpr c7;subst c7
         have H1:(slices_IndexFunc_int_int__89.l0 k1 l0 (l0.length:Int) (wrap64 (x8_1+1)))=some r:=by rw [if_neg (show ¬ (false=true) by decide)] at H;exact H
         clear H
         have H:=H1;clear H1
         have H':=Aside0.mk H;clear H
         have p220:0≤(x8_1:Int):=of_decide_eq_true asV
         have q220:x8_1 < (l0.length:Int):=of_decide_eq_true asV
         obtain ⟨ad220,e220,hx220_0⟩:=Kd.at_int HR0.out x8_1 p220 q220
         cases e220
         replace p220:=eq_true p220
         replace q220:=eq_true q220
         go_wp2_with (first|(go_at_call 89;(with_reducible refine (bitmap_checkPatch_1.calls (rd l0 x8_1) false _ A6.out).mono ?_);rintro e w' ⟨rfl,⟨nd,rfl⟩⟩))
         go_roundg k1
         case measure=>have:=HK1.out;omega
         case rel=>exact ⟨(wrap64 (x8_1+1)),okV,H',⟨by have:=HK1.out;omega⟩,by repeat (first|exact Drawn0.refl _|apply Drawn0.step)⟩
       rw [if_neg c5] at H
       exact absurd H (by simp)
     rw [if_neg c4] at H
     exact absurd H (by simp)
   rw [if_neg c3] at H
   have c3b0:decide (x8_1 < (l0.length:Int))=false:=decide_eq_false c3;clear c3
   obtain rfl:=Option.some.inj H
   go_wp2
   go_ret
   exact ⟨by first|rfl|(simp;done)|(simp [*];done),by repeat (first|exact Drawn0.refl _|apply Drawn0.step)⟩

/-! ### slices_ContainsFunc_int_int__89: function 48 -/
def slices_ContainsFunc_int_int__89.f (k : Nat) (l0 : List Int)  : Option (Bool) := (slices_IndexFunc_int_int__89.f k l0).bind fun t222 => (some (decide (t222 ≥ 0)))
theorem slices_ContainsFunc_int_int__89.mono : ∀ a0 k, LeO (slices_ContainsFunc_int_int__89.f k a0) (slices_ContainsFunc_int_int__89.f (k + 1) a0) := by
  intro a0 k
  unfold slices_ContainsFunc_int_int__89.f
  repeat' first
      | (with_reducible exact slices_IndexFunc_int_int__89.mono _ _)
      | (with_reducible exact LeO.refl _)
      | (with_reducible exact LeO.none _)
      | (with_reducible refine LeO.ite ?_ ?_)
      | (with_reducible refine LeO.bind ?_ (fun _ => ?_))
      | exact slices_IndexFunc_int_int__89.mono _ _
      | exact LeO.none _
      | refine LeO.ite ?_ ?_
      | refine LeO.bind ?_ (fun _ => ?_)
set_option maxHeartbeats 8000000 in
set_option maxRecDepth 100000 in
theorem slices_ContainsFunc_int_int__89.calls (k : Nat) (A0 : Option Addr) (c0 : Nat) (l0 : List Int)  (r : Bool) (w : World) (hr0 : Kd.C (Kd.int .i64) w A0 l0.length l0) (hc0 : l0.length ≤ c0) (h : slices_ContainsFunc_int_int__89.f k l0 = some r) :
    Calls Try.prog 48 #[.slice A0 l0.length c0, .func (.func 89) #[] #[]] w fun e w' => e = .returned (.bool r) ∧ Drawn0 w w' := by
  have HR0 := Aside0.mk hr0
  have HC0 := Aside0.mk hc0
  clear hr0 hc0
  have H : ((slices_IndexFunc_int_int__89.f k l0).bind fun t222 => (some (decide (t222 ≥ 0)))) = some r := h
  clear h
  replace H := Option.bind_eq_some_iff.mp H
  obtain ⟨t222, A30, H⟩ := H
  replace H : (some (decide (t222 ≥ 0))) = some r := H
  have A3 := Aside0.mk A30
  clear A30
  obtain rfl := Option.some.inj H
  go_enter Try.func48, Try.ntmps48
  go_wp2_with (first | ((with_reducible refine gate_callee (f := 83) rfl ?_); refine goesL_ (some 7) rfl rfl Try.func83 (by kernel_rfl) rfl #[.slice A0 l0.length c0, .func (.func 89) #[] #[]] rfl (by (try simp only [List.map_toArray, List.map_cons, List.map_nil]); first | done | rfl | (simp only [List.length_drop, List.length_take]; rfl)) ?_; (with_reducible refine (slices_IndexFunc_int_int__89.calls k _ _ l0  t222 _ ?side1 ?side2 A3.out).mono ?_); (case side1 => repeat (first | exact HR0.out | (with_reducible refine Kd.C_alloc ?_ _) | (with_reducible refine Kd.C_drewN ?_ _) | (with_reducible refine Kd.C_drew ?_))); (case side2 => exact HC0.out); rintro e w' ⟨rfl, ⟨nd, rfl⟩⟩; refine ⟨_, rfl, ?_⟩))
  go_ret
  exact ⟨by first | rfl | (simp; done) | (simp [*]; done), by repeat (first | exact Drawn0.refl _ | apply Drawn0.step)⟩

/-! ### bitmap_checkPatch: function 72 -/
def bitmap_checkPatch.j0 : Nat → Bool → Int → Int → Int → Int → List Int → Option (Int)
 | 0,_,_,_,_,_,_=>none
 | k+1,x10,x224000,x224001,x224002,x224003,x224004=>if x10=true then (some 1) else (if (x224004.length:Int)=(wrap64 (x224002*x224003)) then (some 0) else (some 4))
def bitmap_checkPatch.f (k : Nat) (a0_0 : Int) (a0_1 : Int) (a0_2 : Int) (a0_3 : Int) (l0_4 : List Int) : Option (Int) := (bitmap_place.f a0_0 a0_1 a0_2 a0_3 l0_4).bind fun t224 => (if t224 = true then ((slices_ContainsFunc_int_int__89.f k l0_4).bind fun t225 => (bitmap_checkPatch.j0 k t225 a0_0 a0_1 a0_2 a0_3 l0_4)) else (bitmap_checkPatch.j0 k true a0_0 a0_1 a0_2 a0_3 l0_4))
theorem bitmap_checkPatch.mono_l:∀ k,(∀ y0 y1 y2 y3 y4 y5,LeO (bitmap_checkPatch.j0 k y0 y1 y2 y3 y4 y5) (bitmap_checkPatch.j0 (k+1) y0 y1 y2 y3 y4 y5))
 | 0=>fun _ _ _ _ _ _ r h=>by simp [bitmap_checkPatch.j0] at h
 | k+1=>by
  have ih0:=bitmap_checkPatch.mono_l k
  · intro y0 y1 y2 y3 y4 y5
    unfold bitmap_checkPatch.j0
    repeat' first
    | (with_reducible exact ih0 _ _ _ _ _ _)
    | (with_reducible exact slices_ContainsFunc_int_int__89.mono _ _)
    | (with_reducible exact LeO.refl _)
    | (with_reducible exact LeO.none _)
    | (with_reducible refine LeO.ite ?_ ?_)
    | (with_reducible refine LeO.bind ?_ (fun _=>?_))
    | exact LeO.none _
    | refine LeO.ite ?_ ?_
    | refine LeO.bind ?_ (fun _=>?_)
theorem bitmap_checkPatch.mono:∀ a0 a1 a2 a3 a4 k,LeO (bitmap_checkPatch.f k a0 a1 a2 a3 a4) (bitmap_checkPatch.f (k+1) a0 a1 a2 a3 a4):=by
 intro a0 a1 a2 a3 a4 k
 have ih0:=bitmap_checkPatch.mono_l k
 unfold bitmap_checkPatch.f
 repeat' first
  | (with_reducible exact ih0 _ _ _ _ _ _)
  | (with_reducible exact slices_ContainsFunc_int_int__89.mono _ _)
  | (with_reducible exact LeO.refl _)
  | (with_reducible exact LeO.none _)
  | (with_reducible refine LeO.ite ?_ ?_)
  | (with_reducible refine LeO.bind ?_ (fun _=>?_))
  | exact LeO.none _
  | refine LeO.ite ?_ ?_
  | refine LeO.bind ?_ (fun _=>?_)
set_option maxHeartbeats 8000000 in
set_option maxRecDepth 100000 in
theorem bitmap_checkPatch.calls (k:Nat) (a0_0:Int) (a0_1:Int) (a0_2:Int) (a0_3:Int) (A0_4:Option Addr) (c0_4:Nat) (l0_4:List Int) (r:Int) (w:World) (hr0_4:Kd.C (Kd.int .i64) w A0_4 l0_4.length l0_4) (hc0_4:l0_4.length≤c0_4) (h:bitmap_checkPatch.f k a0_0 a0_1 a0_2 a0_3 l0_4=some r) :
 Calls Try.prog 72 #[.agg #[.int .i64 a0_0,.int .i64 a0_1,.int .i64 a0_2,.int .i64 a0_3,.slice A0_4 l0_4.length c0_4]] w fun e w'=>e=.returned (.int .i64 r)∧Below w.heap.size w w':=by
 have hu91:=Try.underlying91
 have HR0_4:=Aside0.mk hr0_4
 have HC0_4:=Aside0.mk hc0_4;clear hr0_4 hc0_4;have HB:=Aside0.mk (Below.refl w.heap.size w)
 have H:((bitmap_place.f a0_0 a0_1 a0_2 a0_3 l0_4).bind fun t224=>(if t224=true then ((slices_ContainsFunc_int_int__89.f k l0_4).bind fun t225=>(bitmap_checkPatch.j0 k t225 a0_0 a0_1 a0_2 a0_3 l0_4)) else (bitmap_checkPatch.j0 k true a0_0 a0_1 a0_2 a0_3 l0_4)))=some r:=h;clear h
 have HC2:=Aside0.mk H;clear H
 go_enter Try.func72,Try.ntmps72
 go_upto_region 1 with (first|((with_reducible refine gate_dst (N:=1) rfl ?_);refine box_event ?hg (N:=1) ?hd (cs:=#[.int .i64 a0_0,.int .i64 a0_1,.int .i64 a0_2,.int .i64 a0_3,.slice A0_4 l0_4.length c0_4]) (t:=91) ?hr ?_;(case hd=>rfl);(case hg=>rfl);(case hr=>first|(go_simp;done)|(go_simp;rfl));intro gb223 hg w3 hbox hb;have n0_:=Aside0.mk (below_step (belV HB.out) hb);have n1_:=Aside0.mk (hbox);have n2_:=Aside0.mk ((by rw [hg];exact (below_size (belV HB.out)):w.heap.size≤gb223));have n3_:=Aside0.mk ((by rw [hg];exact (below_size (belV HB.out)):w.heap.size≤gb223));clear HB;have HB:=n0_;have BK223:=n1_;have GW223:=n2_;have GE223:=n3_;clear n0_ n1_ n2_ n3_;clear hb hbox hg))
 (try simp only [Act.put,List.setIfInBounds_toArray,List.set_cons_zero,List.set_cons_succ])
 go_cut [10] (fun v10 wc=>∃ (kq:Nat) (x10_1:Bool),v10=.bool x10_1∧Aside0 (bitmap_checkPatch.j0 kq x10_1 a0_0 a0_1 a0_2 a0_3 l0_4=some r)∧Aside0 (kq≤k)∧Aside0 (wc.heap[gb223]?=some (.cells #[.int .i64 a0_0,.int .i64 a0_1,.int .i64 a0_2,.int .i64 a0_3,(.slice A0_4 l0_4.length c0_4)] 91 (0,0)))∧Aside0 (Below w.heap.size w wc))
 case first =>
  have H:=HC2.out;clear HC2
  replace H:=Option.bind_eq_some_iff.mp H
  obtain ⟨t224,A40,H⟩:=H
  replace H:(if t224=true then ((slices_ContainsFunc_int_int__89.f k l0_4).bind fun t225=>(bitmap_checkPatch.j0 k t225 a0_0 a0_1 a0_2 a0_3 l0_4)) else (bitmap_checkPatch.j0 k true a0_0 a0_1 a0_2 a0_3 l0_4))=some r:=H
  have A4:=Aside0.mk A40;clear A40
  by_cases c5:t224=true
  · subst c5
    have H1:((slices_ContainsFunc_int_int__89.f k l0_4).bind fun t225=>(bitmap_checkPatch.j0 k t225 a0_0 a0_1 a0_2 a0_3 l0_4))=some r:=by rw [if_pos rfl] at H;exact H
    clear H
    have H:=H1;clear H1
    replace H:=Option.bind_eq_some_iff.mp H
    obtain ⟨t225,A60,H⟩:=H
    replace H:(bitmap_checkPatch.j0 k t225 a0_0 a0_1 a0_2 a0_3 l0_4)=some r:=H
    have A6:=Aside0.mk A60;clear A60
    have H':=Aside0.mk H;clear H
    obtain ⟨hcz7_0,hcz7_1,hcz7_2,hcz7_3,hcz7_4,hfz7_0,hfz7_1,hfz7_2,hfz7_3,hfz7_4⟩:=bcells5 BK223.out
    go_wp2_with (first|((with_reducible refine gate_callee (f:=58) rfl ?_);refine goesL_ (some 4) rfl rfl Try.func58 (by kernel_rfl) rfl #[.agg #[.int .i64 a0_0,.int .i64 a0_1,.int .i64 a0_2,.int .i64 a0_3,.slice A0_4 l0_4.length c0_4]] rfl (by (try simp only [List.map_toArray,List.map_cons,List.map_nil]);first|done|rfl|(simp only [List.length_drop,List.length_take];rfl)) ?_;(with_reducible refine (bitmap_place.calls a0_0 a0_1 a0_2 a0_3 _ _ l0_4 true _ ?side1 ?side2 A4.out).mono ?_);(case side1=>exact cV (Kd.C_below HR0_4.out HB.out));(case side2=>exact HC0_4.out);rintro e w8 ⟨rfl,hb⟩;refine ⟨_,rfl,?_⟩;have n0_:=Aside0.mk (blk_below (g:=gb223) (blkV BK223.out) hb);have n1_:=Aside0.mk (below_step (belV1 HB.out GE223.out) hb);clear BK223;clear HB;have BK223:=n0_;have HB:=n1_;clear n0_ n1_;(try clear hb);(try clear hb2);(try clear hk);(try clear hi);obtain ⟨hcz9_0,hcz9_1,hcz9_2,hcz9_3,hcz9_4,hfz9_0,hfz9_1,hfz9_2,hfz9_3,hfz9_4⟩:=bcells5 BK223.out)|(go_at_call 48;(with_reducible refine (slices_ContainsFunc_int_int__89.calls k _ _ l0_4  t225 _ ?side1 ?side2 A6.out).mono ?_);(case side1=>exact cV (Kd.C_below HR0_4.out HB.out));(case side2=>exact HC0_4.out);rintro e w' ⟨rfl,⟨nd,rfl⟩⟩))
    go_meet
    case rel=>exact ⟨_,(t225),okV,H',⟨by first|omega|exact Nat.le_refl _⟩,⟨blkV BK223.out⟩,⟨belV1 HB.out GE223.out⟩⟩
  replace c5:=Bool.eq_false_iff.mpr c5;subst c5
  have H1:(bitmap_checkPatch.j0 k true a0_0 a0_1 a0_2 a0_3 l0_4)=some r:=by rw [if_neg (show ¬ (false=true) by decide)] at H;exact H
  clear H
  have H:=H1;clear H1
  have H':=Aside0.mk H;clear H
  obtain ⟨hcz10_0,hcz10_1,hcz10_2,hcz10_3,hcz10_4,hfz10_0,hfz10_1,hfz10_2,hfz10_3,hfz10_4⟩:=bcells5 BK223.out
  go_wp2_with (first|((with_reducible refine gate_callee (f:=58) rfl ?_);refine goesL_ (some 4) rfl rfl Try.func58 (by kernel_rfl) rfl #[.agg #[.int .i64 a0_0,.int .i64 a0_1,.int .i64 a0_2,.int .i64 a0_3,.slice A0_4 l0_4.length c0_4]] rfl (by (try simp only [List.map_toArray,List.map_cons,List.map_nil]);first|done|rfl|(simp only [List.length_drop,List.length_take];rfl)) ?_;(with_reducible refine (bitmap_place.calls a0_0 a0_1 a0_2 a0_3 _ _ l0_4 false _ ?side1 ?side2 A4.out).mono ?_);(case side1=>exact cV (Kd.C_below HR0_4.out HB.out));(case side2=>exact HC0_4.out);rintro e w11 ⟨rfl,hb⟩;refine ⟨_,rfl,?_⟩;have n0_:=Aside0.mk (blk_below (g:=gb223) (blkV BK223.out) hb);have n1_:=Aside0.mk (below_step (belV1 HB.out GE223.out) hb);clear BK223;clear HB;have BK223:=n0_;have HB:=n1_;clear n0_ n1_;(try clear hb);(try clear hb2);(try clear hk);(try clear hi)))
  go_meet
  case rel=>exact ⟨_,(true),okV,H',⟨by first|omega|exact Nat.le_refl _⟩,⟨blkV BK223.out⟩,⟨belV1 HB.out GE223.out⟩⟩
 case rest =>
  clear HC2
  try clear p2;try clear c5;try clear c7;try clear hcz10_0 hcz10_1 hcz10_2 hcz10_3 hcz10_4;try clear hcz7_0 hcz7_1 hcz7_2 hcz7_3 hcz7_4;try clear hcz9_0 hcz9_1 hcz9_2 hcz9_3 hcz9_4;try clear hfz10_0 hfz10_1 hfz10_2 hfz10_3 hfz10_4;try clear hfz7_0 hfz7_1 hfz7_2 hfz7_3 hfz7_4;try clear hfz9_0 hfz9_1 hfz9_2 hfz9_3 hfz9_4
  obtain ⟨kq,x10_1,rfl,HA,HJ1,BK223,HB⟩:=hcut
  cases kq with
  | zero=>exact absurd HA.out (by simp [bitmap_checkPatch.j0])
  | succ kj1 =>
   have H:=HA.out;clear HA
   simp only [bitmap_checkPatch.j0] at H
   by_cases c12:x10_1=true
   · subst c12
     have H1:(some 1)=some r:=by rw [if_pos rfl] at H;exact H
     clear H
     have H:=H1;clear H1
     obtain rfl:=Option.some.inj H
     go_wp2
     go_ret
     exact ⟨by first|rfl|(simp [errW_none,errW_some] <;> rfl)|(simp [*,errW_none,errW_some] <;> rfl),by repeat (first|(with_reducible first|exact HB.out|apply below_alloc|apply pw_below_drewN|apply below_drew1|refine below_set ?_ GE223.out)|exact HB.out)⟩
   replace c12:=Bool.eq_false_iff.mpr c12;subst c12
   have H1:(if (l0_4.length:Int)=(wrap64 (a0_2*a0_3)) then (some 0) else (some 4))=some r:=by rw [if_neg (show ¬ (false=true) by decide)] at H;exact H
   clear H
   have H:=H1;clear H1
   by_cases c13:(l0_4.length:Int)=(wrap64 (a0_2*a0_3))
   · rw [if_pos c13] at H
     have c13b0:((l0_4.length:Int) == (wrap64 (a0_2*a0_3)))=true:=beq_iff_eq.mpr c13
     have c13b1:((l0_4.length:Int) != (wrap64 (a0_2*a0_3)))=false:=bne_eq_false_iff_eq.mpr c13;clear c13
     obtain rfl:=Option.some.inj H
     obtain ⟨hcz14_0,hcz14_1,hcz14_2,hcz14_3,hcz14_4,hfz14_0,hfz14_1,hfz14_2,hfz14_3,hfz14_4⟩:=bcells5 BK223.out
     go_wp2
     go_ret
     exact ⟨by first|rfl|(simp [errW_none,errW_some] <;> rfl)|(simp [*,errW_none,errW_some] <;> rfl),by repeat (first|(with_reducible first|exact HB.out|apply below_alloc|apply pw_below_drewN|apply below_drew1|refine below_set ?_ GE223.out)|exact HB.out)⟩
   rw [if_neg c13] at H
   have c13b0:((l0_4.length:Int) == (wrap64 (a0_2*a0_3)))=false:=beq_eq_false_iff_ne.mpr c13
   have c13b1:((l0_4.length:Int) != (wrap64 (a0_2*a0_3)))=true:=bne_iff_ne.mpr c13
   obtain rfl:=Option.some.inj H
   obtain ⟨hcz15_0,hcz15_1,hcz15_2,hcz15_3,hcz15_4,hfz15_0,hfz15_1,hfz15_2,hfz15_3,hfz15_4⟩:=bcells5 BK223.out
   go_wp2
   go_ret
   exact ⟨by first|rfl|(simp [errW_none,errW_some] <;> rfl)|(simp [*,errW_none,errW_some] <;> rfl),by repeat (first|(with_reducible first|exact HB.out|apply below_alloc|apply pw_below_drewN|apply below_drew1|refine below_set ?_ GE223.out)|exact HB.out)⟩

/-! ### bitmap_Check: function 39 -/
mutual
def bitmap_Check.j0 : Nat → Bool → Bool → List Int → List (S91) → Option (Int)
 | 0,_,_,_,_=>none
 | k+1,x15,x227000,x227001,x227002=>if x15=true then (some 2) else ((bitmap_colours.f k x227001).bind fun t227=>(if t227=true then (bitmap_Check.l0 k x227002 (x227002.length:Int) 0) else (some 1)))
def bitmap_Check.l0 : Nat → List (S91) → Int → Int → Option (Int)
 | 0,_,_,_=>none
 | k+1,x21,x22,x23=>if x23 < x22 then (if 0≤x23 then (if x23 < (x21.length:Int) then ((bitmap_checkPatch.f k ((rd_T91 x21 x23).f0) ((rd_T91 x21 x23).f1) ((rd_T91 x21 x23).f2) ((rd_T91 x21 x23).f3) ((rd_T91 x21 x23).f4)).bind fun t230=>(if t230=0 then (bitmap_Check.l0 k x21 x22 (wrap64 (x23+1))) else (some t230))) else (none)) else (none)) else (some 0)
end
def bitmap_Check.f (k : Nat) (a0_0 : Bool) (l0_1 : List Int) (l0_2 : List (S91)) : Option (Int) := if (l0_1.length : Int) > 16 then (bitmap_Check.j0 k true a0_0 l0_1 l0_2) else (bitmap_Check.j0 k (decide ((l0_2.length : Int) > 8)) a0_0 l0_1 l0_2)
theorem bitmap_Check.mono_l:∀ k,(∀ y0 y1 y2 y3,LeO (bitmap_Check.j0 k y0 y1 y2 y3) (bitmap_Check.j0 (k+1) y0 y1 y2 y3))∧(∀ y0 y1 y2,LeO (bitmap_Check.l0 k y0 y1 y2) (bitmap_Check.l0 (k+1) y0 y1 y2))
 | 0=>⟨fun _ _ _ _ r h=>by simp [bitmap_Check.j0] at h,fun _ _ _ r h=>by simp [bitmap_Check.l0] at h⟩
 | k+1=>by
  obtain ⟨ih0,ih1⟩:=bitmap_Check.mono_l k
  refine ⟨?_,?_⟩
  · intro y0 y1 y2 y3
    unfold bitmap_Check.j0
    repeat' first
    | (with_reducible exact ih0 _ _ _ _)
    | (with_reducible exact ih1 _ _ _)
    | (with_reducible exact bitmap_checkPatch.mono _ _ _ _ _ _)
    | (with_reducible exact bitmap_colours.mono _ _)
    | (with_reducible exact LeO.refl _)
    | (with_reducible exact LeO.none _)
    | (with_reducible refine LeO.ite ?_ ?_)
    | (with_reducible refine LeO.bind ?_ (fun _=>?_))
    | exact LeO.none _
    | refine LeO.ite ?_ ?_
    | refine LeO.bind ?_ (fun _=>?_)
  intro y0 y1 y2
  unfold bitmap_Check.l0
  repeat' first
  | (with_reducible exact ih0 _ _ _ _)
  | (with_reducible exact ih1 _ _ _)
  | (with_reducible exact bitmap_checkPatch.mono _ _ _ _ _ _)
  | (with_reducible exact bitmap_colours.mono _ _)
  | (with_reducible exact LeO.refl _)
  | (with_reducible exact LeO.none _)
  | (with_reducible refine LeO.ite ?_ ?_)
  | (with_reducible refine LeO.bind ?_ (fun _=>?_))
  | exact LeO.none _
  | refine LeO.ite ?_ ?_
  | refine LeO.bind ?_ (fun _=>?_)
theorem bitmap_Check.mono:∀ a0 a1 a2 k,LeO (bitmap_Check.f k a0 a1 a2) (bitmap_Check.f (k+1) a0 a1 a2):=by
 intro a0 a1 a2 k
 obtain ⟨ih0,ih1⟩:=bitmap_Check.mono_l k
 unfold bitmap_Check.f
 repeat' first
  | (with_reducible exact ih0 _ _ _ _)
  | (with_reducible exact ih1 _ _ _)
  | (with_reducible exact bitmap_checkPatch.mono _ _ _ _ _ _)
  | (with_reducible exact bitmap_colours.mono _ _)
  | (with_reducible exact LeO.refl _)
  | (with_reducible exact LeO.none _)
  | (with_reducible refine LeO.ite ?_ ?_)
  | (with_reducible refine LeO.bind ?_ (fun _=>?_))
  | exact LeO.none _
  | refine LeO.ite ?_ ?_
  | refine LeO.bind ?_ (fun _=>?_)
set_option maxHeartbeats 8000000 in
set_option maxRecDepth 100000 in
theorem bitmap_Check.calls (k:Nat) (a0_0:Bool) (A0_1:Option Addr) (c0_1:Nat) (l0_1:List Int) (A0_2:Option Addr) (c0_2:Nat) (l0_2:List (S91)) (r:Int) (w:World) (hr0_1:Kd.C (Kd.int .i64) w A0_1 l0_1.length l0_1) (hc0_1:l0_1.length≤c0_1) (hr0_2:Kd.C k91 w A0_2 l0_2.length l0_2) (hc0_2:l0_2.length≤c0_2) (h:bitmap_Check.f k a0_0 l0_1 l0_2=some r) :
 Calls Try.prog 39 #[.agg #[.bool a0_0,.slice A0_1 l0_1.length c0_1,.slice A0_2 l0_2.length c0_2]] w fun e w'=>e=.returned (.int .i64 r)∧Below w.heap.size w w':=by
 have hu51:=Try.underlying51
 have hu91:=Try.underlying91
 have HR0_1:=Aside0.mk hr0_1
 have HC0_1:=Aside0.mk hc0_1;clear hr0_1 hc0_1
 have HR0_2:=Aside0.mk hr0_2
 have HC0_2:=Aside0.mk hc0_2;clear hr0_2 hc0_2;have HB:=Aside0.mk (Below.refl w.heap.size w)
 have H:(if (l0_1.length:Int) > 16 then (bitmap_Check.j0 k true a0_0 l0_1 l0_2) else (bitmap_Check.j0 k (decide ((l0_2.length:Int) > 8)) a0_0 l0_1 l0_2))=some r:=h;clear h
 have HC2:=Aside0.mk H;clear H
 go_enter Try.func39,Try.ntmps39
 go_upto_region 1 with (first|((with_reducible refine gate_dst (N:=1) rfl ?_);(try (refine gate_guard (by rfl) ?_;dsimp only));refine box_event ?hg (N:=1) ?hd (cs:=#[.bool a0_0,.slice A0_1 l0_1.length c0_1,.slice A0_2 l0_2.length c0_2]) (t:=51) ?hr ?_;(case hd=>rfl);(case hg=>rfl);(case hr=>first|(go_simp;done)|(go_simp;rfl));intro gb226 hg w3 hbox hb;have n0_:=Aside0.mk (below_step (belV HB.out) hb);have n1_:=Aside0.mk (hbox);have n2_:=Aside0.mk ((by rw [hg];exact (below_size (belV HB.out)):w.heap.size≤gb226));have n3_:=Aside0.mk ((by rw [hg];exact (below_size (belV HB.out)):w.heap.size≤gb226));clear HB;have HB:=n0_;have BK226:=n1_;have GW226:=n2_;have GE226:=n3_;clear n0_ n1_ n2_ n3_;clear hb hbox hg))
 (try simp only [Act.put,List.setIfInBounds_toArray,List.set_cons_zero,List.set_cons_succ])
 go_cut [15] (fun v15 wc=>∃ (kq:Nat) (x15_1:Bool),v15=.bool x15_1∧Aside0 (bitmap_Check.j0 kq x15_1 a0_0 l0_1 l0_2=some r)∧Aside0 (kq≤k)∧Aside0 (wc.heap[gb226]?=some (.cells #[.bool a0_0,(.slice A0_1 l0_1.length c0_1),(.slice A0_2 l0_2.length c0_2)] 51 (0,0)))∧Aside0 (Below w.heap.size w wc))
 case first =>
  have H:=HC2.out;clear HC2
  by_cases c4:(l0_1.length:Int) > 16
  · rw [if_pos c4] at H
    have c4b0:decide (16 < (l0_1.length:Int))=true:=decide_eq_true c4
    have c4b1:decide (16 < l0_1.length)=true:=decide_eq_true (by omega);clear c4
    (first|rw [c4b0]|(simp only [i64_w,i32_w];rw [c4b0])|rw [c4b1]|skip)
    have H':=Aside0.mk H;clear H
    obtain ⟨hcz5_0,hcz5_1,hcz5_2,hfz5_0,hfz5_1,hfz5_2⟩:=bcells3 BK226.out
    go_wp2
    go_meet
    case rel=>exact ⟨_,(true),okV,H',⟨by first|omega|exact Nat.le_refl _⟩,⟨blkV BK226.out⟩,⟨belV1 HB.out GE226.out⟩⟩
  rw [if_neg c4] at H
  have c4b0:decide (16 < (l0_1.length:Int))=false:=decide_eq_false c4
  have c4b1:decide (16 < l0_1.length)=false:=decide_eq_false (by omega);clear c4
  (first|rw [c4b0]|(simp only [i64_w,i32_w];rw [c4b0])|rw [c4b1]|skip)
  have H':=Aside0.mk H;clear H
  obtain ⟨hcz6_0,hcz6_1,hcz6_2,hfz6_0,hfz6_1,hfz6_2⟩:=bcells3 BK226.out
  go_wp2
  go_meet
  case rel=>exact ⟨_,(decide ((l0_2.length:Int) > 8)),okV,H',⟨by first|omega|exact Nat.le_refl _⟩,⟨blkV BK226.out⟩,⟨belV1 HB.out GE226.out⟩⟩
 case rest =>
  clear HC2
  try clear p2;try clear c3;try clear c4;try clear c4b0;try clear c4b1;try clear hcz5_0 hcz5_1 hcz5_2;try clear hcz6_0 hcz6_1 hcz6_2;try clear hfz5_0 hfz5_1 hfz5_2;try clear hfz6_0 hfz6_1 hfz6_2
  obtain ⟨kq,x15_1,rfl,HA,HJ1,BK226,HB⟩:=hcut
  cases kq with
  | zero=>exact absurd HA.out (by simp [bitmap_Check.j0])
  | succ kj1 =>
   have H:=HA.out;clear HA
   simp only [bitmap_Check.j0] at H
   by_cases c7:x15_1=true
   · subst c7
     have H1:(some 2)=some r:=by rw [if_pos rfl] at H;exact H
     clear H
     have H:=H1;clear H1
     obtain rfl:=Option.some.inj H
     go_wp2
     go_ret
     exact ⟨by first|rfl|(simp [errW_none,errW_some] <;> rfl)|(simp [*,errW_none,errW_some] <;> rfl),by repeat (first|(with_reducible first|exact HB.out|apply below_alloc|apply pw_below_drewN|apply below_drew1|refine below_set ?_ GE226.out)|exact HB.out)⟩
   replace c7:=Bool.eq_false_iff.mpr c7;subst c7
   have H1:((bitmap_colours.f kj1 l0_1).bind fun t227=>(if t227=true then (bitmap_Check.l0 kj1 l0_2 (l0_2.length:Int) 0) else (some 1)))=some r:=by rw [if_neg (show ¬ (false=true) by decide)] at H;exact H
   clear H
   have H:=H1;clear H1
   replace H:=Option.bind_eq_some_iff.mp H
   obtain ⟨t227,A80,H⟩:=H
   replace H:(if t227=true then (bitmap_Check.l0 kj1 l0_2 (l0_2.length:Int) 0) else (some 1))=some r:=H
   have A8:=Aside0.mk A80;clear A80
   by_cases c9:t227=true
   · subst c9
     have H1:(bitmap_Check.l0 kj1 l0_2 (l0_2.length:Int) 0)=some r:=by rw [if_pos rfl] at H;exact H
     clear H
     have H:=H1;clear H1
     have H':=Aside0.mk H;clear H
     obtain ⟨hcz10_0,hcz10_1,hcz10_2,hfz10_0,hfz10_1,hfz10_2⟩:=bcells3 BK226.out
     go_wp2_with (first|((with_reducible refine gate_callee (f:=71) rfl ?_);refine goesL_ (some 18) rfl rfl Try.func71 (by kernel_rfl) rfl #[.slice A0_1 l0_1.length c0_1] rfl (by (try simp only [List.map_toArray,List.map_cons,List.map_nil]);first|done|rfl|(simp only [List.length_drop,List.length_take];rfl)) ?_;(with_reducible refine (bitmap_colours.calls kj1 _ _ l0_1 true _ ?side1 ?side2 A8.out).mono ?_);(case side1=>exact cV (Kd.C_below HR0_1.out HB.out));(case side2=>exact HC0_1.out);rintro e w' ⟨rfl,⟨nd,rfl⟩⟩;refine ⟨_,rfl,?_⟩))
     go_loopg [23] kj1 (fun kq v23 w'=>∃ (x23_2:Int),v23=.int .i64 x23_2∧Aside0 (bitmap_Check.l0 kq l0_2 (l0_2.length:Int) x23_2=some r)∧Aside0 (kq≤kj1)∧Aside0 (w'.heap[gb226]?=some (.cells #[.bool a0_0,(.slice A0_1 l0_1.length c0_1),(.slice A0_2 l0_2.length c0_2)] 51 (0,0)))∧Aside0 (Below w.heap.size w w'))
     case atStart=>exact ⟨(0),okV,H',⟨Nat.le_refl _⟩,⟨blkV BK226.out⟩,⟨belV1 HB.out GE226.out⟩⟩
     case round =>
      clear H'
      try clear p2 p2;try clear c3;try clear c4;try clear c4b0;try clear c4b1;try clear c7;try clear c9;try clear hcz10_0 hcz10_1 hcz10_2;try clear hcz5_0 hcz5_1 hcz5_2;try clear hcz6_0 hcz6_1 hcz6_2;try clear hfz10_0 hfz10_1 hfz10_2;try clear hfz5_0 hfz5_1 hfz5_2;try clear hfz6_0 hfz6_1 hfz6_2
      obtain ⟨x23_2,rfl,HA,HK2,BK226,HB⟩:=hrel
      cases gk with
      | zero=>exact absurd HA.out (by simp [bitmap_Check.l0])
      | succ k2 =>
       have H:=HA.out;clear HA
       simp only [bitmap_Check.l0] at H
       by_cases c11:x23_2 < (l0_2.length:Int)
       · rw [if_pos c11] at H
         have c11b0:decide (x23_2 < (l0_2.length:Int))=true:=decide_eq_true c11;clear c11
         by_cases c12:0≤x23_2
         · rw [if_pos c12] at H
           have c12b0:decide (0≤x23_2)=true:=decide_eq_true c12;clear c12
           by_cases c13:x23_2 < (l0_2.length:Int)
           · rw [if_pos c13] at H
             have c13b0:decide (x23_2 < (l0_2.length:Int))=true:=decide_eq_true c13;clear c13
             replace H:=Option.bind_eq_some_iff.mp H
             obtain ⟨t230,A140,H⟩:=H
             replace H:(if t230=0 then (bitmap_Check.l0 k2 l0_2 (l0_2.length:Int) (wrap64 (x23_2+1))) else (some t230))=some r:=H
             have A14:=Aside0.mk A140;clear A140
             by_cases c15:t230=0
             · rw [if_pos c15] at H
               have c15b0:(t230 == 0)=true:=beq_iff_eq.mpr c15
               have c15b1:(t230 != 0)=false:=bne_eq_false_iff_eq.mpr c15;clear c15
               have H':=Aside0.mk H;clear H
               have p228:0≤(x23_2:Int):=of_decide_eq_true asV
               have q228:x23_2 < (l0_2.length:Int):=of_decide_eq_true asV
               obtain ⟨ad228,A228_4,c228_4,e228,hx228_0,hx228_1,hx228_2,hx228_3,hx228_4,hl228_4,hi228_4⟩:=at_T91 HR0_2.out x23_2 p228 q228
               cases e228
               replace hx228_0:=(HB.out.cell (World.block_lt_of_cell? w _ hx228_0)).trans hx228_0
               replace hx228_1:=(HB.out.cell (World.block_lt_of_cell? w _ hx228_1)).trans hx228_1
               replace hx228_2:=(HB.out.cell (World.block_lt_of_cell? w _ hx228_2)).trans hx228_2
               replace hx228_3:=(HB.out.cell (World.block_lt_of_cell? w _ hx228_3)).trans hx228_3
               replace hx228_4:=(HB.out.cell (World.block_lt_of_cell? w _ hx228_4)).trans hx228_4
               have HR228_4:=Aside0.mk hi228_4
               have HC228_4:=Aside0.mk hl228_4;clear hi228_4 hl228_4
               replace p228:=eq_true p228
               replace q228:=eq_true q228
               go_wp2_with (first|((with_reducible refine gate_dst (N:=4) rfl ?_);(try (refine gate_guard (by rfl) ?_;dsimp only));refine box_event ?hg (N:=4) ?hd (cs:=#[.int .i64 0,.int .i64 0,.int .i64 0,.int .i64 0,.slice none 0 0]) (t:=91) ?hr ?_;(case hd=>rfl);(case hg=>rfl);(case hr=>first|(go_simp;done)|(go_simp;rfl));intro gb229 hg w16 hbox hb;have n0_:=Aside0.mk (blk_below (g:=gb226) (blkV BK226.out) hb);have n1_:=Aside0.mk (below_step (belV1 HB.out GE226.out) hb);have n2_:=Aside0.mk (hbox);have n3_:=Aside0.mk ((by rw [hg];exact (below_size (belV1 HB.out GE226.out)):w.heap.size≤gb229));have n4_:=Aside0.mk ((by rw [hg];exact (below_size (belV1 HB.out GE226.out)):w.heap.size≤gb229));have n5_:=Aside0.mk ((by rw [hg];exact Nat.ne_of_lt (blk_lt (g:=gb226) (blkV BK226.out)):gb226≠gb229));have n6_:=Aside0.mk ((by rw [hg];exact Nat.ne_of_gt (blk_lt (g:=gb226) (blkV BK226.out)):gb229≠gb226));clear BK226;clear HB;have BK226:=n0_;have HB:=n1_;have BK229:=n2_;have GW229:=n3_;have GE229:=n4_;have NB226_229:=n5_;have NB229_226:=n6_;clear n0_ n1_ n2_ n3_ n4_ n5_ n6_;clear hb hbox hg;have hnb17:=NB229_226.out;have hnc17:=NB226_229.out;obtain ⟨hcz18_0,hcz18_1,hcz18_2,hcz18_3,hcz18_4,hfz18_0,hfz18_1,hfz18_2,hfz18_3,hfz18_4⟩:=bcells5 BK229.out)|((with_reducible refine gate_callee (f:=72) rfl ?_);refine goesL_ (some 28) rfl rfl Try.func72 (by kernel_rfl) rfl #[.agg #[.int .i64 ((rd_T91 l0_2 x23_2).f0),.int .i64 ((rd_T91 l0_2 x23_2).f1),.int .i64 ((rd_T91 l0_2 x23_2).f2),.int .i64 ((rd_T91 l0_2 x23_2).f3),.slice A228_4 ((rd_T91 l0_2 x23_2).f4).length c228_4]] rfl (by (try simp only [List.map_toArray,List.map_cons,List.map_nil]);first|done|rfl|(simp only [List.length_drop,List.length_take];rfl)) ?_;(with_reducible refine (bitmap_checkPatch.calls k2 ((rd_T91 l0_2 x23_2).f0) ((rd_T91 l0_2 x23_2).f1) ((rd_T91 l0_2 x23_2).f2) ((rd_T91 l0_2 x23_2).f3) _ _ ((rd_T91 l0_2 x23_2).f4) t230 _ ?side1 ?side2 A14.out).mono ?_);(case side1=>exact Kd.C_below HR228_4.out (belV2 HB.out GE226.out GE229.out));(case side2=>exact HC228_4.out);rintro e w19 ⟨rfl,hb⟩;refine ⟨_,rfl,?_⟩;have n0_:=Aside0.mk (blk_below (g:=gb226) (o:=.cells #[.bool a0_0,.slice A0_1 l0_1.length c0_1,.slice (some ad228) l0_2.length c0_2] 51 (0,0)) (blkW BK226.out NB226_229.out) hb);have n1_:=Aside0.mk (blk_below (g:=gb229) (o:=.cells #[.int .i64 ((rd_T91 l0_2 x23_2).f0),.int .i64 ((rd_T91 l0_2 x23_2).f1),.int .i64 ((rd_T91 l0_2 x23_2).f2),.int .i64 ((rd_T91 l0_2 x23_2).f3),.slice A228_4 ((rd_T91 l0_2 x23_2).f4).length c228_4] 91 (0,0)) (by (with_reducible repeat (first|refine blk_drewN ?_ _|refine blk_drew ?_|refine blk_alloc ?_ _));refine blk_put (cs:=#[.int .i64 ((rd_T91 l0_2 x23_2).f0),.int .i64 ((rd_T91 l0_2 x23_2).f1),.int .i64 ((rd_T91 l0_2 x23_2).f2),.int .i64 ((rd_T91 l0_2 x23_2).f3),.slice none 0 0]) ?_ 4 _ rfl;(with_reducible repeat (first|refine blk_drewN ?_ _|refine blk_drew ?_|refine blk_alloc ?_ _));refine blk_put (cs:=#[.int .i64 ((rd_T91 l0_2 x23_2).f0),.int .i64 ((rd_T91 l0_2 x23_2).f1),.int .i64 ((rd_T91 l0_2 x23_2).f2),.int .i64 0,.slice none 0 0]) ?_ 3 _ rfl;(with_reducible repeat (first|refine blk_drewN ?_ _|refine blk_drew ?_|refine blk_alloc ?_ _));refine blk_put (cs:=#[.int .i64 ((rd_T91 l0_2 x23_2).f0),.int .i64 ((rd_T91 l0_2 x23_2).f1),.int .i64 0,.int .i64 0,.slice none 0 0]) ?_ 2 _ rfl;(with_reducible repeat (first|refine blk_drewN ?_ _|refine blk_drew ?_|refine blk_alloc ?_ _));refine blk_put (cs:=#[.int .i64 ((rd_T91 l0_2 x23_2).f0),.int .i64 0,.int .i64 0,.int .i64 0,.slice none 0 0]) ?_ 1 _ rfl;(with_reducible repeat (first|refine blk_drewN ?_ _|refine blk_drew ?_|refine blk_alloc ?_ _));refine blk_put (cs:=#[.int .i64 0,.int .i64 0,.int .i64 0,.int .i64 0,.slice none 0 0]) ?_ 0 _ rfl;(with_reducible repeat (first|refine blk_drewN ?_ _|refine blk_drew ?_|refine blk_alloc ?_ _));exact BK229.out) hb);have n2_:=Aside0.mk (below_step (belV2 HB.out GE226.out GE229.out) hb);clear BK226;clear BK229;clear HB;have BK226:=n0_;have BK229:=n1_;have HB:=n2_;clear n0_ n1_ n2_;(try clear hb);(try clear hb2);(try clear hk);(try clear hi)))
               go_roundg k2
               case measure=>have:=HJ1.out;have:=HK2.out;omega
               case rel=>exact ⟨(wrap64 (x23_2+1)),okV,H',⟨by have:=HJ1.out;have:=HK2.out;omega⟩,⟨blkV BK226.out⟩,⟨belV2 HB.out GE226.out GE229.out⟩⟩
             rw [if_neg c15] at H
             have c15b0:(t230 == 0)=false:=beq_eq_false_iff_ne.mpr c15
             have c15b1:(t230 != 0)=true:=bne_iff_ne.mpr c15
             obtain rfl:=Option.some.inj H
             have p228:0≤(x23_2:Int):=of_decide_eq_true asV
             have q228:x23_2 < (l0_2.length:Int):=of_decide_eq_true asV
             obtain ⟨ad228,A228_4,c228_4,e228,hx228_0,hx228_1,hx228_2,hx228_3,hx228_4,hl228_4,hi228_4⟩:=at_T91 HR0_2.out x23_2 p228 q228
             cases e228
             replace hx228_0:=(HB.out.cell (World.block_lt_of_cell? w _ hx228_0)).trans hx228_0
             replace hx228_1:=(HB.out.cell (World.block_lt_of_cell? w _ hx228_1)).trans hx228_1
             replace hx228_2:=(HB.out.cell (World.block_lt_of_cell? w _ hx228_2)).trans hx228_2
             replace hx228_3:=(HB.out.cell (World.block_lt_of_cell? w _ hx228_3)).trans hx228_3
             replace hx228_4:=(HB.out.cell (World.block_lt_of_cell? w _ hx228_4)).trans hx228_4
             have HR228_4:=Aside0.mk hi228_4
             have HC228_4:=Aside0.mk hl228_4;clear hi228_4 hl228_4
             replace p228:=eq_true p228
             replace q228:=eq_true q228
             go_wp2_with (first|((with_reducible refine gate_dst (N:=4) rfl ?_);(try (refine gate_guard (by rfl) ?_;dsimp only));refine box_event ?hg (N:=4) ?hd (cs:=#[.int .i64 0,.int .i64 0,.int .i64 0,.int .i64 0,.slice none 0 0]) (t:=91) ?hr ?_;(case hd=>rfl);(case hg=>rfl);(case hr=>first|(go_simp;done)|(go_simp;rfl));intro gb229 hg w20 hbox hb;have n0_:=Aside0.mk (blk_below (g:=gb226) (blkV BK226.out) hb);have n1_:=Aside0.mk (below_step (belV1 HB.out GE226.out) hb);have n2_:=Aside0.mk (hbox);have n3_:=Aside0.mk ((by rw [hg];exact (below_size (belV1 HB.out GE226.out)):w.heap.size≤gb229));have n4_:=Aside0.mk ((by rw [hg];exact (below_size (belV1 HB.out GE226.out)):w.heap.size≤gb229));have n5_:=Aside0.mk ((by rw [hg];exact Nat.ne_of_lt (blk_lt (g:=gb226) (blkV BK226.out)):gb226≠gb229));have n6_:=Aside0.mk ((by rw [hg];exact Nat.ne_of_gt (blk_lt (g:=gb226) (blkV BK226.out)):gb229≠gb226));clear BK226;clear HB;have BK226:=n0_;have HB:=n1_;have BK229:=n2_;have GW229:=n3_;have GE229:=n4_;have NB226_229:=n5_;have NB229_226:=n6_;clear n0_ n1_ n2_ n3_ n4_ n5_ n6_;clear hb hbox hg;have hnb21:=NB229_226.out;have hnc21:=NB226_229.out;obtain ⟨hcz22_0,hcz22_1,hcz22_2,hcz22_3,hcz22_4,hfz22_0,hfz22_1,hfz22_2,hfz22_3,hfz22_4⟩:=bcells5 BK229.out)|((with_reducible refine gate_callee (f:=72) rfl ?_);refine goesL_ (some 28) rfl rfl Try.func72 (by kernel_rfl) rfl #[.agg #[.int .i64 ((rd_T91 l0_2 x23_2).f0),.int .i64 ((rd_T91 l0_2 x23_2).f1),.int .i64 ((rd_T91 l0_2 x23_2).f2),.int .i64 ((rd_T91 l0_2 x23_2).f3),.slice A228_4 ((rd_T91 l0_2 x23_2).f4).length c228_4]] rfl (by (try simp only [List.map_toArray,List.map_cons,List.map_nil]);first|done|rfl|(simp only [List.length_drop,List.length_take];rfl)) ?_;(with_reducible refine (bitmap_checkPatch.calls k2 ((rd_T91 l0_2 x23_2).f0) ((rd_T91 l0_2 x23_2).f1) ((rd_T91 l0_2 x23_2).f2) ((rd_T91 l0_2 x23_2).f3) _ _ ((rd_T91 l0_2 x23_2).f4) t230 _ ?side1 ?side2 A14.out).mono ?_);(case side1=>exact Kd.C_below HR228_4.out (belV2 HB.out GE226.out GE229.out));(case side2=>exact HC228_4.out);rintro e w23 ⟨rfl,hb⟩;refine ⟨_,rfl,?_⟩;have n0_:=Aside0.mk (blk_below (g:=gb226) (o:=.cells #[.bool a0_0,.slice A0_1 l0_1.length c0_1,.slice (some ad228) l0_2.length c0_2] 51 (0,0)) (blkW BK226.out NB226_229.out) hb);have n1_:=Aside0.mk (blk_below (g:=gb229) (o:=.cells #[.int .i64 ((rd_T91 l0_2 x23_2).f0),.int .i64 ((rd_T91 l0_2 x23_2).f1),.int .i64 ((rd_T91 l0_2 x23_2).f2),.int .i64 ((rd_T91 l0_2 x23_2).f3),.slice A228_4 ((rd_T91 l0_2 x23_2).f4).length c228_4] 91 (0,0)) (by (with_reducible repeat (first|refine blk_drewN ?_ _|refine blk_drew ?_|refine blk_alloc ?_ _));refine blk_put (cs:=#[.int .i64 ((rd_T91 l0_2 x23_2).f0),.int .i64 ((rd_T91 l0_2 x23_2).f1),.int .i64 ((rd_T91 l0_2 x23_2).f2),.int .i64 ((rd_T91 l0_2 x23_2).f3),.slice none 0 0]) ?_ 4 _ rfl;(with_reducible repeat (first|refine blk_drewN ?_ _|refine blk_drew ?_|refine blk_alloc ?_ _));refine blk_put (cs:=#[.int .i64 ((rd_T91 l0_2 x23_2).f0),.int .i64 ((rd_T91 l0_2 x23_2).f1),.int .i64 ((rd_T91 l0_2 x23_2).f2),.int .i64 0,.slice none 0 0]) ?_ 3 _ rfl;(with_reducible repeat (first|refine blk_drewN ?_ _|refine blk_drew ?_|refine blk_alloc ?_ _));refine blk_put (cs:=#[.int .i64 ((rd_T91 l0_2 x23_2).f0),.int .i64 ((rd_T91 l0_2 x23_2).f1),.int .i64 0,.int .i64 0,.slice none 0 0]) ?_ 2 _ rfl;(with_reducible repeat (first|refine blk_drewN ?_ _|refine blk_drew ?_|refine blk_alloc ?_ _));refine blk_put (cs:=#[.int .i64 ((rd_T91 l0_2 x23_2).f0),.int .i64 0,.int .i64 0,.int .i64 0,.slice none 0 0]) ?_ 1 _ rfl;(with_reducible repeat (first|refine blk_drewN ?_ _|refine blk_drew ?_|refine blk_alloc ?_ _));refine blk_put (cs:=#[.int .i64 0,.int .i64 0,.int .i64 0,.int .i64 0,.slice none 0 0]) ?_ 0 _ rfl;(with_reducible repeat (first|refine blk_drewN ?_ _|refine blk_drew ?_|refine blk_alloc ?_ _));exact BK229.out) hb);have n2_:=Aside0.mk (below_step (belV2 HB.out GE226.out GE229.out) hb);clear BK226;clear BK229;clear HB;have BK226:=n0_;have BK229:=n1_;have HB:=n2_;clear n0_ n1_ n2_;(try clear hb);(try clear hb2);(try clear hk);(try clear hi)))
             go_ret
             exact ⟨by first|rfl|(simp [errW_none,errW_some] <;> rfl)|(simp [*,errW_none,errW_some] <;> rfl),by repeat (first|(with_reducible first|exact HB.out|apply below_alloc|apply pw_below_drewN|apply below_drew1|refine below_set ?_ GE226.out|refine below_set ?_ GE229.out)|exact HB.out)⟩
           rw [if_neg c13] at H
           exact absurd H (by simp)
         rw [if_neg c12] at H
         exact absurd H (by simp)
       rw [if_neg c11] at H
       have c11b0:decide (x23_2 < (l0_2.length:Int))=false:=decide_eq_false c11;clear c11
       obtain rfl:=Option.some.inj H
       go_wp2
       go_ret
       exact ⟨by first|rfl|(simp [errW_none,errW_some] <;> rfl)|(simp [*,errW_none,errW_some] <;> rfl),by repeat (first|(with_reducible first|exact HB.out|apply below_alloc|apply pw_below_drewN|apply below_drew1|refine below_set ?_ GE226.out)|exact HB.out)⟩
   replace c9:=Bool.eq_false_iff.mpr c9;subst c9
   have H1:(some 1)=some r:=by rw [if_neg (show ¬ (false=true) by decide)] at H;exact H
   clear H
   have H:=H1;clear H1
   obtain rfl:=Option.some.inj H
   obtain ⟨hcz24_0,hcz24_1,hcz24_2,hfz24_0,hfz24_1,hfz24_2⟩:=bcells3 BK226.out
   go_wp2_with (first|((with_reducible refine gate_callee (f:=71) rfl ?_);refine goesL_ (some 18) rfl rfl Try.func71 (by kernel_rfl) rfl #[.slice A0_1 l0_1.length c0_1] rfl (by (try simp only [List.map_toArray,List.map_cons,List.map_nil]);first|done|rfl|(simp only [List.length_drop,List.length_take];rfl)) ?_;(with_reducible refine (bitmap_colours.calls kj1 _ _ l0_1 false _ ?side1 ?side2 A8.out).mono ?_);(case side1=>exact cV (Kd.C_below HR0_1.out HB.out));(case side2=>exact HC0_1.out);rintro e w' ⟨rfl,⟨nd,rfl⟩⟩;refine ⟨_,rfl,?_⟩))
   go_ret
   exact ⟨by first|rfl|(simp [errW_none,errW_some] <;> rfl)|(simp [*,errW_none,errW_some] <;> rfl),by repeat (first|(with_reducible first|exact HB.out|apply below_alloc|apply pw_below_drewN|apply below_drew1|refine below_set ?_ GE226.out)|exact HB.out)⟩

/-! ### bitmap_wipe: function 54 -/
def bitmap_wipe.l0 : Nat → List Int → Int → Int → Option (List Int)
  | 0, _, _, _ => none
  | k + 1, x0, x5, x6 => if x6 < x5 then (if 0 ≤ x6 then (if x6 < (x0.length : Int) then (bitmap_wipe.l0 k (x0.set (x6 : Int).toNat (-1)) x5 (wrap64 (x6 + 1))) else (none)) else (none)) else (some x0)
def bitmap_wipe.f (k : Nat) (l0 : List Int) : Option (List Int) := bitmap_wipe.l0 k l0 (l0.length : Int) 0
theorem bitmap_wipe.mono_l : ∀ k, (∀ y0 y1 y2, LeO (bitmap_wipe.l0 k y0 y1 y2) (bitmap_wipe.l0 (k + 1) y0 y1 y2))
  | 0 => fun _ _ _ r h => by simp [bitmap_wipe.l0] at h
  | k + 1 => by
    have ih0 := bitmap_wipe.mono_l k
    · intro y0 y1 y2
      unfold bitmap_wipe.l0
      repeat' first
      | (with_reducible exact ih0 _ _ _)
      | (with_reducible exact LeO.refl _)
      | (with_reducible exact LeO.none _)
      | (with_reducible refine LeO.ite ?_ ?_)
      | (with_reducible refine LeO.bind ?_ (fun _ => ?_))
      | exact ih0 _ _ _
      | exact LeO.none _
      | refine LeO.ite ?_ ?_
      | refine LeO.bind ?_ (fun _ => ?_)
theorem bitmap_wipe.mono : ∀ a0 k, LeO (bitmap_wipe.f k a0) (bitmap_wipe.f (k + 1) a0) := by
  intro a0 k
  have ih0 := bitmap_wipe.mono_l k
  unfold bitmap_wipe.f
  repeat' first
      | (with_reducible exact ih0 _ _ _)
      | (with_reducible exact LeO.refl _)
      | (with_reducible exact LeO.none _)
      | (with_reducible refine LeO.ite ?_ ?_)
      | (with_reducible refine LeO.bind ?_ (fun _ => ?_))
      | exact ih0 _ _ _
      | exact LeO.none _
      | refine LeO.ite ?_ ?_
      | refine LeO.bind ?_ (fun _ => ?_)
variable {P : Program} {W w0 : World} {base n cap g : Nat} {ok S : Nat → Prop} {x : List Int}
theorem wipe_set : ∀ (m i : Nat) {W : World} {x : List Int}, (Kd.int .i64).R 3 W base ok (.slice (some ⟨g, 0, none⟩) n cap) x → x.length = i + m → i + m = n → (Kd.int .i64).R 3 (W.setCells g i (List.replicate m (.int .i64 0))) base ok (.slice (some ⟨g, 0, none⟩) n cap) (x.take i ++ List.replicate m 0) ∧ W.grownBy (W.setCells g i (List.replicate m (.int .i64 0))) (some g)
  | 0, i, W, x, h, hx, hn => by
    refine ⟨?_, World.grownBy.refl _ _⟩
    rw [List.replicate_zero, List.replicate_zero, List.append_nil, List.take_of_length_le (by omega)]
    exact h
  | m + 1, i, W, x, h, hx, hn => by
    obtain ⟨h1, h2⟩ := Kd.R_putg h (i : Int) 0
    rw [Int.toNat_natCast] at h1 h2
    obtain ⟨i1, i2⟩ := wipe_set m (i + 1) h1 (by simp; omega) (by omega)
    rw [List.replicate_succ, List.replicate_succ]
    refine ⟨?_, h2.trans i2⟩
    have e : (x.set i 0).take (i + 1) ++ List.replicate m (0 : Int) = x.take i ++ 0 :: List.replicate m 0 := by
      rw [List.take_add_one, List.getElem?_set_self (by omega), List.take_set_of_le (Nat.le_refl i)]
      simp
    rw [← e]
    exact i1
/-- clear of a row in a block of its own. -/
theorem wipe_clear {t : TypeId} (ht : P.underlying t = some (.slice 3)) (hv : ∀ w, (zeroValue 3).run P w = .ok (.int .i64 0) w) {A : Option Addr} (h : (Kd.int .i64).R 3 W base ok (.slice A x.length cap) x) (hB : Below base w0 W) (hs : base ≤ W.heap.size) (hS : ∀ k, ok k → S k ∨ W.heap.size ≤ k) :
    ∃ W1, (∀ ty, (Builtin.clear_ #[t] ty #[.slice A x.length cap]).run P W = .ok (.tuple #[]) W1) ∧ (Kd.int .i64).R 3 W1 base ok (.slice A x.length cap) (List.replicate x.length 0) ∧ Below base w0 W1 ∧ Kept W W1 S := by
  by_cases hz : x.length = 0
  · refine ⟨W, fun ty => ?_, ?_, hB, Kept.refl _ _⟩
    · rw [hz]
      cases A with
      | none => simp [Builtin.clear_, run_underlying ht]
      | some a => simp [Builtin.clear_, run_underlying ht]
    · have e : x = [] := List.eq_nil_of_length_eq_zero hz
      subst e
      exact h
  · obtain ⟨g, cap', e, hg1, hg2, cells, hc⟩ := Kd.R_form h (by omega)
    injection e with e1 e2 e3
    subst e1
    obtain ⟨r1, r2⟩ := wipe_set x.length 0 h (by omega) (by omega)
    have hown : ok g := h.1 _ rfl
    refine ⟨_, fun ty => ?_, by simpa using r1, hB.grown r2 hs (fun k hk => by injection hk with hk; omega), Kept.of_grown r2 (Kept.refl _ _) (fun k hk => by injection hk with hk; subst hk; exact hS _ hown)⟩
    exact Lib.run_clear_slice W t 3 ty (.int .i64 0) ht hv rfl rfl g 0 x.length cap (by omega) (fun j hj => by
      have := (Kd.R_celln 0 h (j : Int) (by omega) (by omega)).1
      rw [Int.toNat_natCast] at this
      rw [Nat.zero_add, this]; rfl) (fun j hj => by
      have := (Kd.R_celln 0 h (j : Int) (by omega) (by omega)).2
      rw [Int.toNat_natCast] at this
      rw [Nat.zero_add, this])
theorem wipe_l0 : ∀ (k : Nat) (x y : List Int) (n i : Nat), i ≤ 9223372036854775807 → x.take i = y.take i → x.length = n → y.length = n → ∀ {r}, bitmap_wipe.l0 k x (n : Int) (i : Int) = some r → bitmap_wipe.l0 k y (n : Int) (i : Int) = some r
  | 0, _, _, _, _, _, _, _, _, _, h => by simp [bitmap_wipe.l0] at h
  | k + 1, x, y, n, i, hi, ht, hx, hy, r, h => by
    rw [bitmap_wipe.l0] at h ⊢
    by_cases c : (i : Int) < (n : Int)
    · rw [if_pos c, if_pos (by omega), if_pos (by omega)] at h ⊢
      by_cases hw : (i : Int) + 1 ≤ 9223372036854775807
      · rw [show wrap64 ((i : Int) + 1) = ((i + 1 : Nat) : Int) by unfold wrap64; omega] at h ⊢
        rw [Int.toNat_natCast] at h ⊢
        refine wipe_l0 k _ _ n (i + 1) (by omega) ?_ (by simpa using hx) (by simpa using hy) h
        rw [List.take_add_one, List.take_add_one, List.getElem?_set_self (by omega), List.getElem?_set_self (by omega), List.take_set_of_le (Nat.le_refl i), List.take_set_of_le (Nat.le_refl i), ht]
      · have e : wrap64 ((i : Int) + 1) = -9223372036854775808 := by unfold wrap64; omega
        rw [e] at h
        cases k with
        | zero => simp [bitmap_wipe.l0] at h
        | succ k =>
          rw [bitmap_wipe.l0] at h
          rw [if_pos (by omega), if_neg (by omega)] at h
          simp at h
    · rw [if_neg c] at h ⊢
      rw [List.take_of_length_le (by omega), List.take_of_length_le (by omega)] at ht
      rw [← ht]; exact h

set_option maxHeartbeats 8000000 in
set_option maxRecDepth 100000 in
theorem bitmap_wipe.calls (k : Nat) (P0_ : Nat → Prop) (u9000_ : Value) (l0 : List Int) (r : List Int) (w0 w : World) (hB : Below w0.heap.size w0 w) (ho0 : Kd.R (Kd.int .i64) 3 w w0.heap.size P0_ u9000_ l0) (h : bitmap_wipe.f k l0 = some r) :
    Calls Try.prog 54 #[u9000_] w fun e w' => e = .returned (.tuple #[]) ∧ Kd.R (Kd.int .i64) 3 w' w0.heap.size (fun k_ => (P0_ k_ ∨ w.heap.size ≤ k_)) u9000_ r ∧ Below w0.heap.size w0 w' ∧ Kept w w' (fun k_ => P0_ k_) := by
  have HO0 := Aside0.mk (show Kd.R (Kd.int .i64) 3 w w0.heap.size (fun k_ => (P0_ k_ ∨ w.heap.size ≤ k_)) u9000_ l0 from Kd.R_mono ho0 (fun k_ hk => (.inl hk)))
  have HK := Aside0.mk (Kept.refl w (fun k_ => P0_ k_))
  have HW0 := Aside0.mk hB.size
  have HB := Aside0.mk hB
  clear hB
  have H : (bitmap_wipe.l0 k l0 (l0.length : Int) 0) = some r := h
  clear h
  have H' := Aside0.mk H
  clear H
  obtain ⟨Ao2, co2, eo2⟩ := Kd.R_slice HO0.out
  subst eo2
  obtain ⟨W1, hcl, hR1, hB1, hK1⟩ := wipe_clear (P := Try.prog) (t := 22) Try.underlying22 (fun w => by kernel_rfl) (S := fun k_ => P0_ k_) HO0.out HB.out HW0.out (fun k hk => hk)
  replace H' := Aside0.mk (wipe_l0 k l0 (List.replicate l0.length 0) l0.length 0 (by omega) (by simp) rfl (by simp) H'.out)
  replace HO0 := Aside0.mk hR1
  replace HB := Aside0.mk hB1
  replace HK := Aside0.mk hK1
  clear hR1 hB1 hK1 ho0
  go_enter Try.func54, Try.ntmps54
  go_wp2
  clear hcl
  go_loopg [6] k (fun kq v6 w' => ∃ (x0_1 : List Int) (x6_1 : Int), v6 = .int .i64 x6_1 ∧ Aside0 (bitmap_wipe.l0 kq x0_1 (l0.length : Int) x6_1 = some r) ∧ Aside0 (kq ≤ k) ∧ Aside0 (Kd.R (Kd.int .i64) 3 w' w0.heap.size (fun k_ => (P0_ k_ ∨ w.heap.size ≤ k_)) (.slice Ao2 l0.length co2) x0_1) ∧ Aside0 (Kept w w' (fun k_ => P0_ k_)) ∧ Aside0 (Below w0.heap.size w0 w'))
  case atStart => exact ⟨(List.replicate l0.length 0), (0), (by first | rfl | (simp; done) | (simp [*]; done) | (simp; kernel_rfl)), H', ⟨Nat.le_refl _⟩, ⟨by (with_reducible repeat (first | apply Kd.R_alloc | apply Kd.R_drewN | apply Kd.R_drew)); exact HO0.out⟩, ⟨by repeat (first | (with_reducible first | exact HK.out | apply Kept.alloc | apply Kept.drewN | apply Kept.drew) | exact HK.out)⟩, ⟨by repeat (first | (with_reducible first | exact HB.out | apply below_alloc | apply pw_below_drewN | apply below_drew1) | exact HB.out)⟩⟩
  case round =>
    clear H'
    try clear p2
    obtain ⟨x0_1, x6_1, rfl, HA, HK1, HO_0, HK, HB⟩ := hrel
    have hl0_1 := (Kd.R_reads' HO_0.out).1
    rw [hl0_1] at HO_0
    (try simp only [hl0_1])
    cases gk with
    | zero => exact absurd HA.out (by simp [bitmap_wipe.l0])
    | succ k1 =>
      have H := HA.out
      clear HA
      simp only [bitmap_wipe.l0] at H
      by_cases c3 : x6_1 < (l0.length : Int)
      · rw [if_pos c3] at H
        have c3b0 : decide (x6_1 < (l0.length : Int)) = true := decide_eq_true c3
        rw [hl0_1] at c3b0
        clear c3
        by_cases c4 : 0 ≤ x6_1
        · rw [if_pos c4] at H
          have c4b0 : decide (0 ≤ x6_1) = true := decide_eq_true c4
          clear c4
          by_cases c5 : x6_1 < (x0_1.length : Int)
          · rw [if_pos c5] at H
            have c5b0 : decide (x6_1 < (x0_1.length : Int)) = true := decide_eq_true c5
            clear c5
            obtain ⟨y231, hy231⟩ : ∃ y_ : List Int, y_ = (x0_1.set (x6_1 : Int).toNat (-1)) := ⟨_, rfl⟩
            replace H : (bitmap_wipe.l0 k1 y231 (l0.length : Int) (wrap64 (x6_1 + 1))) = some r := by first | (rw [hy231]; with_reducible exact H) | (have H2_ := (Option.bind_some _ _).symm.trans H; rw [hy231]; with_reducible exact H2_) | (have H2_ := (Option.bind_some _ _).symm.trans H; with_reducible exact H2_) | with_reducible exact H | (rw [hy231]; exact H) | exact H
            have Ny231 := Aside0.mk hy231
            clear hy231
            have H' := Aside0.mk H
            clear H
            have p6 : 0 ≤ (x6_1 : Int) := of_decide_eq_true (by first | (with_reducible assumption) | assumption)
            have q6 : (x6_1 : Int) < ((x0_1.length : Int) : Int) := of_decide_eq_true (by first | (with_reducible assumption) | assumption)
            obtain ⟨go6, co6, eo6, gb6, gl6, cl6, HG6⟩ := Kd.R_form HO_0.out (by omega)
            (first | cases eo6 | (injection eo6 with ea_ en_ ec_; (first | subst ea_ | (injection ea_ with ea_; subst ea_)); subst ec_; clear en_))
            have GB6 := Aside0.mk gb6
            have GG6 := Aside0.mk HG6
            clear gb6 gl6 HG6
            have HMgo6 := Aside0.mk (show (P0_ go6 ∨ w.heap.size ≤ go6) from (HO_0.out.1 _ rfl))
            obtain ⟨hx6_0, hf6_0⟩ := Kd.R_celln 0 HO_0.out (x6_1 : Int) p6 q6
            replace p6 := eq_true p6
            replace q6 := eq_true q6
            have HP7 := Kd.R_putg HO_0.out (x6_1 : Int) (-1)
            go_wp2_with (first | ((with_reducible refine gate_store (t := 3) (p := 11) rfl ?_); refine store_event (t := 3) (p := 11) (v := ?vo_w8) (w1 := (wr.setCell ⟨go6, (x6_1 : Int).toNat, none⟩ (.int .i64 (-1)))) ?hg ?ho ?hn ?hr ?_; (case ho => rfl); (case hg => rfl); (case hn => rfl); (case hr => first | (go_simp; done) | (go_simp; rfl)); intro w8 hw; have hg : wr.grownBy w8 (some go6) := (by rw [hw]; exact HP7.2); have hp_ : Kd.R (Kd.int .i64) 3 w8 w0.heap.size (fun k_ => (P0_ k_ ∨ w.heap.size ≤ k_)) (.slice (some ⟨go6, 0, none⟩) x0_1.length co2) y231 := (by rw [hw, Ny231.out]; exact HP7.1); clear HP7; have n0_ := Aside0.mk (hp_); have n1_ := Aside0.mk ((by rw [hw]; exact below_set (HB.out) GB6.out : Below w0.heap.size w0 w8)); have n2_ := Aside0.mk (Kept.of_grown (S := (fun k_ => P0_ k_)) hg (by repeat (first | (with_reducible first | exact HK.out | apply Kept.alloc | apply Kept.drewN | apply Kept.drew) | exact HK.out)) (fun k_ e_ => (HO_0.out.1 k_ e_))); clear HO_0; clear HB; clear HK; have HO_0 := n0_; have HB := n1_; have HK := n2_; clear n0_ n1_ n2_; clear hg hw hp_))
            (try simp only [← hl0_1])
            go_roundg k1
            case measure => have := HK1.out; omega
            case rel => exact ⟨(y231), (wrap64 (x6_1 + 1)), (by first | rfl | (simp; done) | (simp [*]; done) | (simp; kernel_rfl)), H', ⟨by have := HK1.out; omega⟩, ⟨by (try simp only [hl0_1]); (with_reducible repeat (first | apply Kd.R_alloc | apply Kd.R_drewN | apply Kd.R_drew)); exact HO_0.out⟩, ⟨by repeat (first | (with_reducible first | exact HK.out | apply Kept.alloc | apply Kept.drewN | apply Kept.drew) | exact HK.out)⟩, ⟨by repeat (first | (with_reducible first | exact HB.out | apply below_alloc | apply pw_below_drewN | apply below_drew1) | exact HB.out)⟩⟩
          · rw [if_neg c5] at H
            exact absurd H (by simp)
        · rw [if_neg c4] at H
          exact absurd H (by simp)
      · rw [if_neg c3] at H
        have c3b0 : decide (x6_1 < (l0.length : Int)) = false := decide_eq_false c3
        rw [hl0_1] at c3b0
        clear c3
        obtain rfl := Option.some.inj H
        go_wp2
        first | go_end0 | ((try simp only [Exit.inBlock, Exit.then]); refine bodyPost_ret (results_none rfl _ _ _) rfl ?_)
        exact ⟨by first | rfl | (simp [errW_none, errW_some] <;> rfl) | (simp [*, errW_none, errW_some] <;> rfl), (by first | exact (by (with_reducible repeat (first | apply Kd.R_alloc | apply Kd.R_drewN | apply Kd.R_drew)); exact HO_0.out) | (simp only [hl0_1]; exact (by (with_reducible repeat (first | apply Kd.R_alloc | apply Kd.R_drewN | apply Kd.R_drew)); exact HO_0.out))), by repeat (first | (with_reducible first | exact HB.out | apply below_alloc | apply pw_below_drewN | apply below_drew1) | exact HB.out), by repeat (first | (with_reducible first | exact HK.out | apply Kept.alloc | apply Kept.drewN | apply Kept.drew) | exact HK.out)⟩

/-! ### bitmap_sound_1: function 85 -/
def bitmap_sound_1.f (a0 : Int) : Option (Bool) := (bitmap_within.f a0 (-1) 15).bind fun t232 => (some (!t232))
set_option maxHeartbeats 8000000 in
set_option maxRecDepth 100000 in
theorem bitmap_sound_1.calls (a0 : Int) (r : Bool) (w : World) (h : bitmap_sound_1.f a0 = some r) :
    Calls Try.prog 85 #[.int .i64 a0] w fun e w' => e = .returned (.bool r) ∧ Drawn0 w w' := by
  have H : ((bitmap_within.f a0 (-1) 15).bind fun t232 => (some (!t232))) = some r := h
  clear h
  replace H := Option.bind_eq_some_iff.mp H
  obtain ⟨t232, A20, H⟩ := H
  replace H : (some (!t232)) = some r := H
  have A2 := Aside0.mk A20
  clear A20
  obtain rfl := Option.some.inj H
  go_enter Try.func85, Try.ntmps85
  go_wp2_with (first | ((with_reducible refine gate_callee (f := 47) rfl ?_); refine goesL_ (some 4) rfl rfl Try.func47 (by kernel_rfl) rfl #[.int .i64 a0, .int .i64 (-1), .int .i64 15] rfl (by (try simp only [List.map_toArray, List.map_cons, List.map_nil]); first | done | rfl | (simp only [List.length_drop, List.length_take]; rfl)) ?_; (with_reducible refine (bitmap_within.calls a0 (-1) 15 t232 _ A2.out).mono ?_); rintro e w' ⟨rfl, ⟨nd, rfl⟩⟩; refine ⟨_, rfl, ?_⟩))
  go_ret
  exact ⟨by first | rfl | (simp; done) | (simp [*]; done), by repeat (first | exact Drawn0.refl _ | apply Drawn0.step)⟩

end Go.Proofs.Ytaebgjdaoloceaa.QBmpD
