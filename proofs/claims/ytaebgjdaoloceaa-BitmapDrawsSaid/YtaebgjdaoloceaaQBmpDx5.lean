/- Part of a proof: functions of the program as Lean functions, and that the machine's calls come to them. Made by a program of this session (wip/mp). -/
import Derived.Test.YtaebgjdaoloceaaQBmpDx0
import Derived.Test.YtaebgjdaoloceaaQBmpDx4
namespace Go.Proofs.Ytaebgjdaoloceaa.QBmpD
open Go.RowKit Go.Proofs.YtaebgjdaoloceaaV Go.Proofs.YtaebgjdaoloceaaW.PrintWords Go.Proofs.YtaebgjdaoloceaaW.PrintLast Go.Proofs.YtaebgjdaoloceaaW.PrintMore
attribute [local go_sem] max2_int min2_int max_two min_two max_three min_three max_four min_four   -- for this text's walks alone
set_option linter.unusedVariables false
set_option linter.unusedSimpArgs false

/-! ### dioramaref19_place: function 73 -/
def dioramaref19_place.f (a0_0 : Int) (a0_1 : Int) (a0_2 : Int) (a0_3 : Int) (l0_4 : List Int) : Option (Int) := (dioramaref19_in.f a0_0 0 999).bind fun t263 => (if t263 = true then ((dioramaref19_in.f a0_1 0 999).bind fun t264 => (if t264 = true then ((dioramaref19_in.f a0_2 1 64).bind fun t265 => (if t265 = true then ((dioramaref19_in.f a0_3 1 64).bind fun t266 => (if t266 = true then (some 0) else (some 1))) else (some 1))) else (some 1))) else (some 1))
set_option maxHeartbeats 8000000 in
set_option maxRecDepth 100000 in
theorem dioramaref19_place.calls (a0_0:Int) (a0_1:Int) (a0_2:Int) (a0_3:Int) (A0_4:Option Addr) (c0_4:Nat) (l0_4:List Int) (r:Int) (w:World) (hr0_4:Kd.C (Kd.int .i64) w A0_4 l0_4.length l0_4) (hc0_4:l0_4.length≤c0_4) (h:dioramaref19_place.f a0_0 a0_1 a0_2 a0_3 l0_4=some r) :
 Calls Try.prog 73 #[.agg #[.int .i64 a0_0,.int .i64 a0_1,.int .i64 a0_2,.int .i64 a0_3,.slice A0_4 l0_4.length c0_4]] w fun e w'=>e=.returned (.int .i64 r)∧Below w.heap.size w w':=by
 have hu91:=Try.underlying91
 have HR0_4:=Aside0.mk hr0_4
 have HC0_4:=Aside0.mk hc0_4;clear hr0_4 hc0_4;have HB:=Aside0.mk (Below.refl w.heap.size w)
 have H:((dioramaref19_in.f a0_0 0 999).bind fun t263=>(if t263=true then ((dioramaref19_in.f a0_1 0 999).bind fun t264=>(if t264=true then ((dioramaref19_in.f a0_2 1 64).bind fun t265=>(if t265=true then ((dioramaref19_in.f a0_3 1 64).bind fun t266=>(if t266=true then (some 0) else (some 1))) else (some 1))) else (some 1))) else (some 1)))=some r:=h
 clear h
 replace H:=Option.bind_eq_some_iff.mp H
 obtain ⟨t263,A20,H⟩:=H
 replace H:(if t263=true then ((dioramaref19_in.f a0_1 0 999).bind fun t264=>(if t264=true then ((dioramaref19_in.f a0_2 1 64).bind fun t265=>(if t265=true then ((dioramaref19_in.f a0_3 1 64).bind fun t266=>(if t266=true then (some 0) else (some 1))) else (some 1))) else (some 1))) else (some 1))=some r:=H
 have A2:=Aside0.mk A20;clear A20
 by_cases c3:t263=true
 · subst c3
   have H1:((dioramaref19_in.f a0_1 0 999).bind fun t264=>(if t264=true then ((dioramaref19_in.f a0_2 1 64).bind fun t265=>(if t265=true then ((dioramaref19_in.f a0_3 1 64).bind fun t266=>(if t266=true then (some 0) else (some 1))) else (some 1))) else (some 1)))=some r:=by rw [if_pos rfl] at H;exact H
   clear H
   have H:=H1;clear H1
   replace H:=Option.bind_eq_some_iff.mp H
   obtain ⟨t264,A40,H⟩:=H
   replace H:(if t264=true then ((dioramaref19_in.f a0_2 1 64).bind fun t265=>(if t265=true then ((dioramaref19_in.f a0_3 1 64).bind fun t266=>(if t266=true then (some 0) else (some 1))) else (some 1))) else (some 1))=some r:=H
   have A4:=Aside0.mk A40;clear A40
   by_cases c5:t264=true
   · subst c5
     have H1:((dioramaref19_in.f a0_2 1 64).bind fun t265=>(if t265=true then ((dioramaref19_in.f a0_3 1 64).bind fun t266=>(if t266=true then (some 0) else (some 1))) else (some 1)))=some r:=by rw [if_pos rfl] at H;exact H
     clear H
     have H:=H1;clear H1
     replace H:=Option.bind_eq_some_iff.mp H
     obtain ⟨t265,A60,H⟩:=H
     replace H:(if t265=true then ((dioramaref19_in.f a0_3 1 64).bind fun t266=>(if t266=true then (some 0) else (some 1))) else (some 1))=some r:=H
     have A6:=Aside0.mk A60;clear A60
     by_cases c7:t265=true
     · subst c7
       have H1:((dioramaref19_in.f a0_3 1 64).bind fun t266=>(if t266=true then (some 0) else (some 1)))=some r:=by rw [if_pos rfl] at H;exact H
       clear H
       have H:=H1;clear H1
       replace H:=Option.bind_eq_some_iff.mp H
       obtain ⟨t266,A80,H⟩:=H
       replace H:(if t266=true then (some 0) else (some 1))=some r:=H
       have A8:=Aside0.mk A80;clear A80
       by_cases c9:t266=true
       · subst c9
         have H1:(some 0)=some r:=by rw [if_pos rfl] at H;exact H
         clear H
         have H:=H1;clear H1
         obtain rfl:=Option.some.inj H
         go_enter Try.func73,Try.ntmps73
         go_wp2_with (first|((with_reducible refine gate_dst (N:=1) rfl ?_);refine box_event ?hg (N:=1) ?hd (cs:=#[.int .i64 a0_0,.int .i64 a0_1,.int .i64 a0_2,.int .i64 a0_3,.slice A0_4 l0_4.length c0_4]) (t:=91) ?hr ?_;(case hd=>rfl);(case hg=>rfl);(case hr=>first|(go_simp;done)|(go_simp;rfl));intro gb262 hg w10 hbox hb;have n0_:=Aside0.mk (below_step (belV HB.out) hb);have n1_:=Aside0.mk (hbox);have n2_:=Aside0.mk ((by rw [hg];exact (below_size (belV HB.out)):w.heap.size≤gb262));have n3_:=Aside0.mk ((by rw [hg];exact (below_size (belV HB.out)):w.heap.size≤gb262));clear HB;have HB:=n0_;have BK262:=n1_;have GW262:=n2_;have GE262:=n3_;clear n0_ n1_ n2_ n3_;clear hb hbox hg;obtain ⟨hcz11_0,hcz11_1,hcz11_2,hcz11_3,hcz11_4,hfz11_0,hfz11_1,hfz11_2,hfz11_3,hfz11_4⟩:=bcells5 BK262.out)|((with_reducible refine gate_callee (f:=50) rfl ?_);refine goesL_ (some 5) rfl rfl Try.func50 (by kernel_rfl) rfl #[.int .i64 a0_0,.int .i64 0,.int .i64 999] rfl (by (try simp only [List.map_toArray,List.map_cons,List.map_nil]);first|done|rfl|(simp only [List.length_drop,List.length_take];rfl)) ?_;(with_reducible refine (dioramaref19_in.calls a0_0 0 999 true _ A2.out).mono ?_);rintro e w' ⟨rfl,⟨nd,rfl⟩⟩;refine ⟨_,rfl,?_⟩)|(go_at_call 50;(with_reducible refine (dioramaref19_in.calls a0_1 0 999 true _ A4.out).mono ?_);rintro e w' ⟨rfl,⟨nd,rfl⟩⟩)|(go_at_call 50;(with_reducible refine (dioramaref19_in.calls a0_2 1 64 true _ A6.out).mono ?_);rintro e w' ⟨rfl,⟨nd,rfl⟩⟩)|(go_at_call 50;(with_reducible refine (dioramaref19_in.calls a0_3 1 64 true _ A8.out).mono ?_);rintro e w' ⟨rfl,⟨nd,rfl⟩⟩))
         go_ret
         exact ⟨by first|rfl|(simp [errW_none,errW_some] <;> rfl)|(simp [*,errW_none,errW_some] <;> rfl),by repeat (first|(with_reducible first|exact HB.out|apply below_alloc|apply pw_below_drewN|apply below_drew1|refine below_set ?_ GE262.out)|exact HB.out)⟩
       replace c9:=Bool.eq_false_iff.mpr c9;subst c9
       have H1:(some 1)=some r:=by rw [if_neg (show ¬ (false=true) by decide)] at H;exact H
       clear H
       have H:=H1;clear H1
       obtain rfl:=Option.some.inj H
       go_enter Try.func73,Try.ntmps73
       go_wp2_with (first|((with_reducible refine gate_dst (N:=1) rfl ?_);refine box_event ?hg (N:=1) ?hd (cs:=#[.int .i64 a0_0,.int .i64 a0_1,.int .i64 a0_2,.int .i64 a0_3,.slice A0_4 l0_4.length c0_4]) (t:=91) ?hr ?_;(case hd=>rfl);(case hg=>rfl);(case hr=>first|(go_simp;done)|(go_simp;rfl));intro gb262 hg w12 hbox hb;have n0_:=Aside0.mk (below_step (belV HB.out) hb);have n1_:=Aside0.mk (hbox);have n2_:=Aside0.mk ((by rw [hg];exact (below_size (belV HB.out)):w.heap.size≤gb262));have n3_:=Aside0.mk ((by rw [hg];exact (below_size (belV HB.out)):w.heap.size≤gb262));clear HB;have HB:=n0_;have BK262:=n1_;have GW262:=n2_;have GE262:=n3_;clear n0_ n1_ n2_ n3_;clear hb hbox hg;obtain ⟨hcz13_0,hcz13_1,hcz13_2,hcz13_3,hcz13_4,hfz13_0,hfz13_1,hfz13_2,hfz13_3,hfz13_4⟩:=bcells5 BK262.out)|((with_reducible refine gate_callee (f:=50) rfl ?_);refine goesL_ (some 5) rfl rfl Try.func50 (by kernel_rfl) rfl #[.int .i64 a0_0,.int .i64 0,.int .i64 999] rfl (by (try simp only [List.map_toArray,List.map_cons,List.map_nil]);first|done|rfl|(simp only [List.length_drop,List.length_take];rfl)) ?_;(with_reducible refine (dioramaref19_in.calls a0_0 0 999 true _ A2.out).mono ?_);rintro e w' ⟨rfl,⟨nd,rfl⟩⟩;refine ⟨_,rfl,?_⟩)|(go_at_call 50;(with_reducible refine (dioramaref19_in.calls a0_1 0 999 true _ A4.out).mono ?_);rintro e w' ⟨rfl,⟨nd,rfl⟩⟩)|(go_at_call 50;(with_reducible refine (dioramaref19_in.calls a0_2 1 64 true _ A6.out).mono ?_);rintro e w' ⟨rfl,⟨nd,rfl⟩⟩)|(go_at_call 50;(with_reducible refine (dioramaref19_in.calls a0_3 1 64 false _ A8.out).mono ?_);rintro e w' ⟨rfl,⟨nd,rfl⟩⟩))
       go_ret
       exact ⟨by first|rfl|(simp [errW_none,errW_some] <;> rfl)|(simp [*,errW_none,errW_some] <;> rfl),by repeat (first|(with_reducible first|exact HB.out|apply below_alloc|apply pw_below_drewN|apply below_drew1|refine below_set ?_ GE262.out)|exact HB.out)⟩
     replace c7:=Bool.eq_false_iff.mpr c7;subst c7
     have H1:(some 1)=some r:=by rw [if_neg (show ¬ (false=true) by decide)] at H;exact H
     clear H
     have H:=H1;clear H1
     obtain rfl:=Option.some.inj H
     go_enter Try.func73,Try.ntmps73
     go_wp2_with (first|((with_reducible refine gate_dst (N:=1) rfl ?_);refine box_event ?hg (N:=1) ?hd (cs:=#[.int .i64 a0_0,.int .i64 a0_1,.int .i64 a0_2,.int .i64 a0_3,.slice A0_4 l0_4.length c0_4]) (t:=91) ?hr ?_;(case hd=>rfl);(case hg=>rfl);(case hr=>first|(go_simp;done)|(go_simp;rfl));intro gb262 hg w14 hbox hb;have n0_:=Aside0.mk (below_step (belV HB.out) hb);have n1_:=Aside0.mk (hbox);have n2_:=Aside0.mk ((by rw [hg];exact (below_size (belV HB.out)):w.heap.size≤gb262));have n3_:=Aside0.mk ((by rw [hg];exact (below_size (belV HB.out)):w.heap.size≤gb262));clear HB;have HB:=n0_;have BK262:=n1_;have GW262:=n2_;have GE262:=n3_;clear n0_ n1_ n2_ n3_;clear hb hbox hg;obtain ⟨hcz15_0,hcz15_1,hcz15_2,hcz15_3,hcz15_4,hfz15_0,hfz15_1,hfz15_2,hfz15_3,hfz15_4⟩:=bcells5 BK262.out)|((with_reducible refine gate_callee (f:=50) rfl ?_);refine goesL_ (some 5) rfl rfl Try.func50 (by kernel_rfl) rfl #[.int .i64 a0_0,.int .i64 0,.int .i64 999] rfl (by (try simp only [List.map_toArray,List.map_cons,List.map_nil]);first|done|rfl|(simp only [List.length_drop,List.length_take];rfl)) ?_;(with_reducible refine (dioramaref19_in.calls a0_0 0 999 true _ A2.out).mono ?_);rintro e w' ⟨rfl,⟨nd,rfl⟩⟩;refine ⟨_,rfl,?_⟩)|(go_at_call 50;(with_reducible refine (dioramaref19_in.calls a0_1 0 999 true _ A4.out).mono ?_);rintro e w' ⟨rfl,⟨nd,rfl⟩⟩)|(go_at_call 50;(with_reducible refine (dioramaref19_in.calls a0_2 1 64 false _ A6.out).mono ?_);rintro e w' ⟨rfl,⟨nd,rfl⟩⟩))
     go_ret
     exact ⟨by first|rfl|(simp [errW_none,errW_some] <;> rfl)|(simp [*,errW_none,errW_some] <;> rfl),by repeat (first|(with_reducible first|exact HB.out|apply below_alloc|apply pw_below_drewN|apply below_drew1|refine below_set ?_ GE262.out)|exact HB.out)⟩
   replace c5:=Bool.eq_false_iff.mpr c5;subst c5
   have H1:(some 1)=some r:=by rw [if_neg (show ¬ (false=true) by decide)] at H;exact H
   clear H
   have H:=H1;clear H1
   obtain rfl:=Option.some.inj H
   go_enter Try.func73,Try.ntmps73
   go_wp2_with (first|((with_reducible refine gate_dst (N:=1) rfl ?_);refine box_event ?hg (N:=1) ?hd (cs:=#[.int .i64 a0_0,.int .i64 a0_1,.int .i64 a0_2,.int .i64 a0_3,.slice A0_4 l0_4.length c0_4]) (t:=91) ?hr ?_;(case hd=>rfl);(case hg=>rfl);(case hr=>first|(go_simp;done)|(go_simp;rfl));intro gb262 hg w16 hbox hb;have n0_:=Aside0.mk (below_step (belV HB.out) hb);have n1_:=Aside0.mk (hbox);have n2_:=Aside0.mk ((by rw [hg];exact (below_size (belV HB.out)):w.heap.size≤gb262));have n3_:=Aside0.mk ((by rw [hg];exact (below_size (belV HB.out)):w.heap.size≤gb262));clear HB;have HB:=n0_;have BK262:=n1_;have GW262:=n2_;have GE262:=n3_;clear n0_ n1_ n2_ n3_;clear hb hbox hg;obtain ⟨hcz17_0,hcz17_1,hcz17_2,hcz17_3,hcz17_4,hfz17_0,hfz17_1,hfz17_2,hfz17_3,hfz17_4⟩:=bcells5 BK262.out)|((with_reducible refine gate_callee (f:=50) rfl ?_);refine goesL_ (some 5) rfl rfl Try.func50 (by kernel_rfl) rfl #[.int .i64 a0_0,.int .i64 0,.int .i64 999] rfl (by (try simp only [List.map_toArray,List.map_cons,List.map_nil]);first|done|rfl|(simp only [List.length_drop,List.length_take];rfl)) ?_;(with_reducible refine (dioramaref19_in.calls a0_0 0 999 true _ A2.out).mono ?_);rintro e w' ⟨rfl,⟨nd,rfl⟩⟩;refine ⟨_,rfl,?_⟩)|(go_at_call 50;(with_reducible refine (dioramaref19_in.calls a0_1 0 999 false _ A4.out).mono ?_);rintro e w' ⟨rfl,⟨nd,rfl⟩⟩))
   go_ret
   exact ⟨by first|rfl|(simp [errW_none,errW_some] <;> rfl)|(simp [*,errW_none,errW_some] <;> rfl),by repeat (first|(with_reducible first|exact HB.out|apply below_alloc|apply pw_below_drewN|apply below_drew1|refine below_set ?_ GE262.out)|exact HB.out)⟩
 replace c3:=Bool.eq_false_iff.mpr c3;subst c3
 have H1:(some 1)=some r:=by rw [if_neg (show ¬ (false=true) by decide)] at H;exact H
 clear H
 have H:=H1;clear H1
 obtain rfl:=Option.some.inj H
 go_enter Try.func73,Try.ntmps73
 go_wp2_with (first|((with_reducible refine gate_dst (N:=1) rfl ?_);refine box_event ?hg (N:=1) ?hd (cs:=#[.int .i64 a0_0,.int .i64 a0_1,.int .i64 a0_2,.int .i64 a0_3,.slice A0_4 l0_4.length c0_4]) (t:=91) ?hr ?_;(case hd=>rfl);(case hg=>rfl);(case hr=>first|(go_simp;done)|(go_simp;rfl));intro gb262 hg w18 hbox hb;have n0_:=Aside0.mk (below_step (belV HB.out) hb);have n1_:=Aside0.mk (hbox);have n2_:=Aside0.mk ((by rw [hg];exact (below_size (belV HB.out)):w.heap.size≤gb262));have n3_:=Aside0.mk ((by rw [hg];exact (below_size (belV HB.out)):w.heap.size≤gb262));clear HB;have HB:=n0_;have BK262:=n1_;have GW262:=n2_;have GE262:=n3_;clear n0_ n1_ n2_ n3_;clear hb hbox hg;obtain ⟨hcz19_0,hcz19_1,hcz19_2,hcz19_3,hcz19_4,hfz19_0,hfz19_1,hfz19_2,hfz19_3,hfz19_4⟩:=bcells5 BK262.out)|((with_reducible refine gate_callee (f:=50) rfl ?_);refine goesL_ (some 5) rfl rfl Try.func50 (by kernel_rfl) rfl #[.int .i64 a0_0,.int .i64 0,.int .i64 999] rfl (by (try simp only [List.map_toArray,List.map_cons,List.map_nil]);first|done|rfl|(simp only [List.length_drop,List.length_take];rfl)) ?_;(with_reducible refine (dioramaref19_in.calls a0_0 0 999 false _ A2.out).mono ?_);rintro e w' ⟨rfl,⟨nd,rfl⟩⟩;refine ⟨_,rfl,?_⟩))
 go_ret
 exact ⟨by first|rfl|(simp [errW_none,errW_some] <;> rfl)|(simp [*,errW_none,errW_some] <;> rfl),by repeat (first|(with_reducible first|exact HB.out|apply below_alloc|apply pw_below_drewN|apply below_drew1|refine below_set ?_ GE262.out)|exact HB.out)⟩

/-! ### dioramaref19_Check: function 40 -/
mutual
def dioramaref19_Check.j0 : Nat → Bool → Bool → List Int → List (S91) → Option (Int)
 | 0,_,_,_,_=>none
 | k+1,x14,x268000,x268001,x268002=>if x14=true then (some 2) else ((dioramaref19_all.f k x268001 0 16777215).bind fun t268=>(if t268=true then (dioramaref19_Check.l0 k 0 x268000 x268001 x268002) else (some 1)))
def dioramaref19_Check.l0 : Nat → Int → Bool → List Int → List (S91) → Option (Int)
 | 0,_,_,_,_=>none
 | k+1,x3,x268000,x268001,x268002=>if x3 < (x268002.length:Int) then (if 0≤x3 then ((dioramaref19_place.f ((rd_T91 x268002 x3).f0) ((rd_T91 x268002 x3).f1) ((rd_T91 x268002 x3).f2) ((rd_T91 x268002 x3).f3) ((rd_T91 x268002 x3).f4)).bind fun t271=>(if t271=0 then ((dioramaref19_all.f k ((rd_T91 x268002 x3).f4) 0 15).bind fun t272=>(dioramaref19_Check.j2 k x3 (!t272) x268000 x268001 x268002 ((rd_T91 x268002 x3).f0) ((rd_T91 x268002 x3).f1) ((rd_T91 x268002 x3).f2) ((rd_T91 x268002 x3).f3) ((rd_T91 x268002 x3).f4))) else (dioramaref19_Check.j2 k x3 true x268000 x268001 x268002 ((rd_T91 x268002 x3).f0) ((rd_T91 x268002 x3).f1) ((rd_T91 x268002 x3).f2) ((rd_T91 x268002 x3).f3) ((rd_T91 x268002 x3).f4)))) else (none)) else (some 0)
def dioramaref19_Check.j2 : Nat → Int → Bool → Bool → List Int → List (S91) → Int → Int → Int → Int → List Int → Option (Int)
 | 0,_,_,_,_,_,_,_,_,_,_=>none
 | k+1,x3,x39,x268000,x268001,x268002,x271000,x271001,x271002,x271003,x271004=>if x39=true then (some 1) else (if (x271004.length:Int)=(wrap64 (x271002*x271003)) then (dioramaref19_Check.l0 k (wrap64 (x3+1)) x268000 x268001 x268002) else (some 4))
end
def dioramaref19_Check.f (k : Nat) (a0_0 : Bool) (l0_1 : List Int) (l0_2 : List (S91)) : Option (Int) := if (l0_1.length : Int) > 16 then (dioramaref19_Check.j0 k true a0_0 l0_1 l0_2) else (dioramaref19_Check.j0 k (decide ((l0_2.length : Int) > 8)) a0_0 l0_1 l0_2)
theorem dioramaref19_Check.mono_l:∀ k,(∀ y0 y1 y2 y3,LeO (dioramaref19_Check.j0 k y0 y1 y2 y3) (dioramaref19_Check.j0 (k+1) y0 y1 y2 y3))∧(∀ y0 y1 y2 y3,LeO (dioramaref19_Check.l0 k y0 y1 y2 y3) (dioramaref19_Check.l0 (k+1) y0 y1 y2 y3))∧(∀ y0 y1 y2 y3 y4 y5 y6 y7 y8 y9,LeO (dioramaref19_Check.j2 k y0 y1 y2 y3 y4 y5 y6 y7 y8 y9) (dioramaref19_Check.j2 (k+1) y0 y1 y2 y3 y4 y5 y6 y7 y8 y9))
 | 0=>⟨fun _ _ _ _ r h=>by simp [dioramaref19_Check.j0] at h,fun _ _ _ _ r h=>by simp [dioramaref19_Check.l0] at h,fun _ _ _ _ _ _ _ _ _ _ r h=>by simp [dioramaref19_Check.j2] at h⟩
 | k+1=>by
  obtain ⟨ih0,ih1,ih2⟩:=dioramaref19_Check.mono_l k
  refine ⟨?_,?_,?_⟩
  · intro y0 y1 y2 y3
    unfold dioramaref19_Check.j0
    repeat' first
    | (with_reducible exact ih0 _ _ _ _)
    | (with_reducible exact ih1 _ _ _ _)
    | (with_reducible exact ih2 _ _ _ _ _ _ _ _ _ _)
    | (with_reducible exact dioramaref19_all.mono _ _ _ _)
    | (with_reducible exact LeO.refl _)
    | (with_reducible exact LeO.none _)
    | (with_reducible refine LeO.ite ?_ ?_)
    | (with_reducible refine LeO.bind ?_ (fun _=>?_))
    | exact LeO.none _
    | refine LeO.ite ?_ ?_
    | refine LeO.bind ?_ (fun _=>?_)
  · intro y0 y1 y2 y3
    unfold dioramaref19_Check.l0
    repeat' first
    | (with_reducible exact ih0 _ _ _ _)
    | (with_reducible exact ih1 _ _ _ _)
    | (with_reducible exact ih2 _ _ _ _ _ _ _ _ _ _)
    | (with_reducible exact dioramaref19_all.mono _ _ _ _)
    | (with_reducible exact LeO.refl _)
    | (with_reducible exact LeO.none _)
    | (with_reducible refine LeO.ite ?_ ?_)
    | (with_reducible refine LeO.bind ?_ (fun _=>?_))
    | exact LeO.none _
    | refine LeO.ite ?_ ?_
    | refine LeO.bind ?_ (fun _=>?_)
  intro y0 y1 y2 y3 y4 y5 y6 y7 y8 y9
  unfold dioramaref19_Check.j2
  repeat' first
  | (with_reducible exact ih0 _ _ _ _)
  | (with_reducible exact ih1 _ _ _ _)
  | (with_reducible exact ih2 _ _ _ _ _ _ _ _ _ _)
  | (with_reducible exact dioramaref19_all.mono _ _ _ _)
  | (with_reducible exact LeO.refl _)
  | (with_reducible exact LeO.none _)
  | (with_reducible refine LeO.ite ?_ ?_)
  | (with_reducible refine LeO.bind ?_ (fun _=>?_))
  | exact LeO.none _
  | refine LeO.ite ?_ ?_
  | refine LeO.bind ?_ (fun _=>?_)
theorem dioramaref19_Check.mono:∀ a0 a1 a2 k,LeO (dioramaref19_Check.f k a0 a1 a2) (dioramaref19_Check.f (k+1) a0 a1 a2):=by
 intro a0 a1 a2 k
 obtain ⟨ih0,ih1,ih2⟩:=dioramaref19_Check.mono_l k
 unfold dioramaref19_Check.f
 repeat' first
  | (with_reducible exact ih0 _ _ _ _)
  | (with_reducible exact ih1 _ _ _ _)
  | (with_reducible exact ih2 _ _ _ _ _ _ _ _ _ _)
  | (with_reducible exact dioramaref19_all.mono _ _ _ _)
  | (with_reducible exact LeO.refl _)
  | (with_reducible exact LeO.none _)
  | (with_reducible refine LeO.ite ?_ ?_)
  | (with_reducible refine LeO.bind ?_ (fun _=>?_))
  | exact LeO.none _
  | refine LeO.ite ?_ ?_
  | refine LeO.bind ?_ (fun _=>?_)
set_option maxHeartbeats 8000000 in
set_option maxRecDepth 100000 in
theorem dioramaref19_Check.calls (k:Nat) (a0_0:Bool) (A0_1:Option Addr) (c0_1:Nat) (l0_1:List Int) (A0_2:Option Addr) (c0_2:Nat) (l0_2:List (S91)) (r:Int) (w:World) (hr0_1:Kd.C (Kd.int .i64) w A0_1 l0_1.length l0_1) (hc0_1:l0_1.length≤c0_1) (hr0_2:Kd.C k91 w A0_2 l0_2.length l0_2) (hc0_2:l0_2.length≤c0_2) (h:dioramaref19_Check.f k a0_0 l0_1 l0_2=some r) :
 Calls Try.prog 40 #[.agg #[.bool a0_0,.slice A0_1 l0_1.length c0_1,.slice A0_2 l0_2.length c0_2]] w fun e w'=>e=.returned (.int .i64 r)∧Below w.heap.size w w':=by
 have hu51:=Try.underlying51
 have hu91:=Try.underlying91
 have HR0_1:=Aside0.mk hr0_1
 have HC0_1:=Aside0.mk hc0_1;clear hr0_1 hc0_1
 have HR0_2:=Aside0.mk hr0_2
 have HC0_2:=Aside0.mk hc0_2;clear hr0_2 hc0_2;have HB:=Aside0.mk (Below.refl w.heap.size w)
 have H:(if (l0_1.length:Int) > 16 then (dioramaref19_Check.j0 k true a0_0 l0_1 l0_2) else (dioramaref19_Check.j0 k (decide ((l0_2.length:Int) > 8)) a0_0 l0_1 l0_2))=some r:=h;clear h
 have HC2:=Aside0.mk H;clear H
 go_enter Try.func40,Try.ntmps40
 go_upto_region 1 with (first|((with_reducible refine gate_dst (N:=1) rfl ?_);(try (refine gate_guard (by rfl) ?_;dsimp only));refine box_event ?hg (N:=1) ?hd (cs:=#[.bool a0_0,.slice A0_1 l0_1.length c0_1,.slice A0_2 l0_2.length c0_2]) (t:=51) ?hr ?_;(case hd=>rfl);(case hg=>rfl);(case hr=>first|(go_simp;done)|(go_simp;rfl));intro gb267 hg w3 hbox hb;have n0_:=Aside0.mk (below_step (belV HB.out) hb);have n1_:=Aside0.mk (hbox);have n2_:=Aside0.mk ((by rw [hg];exact (below_size (belV HB.out)):w.heap.size≤gb267));have n3_:=Aside0.mk ((by rw [hg];exact (below_size (belV HB.out)):w.heap.size≤gb267));clear HB;have HB:=n0_;have BK267:=n1_;have GW267:=n2_;have GE267:=n3_;clear n0_ n1_ n2_ n3_;clear hb hbox hg))
 (try simp only [Act.put,List.setIfInBounds_toArray,List.set_cons_zero,List.set_cons_succ])
 go_cut [14] (fun v14 wc=>∃ (kq:Nat) (x14_1:Bool),v14=.bool x14_1∧Aside0 (dioramaref19_Check.j0 kq x14_1 a0_0 l0_1 l0_2=some r)∧Aside0 (kq≤k)∧Aside0 (wc.heap[gb267]?=some (.cells #[.bool a0_0,(.slice A0_1 l0_1.length c0_1),(.slice A0_2 l0_2.length c0_2)] 51 (0,0)))∧Aside0 (Below w.heap.size w wc))
 case first =>
  have H:=HC2.out;clear HC2
  by_cases c4:(l0_1.length:Int) > 16
  · rw [if_pos c4] at H
    have c4b0:decide (16 < (l0_1.length:Int))=true:=decide_eq_true c4
    have c4b1:decide (16 < l0_1.length)=true:=decide_eq_true (by omega);clear c4
    (first|rw [c4b0]|(simp only [i64_w,i32_w];rw [c4b0])|rw [c4b1]|skip)
    have H':=Aside0.mk H;clear H
    obtain ⟨hcz5_0,hcz5_1,hcz5_2,hfz5_0,hfz5_1,hfz5_2⟩:=bcells3 BK267.out
    go_wp2
    go_meet
    case rel=>exact ⟨_,(true),okV,H',⟨by first|omega|exact Nat.le_refl _⟩,⟨blkV BK267.out⟩,⟨belV1 HB.out GE267.out⟩⟩
  rw [if_neg c4] at H
  have c4b0:decide (16 < (l0_1.length:Int))=false:=decide_eq_false c4
  have c4b1:decide (16 < l0_1.length)=false:=decide_eq_false (by omega);clear c4
  (first|rw [c4b0]|(simp only [i64_w,i32_w];rw [c4b0])|rw [c4b1]|skip)
  have H':=Aside0.mk H;clear H
  obtain ⟨hcz6_0,hcz6_1,hcz6_2,hfz6_0,hfz6_1,hfz6_2⟩:=bcells3 BK267.out
  go_wp2
  go_meet
  case rel=>exact ⟨_,(decide ((l0_2.length:Int) > 8)),okV,H',⟨by first|omega|exact Nat.le_refl _⟩,⟨blkV BK267.out⟩,⟨belV1 HB.out GE267.out⟩⟩
 case rest =>
  clear HC2
  try clear p2;try clear c4;try clear c4b0;try clear c4b1;try clear hcz5_0 hcz5_1 hcz5_2;try clear hcz6_0 hcz6_1 hcz6_2;try clear hfz5_0 hfz5_1 hfz5_2;try clear hfz6_0 hfz6_1 hfz6_2
  obtain ⟨kq,x14_1,rfl,HA,HJ1,BK267,HB⟩:=hcut
  cases kq with
  | zero=>exact absurd HA.out (by simp [dioramaref19_Check.j0])
  | succ kj1 =>
   have H:=HA.out;clear HA
   simp only [dioramaref19_Check.j0] at H
   by_cases c7:x14_1=true
   · subst c7
     have H1:(some 2)=some r:=by rw [if_pos rfl] at H;exact H
     clear H
     have H:=H1;clear H1
     obtain rfl:=Option.some.inj H
     go_wp2
     go_ret
     exact ⟨by first|rfl|(simp [errW_none,errW_some] <;> rfl)|(simp [*,errW_none,errW_some] <;> rfl),by repeat (first|(with_reducible first|exact HB.out|apply below_alloc|apply pw_below_drewN|apply below_drew1|refine below_set ?_ GE267.out)|exact HB.out)⟩
   replace c7:=Bool.eq_false_iff.mpr c7;subst c7
   have H1:((dioramaref19_all.f kj1 l0_1 0 16777215).bind fun t268=>(if t268=true then (dioramaref19_Check.l0 kj1 0 a0_0 l0_1 l0_2) else (some 1)))=some r:=by rw [if_neg (show ¬ (false=true) by decide)] at H;exact H
   clear H
   have H:=H1;clear H1
   replace H:=Option.bind_eq_some_iff.mp H
   obtain ⟨t268,A80,H⟩:=H
   replace H:(if t268=true then (dioramaref19_Check.l0 kj1 0 a0_0 l0_1 l0_2) else (some 1))=some r:=H
   have A8:=Aside0.mk A80;clear A80
   by_cases c9:t268=true
   · subst c9
     have H1:(dioramaref19_Check.l0 kj1 0 a0_0 l0_1 l0_2)=some r:=by rw [if_pos rfl] at H;exact H
     clear H
     have H:=H1;clear H1
     have H':=Aside0.mk H;clear H
     obtain ⟨hcz10_0,hcz10_1,hcz10_2,hfz10_0,hfz10_1,hfz10_2⟩:=bcells3 BK267.out
     go_wp2_with (first|((with_reducible refine gate_callee (f:=51) rfl ?_);refine goesL_ (some 17) rfl rfl Try.func51 (by kernel_rfl) rfl #[.slice A0_1 l0_1.length c0_1,.int .i64 0,.int .i64 16777215] rfl (by (try simp only [List.map_toArray,List.map_cons,List.map_nil]);first|done|rfl|(simp only [List.length_drop,List.length_take];rfl)) ?_;(with_reducible refine (dioramaref19_all.calls kj1 _ _ l0_1 0 16777215 true _ ?side1 ?side2 A8.out).mono ?_);(case side1=>exact cV (Kd.C_below HR0_1.out HB.out));(case side2=>exact HC0_1.out);rintro e w' ⟨rfl,⟨nd,rfl⟩⟩;refine ⟨_,rfl,?_⟩))
     go_loopg [3] kj1 (fun kq v3 w'=>∃ (x3_2:Int),v3=.int .i64 x3_2∧Aside0 (dioramaref19_Check.l0 kq x3_2 a0_0 l0_1 l0_2=some r)∧Aside0 (kq≤kj1)∧Aside0 (w'.heap[gb267]?=some (.cells #[.bool a0_0,(.slice A0_1 l0_1.length c0_1),(.slice A0_2 l0_2.length c0_2)] 51 (0,0)))∧Aside0 (Below w.heap.size w w'))
     case atStart=>exact ⟨(0),okV,H',⟨Nat.le_refl _⟩,⟨blkV BK267.out⟩,⟨belV1 HB.out GE267.out⟩⟩
     case round =>
      clear H'
      try clear p2 p2;try clear c4;try clear c4b0;try clear c4b1;try clear c5;try clear c7;try clear c9;try clear hcz10_0 hcz10_1 hcz10_2;try clear hcz5_0 hcz5_1 hcz5_2;try clear hcz6_0 hcz6_1 hcz6_2;try clear hfz10_0 hfz10_1 hfz10_2;try clear hfz5_0 hfz5_1 hfz5_2;try clear hfz6_0 hfz6_1 hfz6_2
      obtain ⟨x3_2,rfl,HA,HK2,BK267,HB⟩:=hrel
      cases gk with
      | zero=>exact absurd HA.out (by simp [dioramaref19_Check.l0])
      | succ k2 =>
       have H:=HA.out;clear HA
       simp only [dioramaref19_Check.l0] at H
       by_cases c11:x3_2 < (l0_2.length:Int)
       · rw [if_pos c11] at H
         have c11b0:decide (x3_2 < (l0_2.length:Int))=true:=decide_eq_true c11;clear c11
         by_cases c12:0≤x3_2
         · rw [if_pos c12] at H
           have c12b0:decide (0≤x3_2)=true:=decide_eq_true c12;clear c12
           have HC13:=Aside0.mk H;clear H
           obtain ⟨hcz14_0,hcz14_1,hcz14_2,hfz14_0,hfz14_1,hfz14_2⟩:=bcells3 BK267.out
           have p269:0≤(x3_2:Int):=of_decide_eq_true asV
           have q269:x3_2 < (l0_2.length:Int):=of_decide_eq_true asV
           obtain ⟨ad269,A269_4,c269_4,e269,hx269_0,hx269_1,hx269_2,hx269_3,hx269_4,hl269_4,hi269_4⟩:=at_T91 HR0_2.out x3_2 p269 q269
           cases e269
           replace hx269_0:=(HB.out.cell (World.block_lt_of_cell? w _ hx269_0)).trans hx269_0
           replace hx269_1:=(HB.out.cell (World.block_lt_of_cell? w _ hx269_1)).trans hx269_1
           replace hx269_2:=(HB.out.cell (World.block_lt_of_cell? w _ hx269_2)).trans hx269_2
           replace hx269_3:=(HB.out.cell (World.block_lt_of_cell? w _ hx269_3)).trans hx269_3
           replace hx269_4:=(HB.out.cell (World.block_lt_of_cell? w _ hx269_4)).trans hx269_4
           have HR269_4:=Aside0.mk hi269_4
           have HC269_4:=Aside0.mk hl269_4;clear hi269_4 hl269_4
           replace p269:=eq_true p269
           replace q269:=eq_true q269
           go_upto_region 9 with (first|((with_reducible refine gate_dst (N:=4) rfl ?_);(try (refine gate_guard (by rfl) ?_;dsimp only));refine box_event ?hg (N:=4) ?hd (cs:=#[.int .i64 0,.int .i64 0,.int .i64 0,.int .i64 0,.slice none 0 0]) (t:=91) ?hr ?_;(case hd=>rfl);(case hg=>rfl);(case hr=>first|(go_simp;done)|(go_simp;rfl));intro gb270 hg w15 hbox hb;have n0_:=Aside0.mk (blk_below (g:=gb267) (blkV BK267.out) hb);have n1_:=Aside0.mk (below_step (belV1 HB.out GE267.out) hb);have n2_:=Aside0.mk (hbox);have n3_:=Aside0.mk ((by rw [hg];exact (below_size (belV1 HB.out GE267.out)):w.heap.size≤gb270));have n4_:=Aside0.mk ((by rw [hg];exact (below_size (belV1 HB.out GE267.out)):w.heap.size≤gb270));have n5_:=Aside0.mk ((by rw [hg];exact Nat.ne_of_lt (blk_lt (g:=gb267) (blkV BK267.out)):gb267≠gb270));have n6_:=Aside0.mk ((by rw [hg];exact Nat.ne_of_gt (blk_lt (g:=gb267) (blkV BK267.out)):gb270≠gb267));clear BK267;clear HB;have BK267:=n0_;have HB:=n1_;have BK270:=n2_;have GW270:=n3_;have GE270:=n4_;have NB267_270:=n5_;have NB270_267:=n6_;clear n0_ n1_ n2_ n3_ n4_ n5_ n6_;clear hb hbox hg;have hnb16:=NB270_267.out;have hnc16:=NB267_270.out;obtain ⟨hcz17_0,hcz17_1,hcz17_2,hcz17_3,hcz17_4,hfz17_0,hfz17_1,hfz17_2,hfz17_3,hfz17_4⟩:=bcells5 BK270.out))
           (try simp only [Act.put,List.setIfInBounds_toArray,List.set_cons_zero,List.set_cons_succ])
           go_cut [39] (fun v39 wc=>∃ (kq:Nat) (x39_12:Bool),v39=.bool x39_12∧Aside0 (dioramaref19_Check.j2 kq x3_2 x39_12 a0_0 l0_1 l0_2 ((rd_T91 l0_2 x3_2).f0) ((rd_T91 l0_2 x3_2).f1) ((rd_T91 l0_2 x3_2).f2) ((rd_T91 l0_2 x3_2).f3) ((rd_T91 l0_2 x3_2).f4)=some r)∧Aside0 (kq≤k2)∧Aside0 (wc.heap[gb267]?=some (.cells #[.bool a0_0,(.slice A0_1 l0_1.length c0_1),(.slice (some ad269) l0_2.length c0_2)] 51 (0,0)))∧Aside0 (wc.heap[gb270]?=some (.cells #[.int .i64 ((rd_T91 l0_2 x3_2).f0),.int .i64 ((rd_T91 l0_2 x3_2).f1),.int .i64 ((rd_T91 l0_2 x3_2).f2),.int .i64 ((rd_T91 l0_2 x3_2).f3),(.slice A269_4 ((rd_T91 l0_2 x3_2).f4).length c269_4)] 91 (0,0)))∧Aside0 (Below w.heap.size w wc))
           case first =>
            have H:=HC13.out;clear HC13
            replace H:=Option.bind_eq_some_iff.mp H
            obtain ⟨t271,A180,H⟩:=H
            replace H:(if t271=0 then ((dioramaref19_all.f k2 ((rd_T91 l0_2 x3_2).f4) 0 15).bind fun t272=>(dioramaref19_Check.j2 k2 x3_2 (!t272) a0_0 l0_1 l0_2 ((rd_T91 l0_2 x3_2).f0) ((rd_T91 l0_2 x3_2).f1) ((rd_T91 l0_2 x3_2).f2) ((rd_T91 l0_2 x3_2).f3) ((rd_T91 l0_2 x3_2).f4))) else (dioramaref19_Check.j2 k2 x3_2 true a0_0 l0_1 l0_2 ((rd_T91 l0_2 x3_2).f0) ((rd_T91 l0_2 x3_2).f1) ((rd_T91 l0_2 x3_2).f2) ((rd_T91 l0_2 x3_2).f3) ((rd_T91 l0_2 x3_2).f4)))=some r:=H
            have A18:=Aside0.mk A180;clear A180
            by_cases c19:t271=0
            · rw [if_pos c19] at H
              have c19b0:(t271 == 0)=true:=beq_iff_eq.mpr c19
              have c19b1:(t271 != 0)=false:=bne_eq_false_iff_eq.mpr c19;clear c19
              (first|rw [c19b0]|(simp only [i64_w,i32_w];rw [c19b0])|rw [c19b1]|skip)
              replace H:=Option.bind_eq_some_iff.mp H
              obtain ⟨t272,A200,H⟩:=H
              replace H:(dioramaref19_Check.j2 k2 x3_2 (!t272) a0_0 l0_1 l0_2 ((rd_T91 l0_2 x3_2).f0) ((rd_T91 l0_2 x3_2).f1) ((rd_T91 l0_2 x3_2).f2) ((rd_T91 l0_2 x3_2).f3) ((rd_T91 l0_2 x3_2).f4))=some r:=H
              have A20:=Aside0.mk A200;clear A200
              have H':=Aside0.mk H;clear H
              have hnb21:=NB270_267.out
              have hnc21:=NB267_270.out
              obtain ⟨hcz22_0,hcz22_1,hcz22_2,hcz22_3,hcz22_4,hfz22_0,hfz22_1,hfz22_2,hfz22_3,hfz22_4⟩:=bcells5 BK270.out
              go_wp2_with (first|((with_reducible refine gate_callee (f:=73) rfl ?_);refine goesL_ (some 32) rfl rfl Try.func73 (by kernel_rfl) rfl #[.agg #[.int .i64 ((rd_T91 l0_2 x3_2).f0),.int .i64 ((rd_T91 l0_2 x3_2).f1),.int .i64 ((rd_T91 l0_2 x3_2).f2),.int .i64 ((rd_T91 l0_2 x3_2).f3),.slice A269_4 ((rd_T91 l0_2 x3_2).f4).length c269_4]] rfl (by (try simp only [List.map_toArray,List.map_cons,List.map_nil]);first|done|rfl|(simp only [List.length_drop,List.length_take];rfl)) ?_;(with_reducible refine (dioramaref19_place.calls ((rd_T91 l0_2 x3_2).f0) ((rd_T91 l0_2 x3_2).f1) ((rd_T91 l0_2 x3_2).f2) ((rd_T91 l0_2 x3_2).f3) _ _ ((rd_T91 l0_2 x3_2).f4) t271 _ ?side1 ?side2 A18.out).mono ?_);(case side1=>exact Kd.C_below HR269_4.out (belV2 HB.out GE267.out GE270.out));(case side2=>exact HC269_4.out);rintro e w23 ⟨rfl,hb⟩;refine ⟨_,rfl,?_⟩;have n0_:=Aside0.mk (blk_below (g:=gb267) (o:=.cells #[.bool a0_0,.slice A0_1 l0_1.length c0_1,.slice (some ad269) l0_2.length c0_2] 51 (0,0)) (blkW BK267.out NB267_270.out) hb);have n1_:=Aside0.mk (blk_below (g:=gb270) (o:=.cells #[.int .i64 ((rd_T91 l0_2 x3_2).f0),.int .i64 ((rd_T91 l0_2 x3_2).f1),.int .i64 ((rd_T91 l0_2 x3_2).f2),.int .i64 ((rd_T91 l0_2 x3_2).f3),.slice A269_4 ((rd_T91 l0_2 x3_2).f4).length c269_4] 91 (0,0)) (by (with_reducible repeat (first|refine blk_drewN ?_ _|refine blk_drew ?_|refine blk_alloc ?_ _));refine blk_put (cs:=#[.int .i64 ((rd_T91 l0_2 x3_2).f0),.int .i64 ((rd_T91 l0_2 x3_2).f1),.int .i64 ((rd_T91 l0_2 x3_2).f2),.int .i64 ((rd_T91 l0_2 x3_2).f3),.slice none 0 0]) ?_ 4 _ rfl;(with_reducible repeat (first|refine blk_drewN ?_ _|refine blk_drew ?_|refine blk_alloc ?_ _));refine blk_put (cs:=#[.int .i64 ((rd_T91 l0_2 x3_2).f0),.int .i64 ((rd_T91 l0_2 x3_2).f1),.int .i64 ((rd_T91 l0_2 x3_2).f2),.int .i64 0,.slice none 0 0]) ?_ 3 _ rfl;(with_reducible repeat (first|refine blk_drewN ?_ _|refine blk_drew ?_|refine blk_alloc ?_ _));refine blk_put (cs:=#[.int .i64 ((rd_T91 l0_2 x3_2).f0),.int .i64 ((rd_T91 l0_2 x3_2).f1),.int .i64 0,.int .i64 0,.slice none 0 0]) ?_ 2 _ rfl;(with_reducible repeat (first|refine blk_drewN ?_ _|refine blk_drew ?_|refine blk_alloc ?_ _));refine blk_put (cs:=#[.int .i64 ((rd_T91 l0_2 x3_2).f0),.int .i64 0,.int .i64 0,.int .i64 0,.slice none 0 0]) ?_ 1 _ rfl;(with_reducible repeat (first|refine blk_drewN ?_ _|refine blk_drew ?_|refine blk_alloc ?_ _));refine blk_put (cs:=#[.int .i64 0,.int .i64 0,.int .i64 0,.int .i64 0,.slice none 0 0]) ?_ 0 _ rfl;(with_reducible repeat (first|refine blk_drewN ?_ _|refine blk_drew ?_|refine blk_alloc ?_ _));exact BK270.out) hb);have n2_:=Aside0.mk (below_step (belV2 HB.out GE267.out GE270.out) hb);clear BK267;clear BK270;clear HB;have BK267:=n0_;have BK270:=n1_;have HB:=n2_;clear n0_ n1_ n2_;(try clear hb);(try clear hb2);(try clear hk);(try clear hi);obtain ⟨hcz24_0,hcz24_1,hcz24_2,hcz24_3,hcz24_4,hfz24_0,hfz24_1,hfz24_2,hfz24_3,hfz24_4⟩:=bcells5 BK270.out)|(go_at_call 51;(with_reducible refine (dioramaref19_all.calls k2 _ _ ((rd_T91 l0_2 x3_2).f4) 0 15 t272 _ ?side1 ?side2 A20.out).mono ?_);(case side1=>exact cV (Kd.C_below HR269_4.out HB.out));(case side2=>exact HC269_4.out);rintro e w' ⟨rfl,⟨nd,rfl⟩⟩))
              go_meet
              case rel=>exact ⟨_,(!t272),okV,H',⟨by have:=HJ1.out;have:=HK2.out;first|omega|exact Nat.le_refl _⟩,⟨blkV BK267.out⟩,⟨blkV BK270.out⟩,⟨belV2 HB.out GE267.out GE270.out⟩⟩
            rw [if_neg c19] at H
            have c19b0:(t271 == 0)=false:=beq_eq_false_iff_ne.mpr c19
            have c19b1:(t271 != 0)=true:=bne_iff_ne.mpr c19
            (first|rw [c19b0]|(simp only [i64_w,i32_w];rw [c19b0])|rw [c19b1]|skip)
            have H':=Aside0.mk H;clear H
            have hnb25:=NB270_267.out
            have hnc25:=NB267_270.out
            obtain ⟨hcz26_0,hcz26_1,hcz26_2,hcz26_3,hcz26_4,hfz26_0,hfz26_1,hfz26_2,hfz26_3,hfz26_4⟩:=bcells5 BK270.out
            go_wp2_with (first|((with_reducible refine gate_callee (f:=73) rfl ?_);refine goesL_ (some 32) rfl rfl Try.func73 (by kernel_rfl) rfl #[.agg #[.int .i64 ((rd_T91 l0_2 x3_2).f0),.int .i64 ((rd_T91 l0_2 x3_2).f1),.int .i64 ((rd_T91 l0_2 x3_2).f2),.int .i64 ((rd_T91 l0_2 x3_2).f3),.slice A269_4 ((rd_T91 l0_2 x3_2).f4).length c269_4]] rfl (by (try simp only [List.map_toArray,List.map_cons,List.map_nil]);first|done|rfl|(simp only [List.length_drop,List.length_take];rfl)) ?_;(with_reducible refine (dioramaref19_place.calls ((rd_T91 l0_2 x3_2).f0) ((rd_T91 l0_2 x3_2).f1) ((rd_T91 l0_2 x3_2).f2) ((rd_T91 l0_2 x3_2).f3) _ _ ((rd_T91 l0_2 x3_2).f4) t271 _ ?side1 ?side2 A18.out).mono ?_);(case side1=>exact Kd.C_below HR269_4.out (belV2 HB.out GE267.out GE270.out));(case side2=>exact HC269_4.out);rintro e w27 ⟨rfl,hb⟩;refine ⟨_,rfl,?_⟩;have n0_:=Aside0.mk (blk_below (g:=gb267) (o:=.cells #[.bool a0_0,.slice A0_1 l0_1.length c0_1,.slice (some ad269) l0_2.length c0_2] 51 (0,0)) (blkW BK267.out NB267_270.out) hb);have n1_:=Aside0.mk (blk_below (g:=gb270) (o:=.cells #[.int .i64 ((rd_T91 l0_2 x3_2).f0),.int .i64 ((rd_T91 l0_2 x3_2).f1),.int .i64 ((rd_T91 l0_2 x3_2).f2),.int .i64 ((rd_T91 l0_2 x3_2).f3),.slice A269_4 ((rd_T91 l0_2 x3_2).f4).length c269_4] 91 (0,0)) (by (with_reducible repeat (first|refine blk_drewN ?_ _|refine blk_drew ?_|refine blk_alloc ?_ _));refine blk_put (cs:=#[.int .i64 ((rd_T91 l0_2 x3_2).f0),.int .i64 ((rd_T91 l0_2 x3_2).f1),.int .i64 ((rd_T91 l0_2 x3_2).f2),.int .i64 ((rd_T91 l0_2 x3_2).f3),.slice none 0 0]) ?_ 4 _ rfl;(with_reducible repeat (first|refine blk_drewN ?_ _|refine blk_drew ?_|refine blk_alloc ?_ _));refine blk_put (cs:=#[.int .i64 ((rd_T91 l0_2 x3_2).f0),.int .i64 ((rd_T91 l0_2 x3_2).f1),.int .i64 ((rd_T91 l0_2 x3_2).f2),.int .i64 0,.slice none 0 0]) ?_ 3 _ rfl;(with_reducible repeat (first|refine blk_drewN ?_ _|refine blk_drew ?_|refine blk_alloc ?_ _));refine blk_put (cs:=#[.int .i64 ((rd_T91 l0_2 x3_2).f0),.int .i64 ((rd_T91 l0_2 x3_2).f1),.int .i64 0,.int .i64 0,.slice none 0 0]) ?_ 2 _ rfl;(with_reducible repeat (first|refine blk_drewN ?_ _|refine blk_drew ?_|refine blk_alloc ?_ _));refine blk_put (cs:=#[.int .i64 ((rd_T91 l0_2 x3_2).f0),.int .i64 0,.int .i64 0,.int .i64 0,.slice none 0 0]) ?_ 1 _ rfl;(with_reducible repeat (first|refine blk_drewN ?_ _|refine blk_drew ?_|refine blk_alloc ?_ _));refine blk_put (cs:=#[.int .i64 0,.int .i64 0,.int .i64 0,.int .i64 0,.slice none 0 0]) ?_ 0 _ rfl;(with_reducible repeat (first|refine blk_drewN ?_ _|refine blk_drew ?_|refine blk_alloc ?_ _));exact BK270.out) hb);have n2_:=Aside0.mk (below_step (belV2 HB.out GE267.out GE270.out) hb);clear BK267;clear BK270;clear HB;have BK267:=n0_;have BK270:=n1_;have HB:=n2_;clear n0_ n1_ n2_;(try clear hb);(try clear hb2);(try clear hk);(try clear hi)))
            go_meet
            case rel=>exact ⟨_,(true),okV,H',⟨by have:=HJ1.out;have:=HK2.out;first|omega|exact Nat.le_refl _⟩,⟨blkV BK267.out⟩,⟨blkV BK270.out⟩,⟨belV2 HB.out GE267.out GE270.out⟩⟩
           case rest =>
            clear HC13
            try clear c1;try clear c2;try clear p2 p2;try clear q2;try clear hx2;try clear c4;try clear c4b0;try clear c4b1;try clear c5;try clear c7;try clear c9;try clear c11;try clear c11b0;try clear c12;try clear c12b0;try clear c16;try clear c19;try clear c19b0;try clear c19b1;try clear c21;try clear c25;try clear c26;try clear p26;try clear q26;try clear hx26;try clear hcz10_0 hcz10_1 hcz10_2;try clear hcz14_0 hcz14_1 hcz14_2;try clear hcz17_0 hcz17_1 hcz17_2 hcz17_3 hcz17_4;try clear hcz22_0 hcz22_1 hcz22_2 hcz22_3 hcz22_4;try clear hcz24_0 hcz24_1 hcz24_2 hcz24_3 hcz24_4;try clear hcz26_0 hcz26_1 hcz26_2 hcz26_3 hcz26_4;try clear hcz5_0 hcz5_1 hcz5_2;try clear hcz6_0 hcz6_1 hcz6_2;try clear hfz10_0 hfz10_1 hfz10_2;try clear hfz14_0 hfz14_1 hfz14_2;try clear hfz17_0 hfz17_1 hfz17_2 hfz17_3 hfz17_4;try clear hfz22_0 hfz22_1 hfz22_2 hfz22_3 hfz22_4;try clear hfz24_0 hfz24_1 hfz24_2 hfz24_3 hfz24_4;try clear hfz26_0 hfz26_1 hfz26_2 hfz26_3 hfz26_4;try clear hfz5_0 hfz5_1 hfz5_2;try clear hfz6_0 hfz6_1 hfz6_2;try clear hx269_0;try clear hx269_1;try clear hx269_2;try clear hx269_3;try clear hx269_4;try clear p269;try clear q269
            obtain ⟨kq,x39_12,rfl,HA,HJ12,BK267,BK270,HB⟩:=hcut
            cases kq with
            | zero=>exact absurd HA.out (by simp [dioramaref19_Check.j2])
            | succ kj12 =>
             have H:=HA.out;clear HA
             simp only [dioramaref19_Check.j2] at H
             by_cases c28:x39_12=true
             · subst c28
               have H1:(some 1)=some r:=by rw [if_pos rfl] at H;exact H
               clear H
               have H:=H1;clear H1
               obtain rfl:=Option.some.inj H
               go_wp2
               go_ret
               exact ⟨by first|rfl|(simp [errW_none,errW_some] <;> rfl)|(simp [*,errW_none,errW_some] <;> rfl),by repeat (first|(with_reducible first|exact HB.out|apply below_alloc|apply pw_below_drewN|apply below_drew1|refine below_set ?_ GE267.out|refine below_set ?_ GE270.out)|exact HB.out)⟩
             replace c28:=Bool.eq_false_iff.mpr c28;subst c28
             have H1:(if (((rd_T91 l0_2 x3_2).f4).length:Int)=(wrap64 (((rd_T91 l0_2 x3_2).f2)*((rd_T91 l0_2 x3_2).f3))) then (dioramaref19_Check.l0 kj12 (wrap64 (x3_2+1)) a0_0 l0_1 l0_2) else (some 4))=some r:=by rw [if_neg (show ¬ (false=true) by decide)] at H;exact H
             clear H
             have H:=H1;clear H1
             by_cases c29:(((rd_T91 l0_2 x3_2).f4).length:Int)=(wrap64 (((rd_T91 l0_2 x3_2).f2)*((rd_T91 l0_2 x3_2).f3)))
             · rw [if_pos c29] at H
               have c29b0:((((rd_T91 l0_2 x3_2).f4).length:Int) == (wrap64 (((rd_T91 l0_2 x3_2).f2)*((rd_T91 l0_2 x3_2).f3))))=true:=beq_iff_eq.mpr c29
               have c29b1:((((rd_T91 l0_2 x3_2).f4).length:Int) != (wrap64 (((rd_T91 l0_2 x3_2).f2)*((rd_T91 l0_2 x3_2).f3))))=false:=bne_eq_false_iff_eq.mpr c29;clear c29
               have H':=Aside0.mk H;clear H
               have hnb30:=NB270_267.out
               have hnc30:=NB267_270.out
               obtain ⟨hcz31_0,hcz31_1,hcz31_2,hcz31_3,hcz31_4,hfz31_0,hfz31_1,hfz31_2,hfz31_3,hfz31_4⟩:=bcells5 BK270.out
               go_wp2
               go_roundg kj12
               case measure=>have:=HJ1.out;have:=HK2.out;have:=HJ12.out;omega
               case rel=>exact ⟨(wrap64 (x3_2+1)),okV,H',⟨by have:=HJ1.out;have:=HK2.out;have:=HJ12.out;omega⟩,⟨blkV BK267.out⟩,⟨belV2 HB.out GE267.out GE270.out⟩⟩
             rw [if_neg c29] at H
             have c29b0:((((rd_T91 l0_2 x3_2).f4).length:Int) == (wrap64 (((rd_T91 l0_2 x3_2).f2)*((rd_T91 l0_2 x3_2).f3))))=false:=beq_eq_false_iff_ne.mpr c29
             have c29b1:((((rd_T91 l0_2 x3_2).f4).length:Int) != (wrap64 (((rd_T91 l0_2 x3_2).f2)*((rd_T91 l0_2 x3_2).f3))))=true:=bne_iff_ne.mpr c29
             obtain rfl:=Option.some.inj H
             have hnb32:=NB270_267.out
             have hnc32:=NB267_270.out
             obtain ⟨hcz33_0,hcz33_1,hcz33_2,hcz33_3,hcz33_4,hfz33_0,hfz33_1,hfz33_2,hfz33_3,hfz33_4⟩:=bcells5 BK270.out
             go_wp2
             go_ret
             exact ⟨by first|rfl|(simp [errW_none,errW_some] <;> rfl)|(simp [*,errW_none,errW_some] <;> rfl),by repeat (first|(with_reducible first|exact HB.out|apply below_alloc|apply pw_below_drewN|apply below_drew1|refine below_set ?_ GE267.out|refine below_set ?_ GE270.out)|exact HB.out)⟩
         rw [if_neg c12] at H
         exact absurd H (by simp)
       rw [if_neg c11] at H
       have c11b0:decide (x3_2 < (l0_2.length:Int))=false:=decide_eq_false c11;clear c11
       obtain rfl:=Option.some.inj H
       obtain ⟨hcz34_0,hcz34_1,hcz34_2,hfz34_0,hfz34_1,hfz34_2⟩:=bcells3 BK267.out
       go_wp2
       go_ret
       exact ⟨by first|rfl|(simp [errW_none,errW_some] <;> rfl)|(simp [*,errW_none,errW_some] <;> rfl),by repeat (first|(with_reducible first|exact HB.out|apply below_alloc|apply pw_below_drewN|apply below_drew1|refine below_set ?_ GE267.out)|exact HB.out)⟩
   replace c9:=Bool.eq_false_iff.mpr c9;subst c9
   have H1:(some 1)=some r:=by rw [if_neg (show ¬ (false=true) by decide)] at H;exact H
   clear H
   have H:=H1;clear H1
   obtain rfl:=Option.some.inj H
   obtain ⟨hcz35_0,hcz35_1,hcz35_2,hfz35_0,hfz35_1,hfz35_2⟩:=bcells3 BK267.out
   go_wp2_with (first|((with_reducible refine gate_callee (f:=51) rfl ?_);refine goesL_ (some 17) rfl rfl Try.func51 (by kernel_rfl) rfl #[.slice A0_1 l0_1.length c0_1,.int .i64 0,.int .i64 16777215] rfl (by (try simp only [List.map_toArray,List.map_cons,List.map_nil]);first|done|rfl|(simp only [List.length_drop,List.length_take];rfl)) ?_;(with_reducible refine (dioramaref19_all.calls kj1 _ _ l0_1 0 16777215 false _ ?side1 ?side2 A8.out).mono ?_);(case side1=>exact cV (Kd.C_below HR0_1.out HB.out));(case side2=>exact HC0_1.out);rintro e w' ⟨rfl,⟨nd,rfl⟩⟩;refine ⟨_,rfl,?_⟩))
   go_ret
   exact ⟨by first|rfl|(simp [errW_none,errW_some] <;> rfl)|(simp [*,errW_none,errW_some] <;> rfl),by repeat (first|(with_reducible first|exact HB.out|apply below_alloc|apply pw_below_drewN|apply below_drew1|refine below_set ?_ GE267.out)|exact HB.out)⟩

/-! ### dioramaref19_Valid: function 67 -/
def dioramaref19_Valid.f (k : Nat) (a0_0 : Int) (a0_1 : Int) (l0_2 : List Int) (l0_3 : List Int) : Option (Bool) := (dioramaref19_in.f a0_0 1 200).bind fun t274 => (if t274 = true then ((dioramaref19_in.f a0_1 1 200).bind fun t275 => (if t275 = true then (if (l0_2.length : Int) ≤ 16 then ((dioramaref19_all.f k l0_2 0 16777215).bind fun t276 => (if t276 = true then (if (l0_3.length : Int) = (wrap64 (a0_0 * a0_1)) then ((dioramaref19_all.f k l0_3 (-1) 15).bind fun t277 => (some t277)) else (some false)) else (some false))) else (some false)) else (some false))) else (some false))
theorem dioramaref19_Valid.mono:∀ a0 a1 a2 a3 k,LeO (dioramaref19_Valid.f k a0 a1 a2 a3) (dioramaref19_Valid.f (k+1) a0 a1 a2 a3):=by
 intro a0 a1 a2 a3 k
 unfold dioramaref19_Valid.f
 repeat' first
  | (with_reducible exact dioramaref19_all.mono _ _ _ _)
  | (with_reducible exact LeO.refl _)
  | (with_reducible exact LeO.none _)
  | (with_reducible refine LeO.ite ?_ ?_)
  | (with_reducible refine LeO.bind ?_ (fun _=>?_))
  | exact LeO.none _
  | refine LeO.ite ?_ ?_
  | refine LeO.bind ?_ (fun _=>?_)
set_option maxHeartbeats 8000000 in
set_option maxRecDepth 100000 in
theorem dioramaref19_Valid.calls (k:Nat) (a0_0:Int) (a0_1:Int) (A0_2:Option Addr) (c0_2:Nat) (l0_2:List Int) (A0_3:Option Addr) (c0_3:Nat) (l0_3:List Int) (r:Bool) (w:World) (hr0_2:Kd.C (Kd.int .i64) w A0_2 l0_2.length l0_2) (hc0_2:l0_2.length≤c0_2) (hr0_3:Kd.C (Kd.int .i64) w A0_3 l0_3.length l0_3) (hc0_3:l0_3.length≤c0_3) (h:dioramaref19_Valid.f k a0_0 a0_1 l0_2 l0_3=some r) :
 Calls Try.prog 67 #[.agg #[.int .i64 a0_0,.int .i64 a0_1,.slice A0_2 l0_2.length c0_2,.slice A0_3 l0_3.length c0_3]] w fun e w'=>e=.returned (.bool r)∧Below w.heap.size w w':=by
 have hu41:=Try.underlying41
 have HR0_2:=Aside0.mk hr0_2
 have HC0_2:=Aside0.mk hc0_2;clear hr0_2 hc0_2
 have HR0_3:=Aside0.mk hr0_3
 have HC0_3:=Aside0.mk hc0_3;clear hr0_3 hc0_3;have HB:=Aside0.mk (Below.refl w.heap.size w)
 have H:((dioramaref19_in.f a0_0 1 200).bind fun t274=>(if t274=true then ((dioramaref19_in.f a0_1 1 200).bind fun t275=>(if t275=true then (if (l0_2.length:Int)≤16 then ((dioramaref19_all.f k l0_2 0 16777215).bind fun t276=>(if t276=true then (if (l0_3.length:Int)=(wrap64 (a0_0*a0_1)) then ((dioramaref19_all.f k l0_3 (-1) 15).bind fun t277=>(some t277)) else (some false)) else (some false))) else (some false)) else (some false))) else (some false)))=some r:=h
 clear h
 replace H:=Option.bind_eq_some_iff.mp H
 obtain ⟨t274,A20,H⟩:=H
 replace H:(if t274=true then ((dioramaref19_in.f a0_1 1 200).bind fun t275=>(if t275=true then (if (l0_2.length:Int)≤16 then ((dioramaref19_all.f k l0_2 0 16777215).bind fun t276=>(if t276=true then (if (l0_3.length:Int)=(wrap64 (a0_0*a0_1)) then ((dioramaref19_all.f k l0_3 (-1) 15).bind fun t277=>(some t277)) else (some false)) else (some false))) else (some false)) else (some false))) else (some false))=some r:=H
 have A2:=Aside0.mk A20;clear A20
 by_cases c3:t274=true
 · subst c3
   have H1:((dioramaref19_in.f a0_1 1 200).bind fun t275=>(if t275=true then (if (l0_2.length:Int)≤16 then ((dioramaref19_all.f k l0_2 0 16777215).bind fun t276=>(if t276=true then (if (l0_3.length:Int)=(wrap64 (a0_0*a0_1)) then ((dioramaref19_all.f k l0_3 (-1) 15).bind fun t277=>(some t277)) else (some false)) else (some false))) else (some false)) else (some false)))=some r:=by rw [if_pos rfl] at H;exact H
   clear H
   have H:=H1;clear H1
   replace H:=Option.bind_eq_some_iff.mp H
   obtain ⟨t275,A40,H⟩:=H
   replace H:(if t275=true then (if (l0_2.length:Int)≤16 then ((dioramaref19_all.f k l0_2 0 16777215).bind fun t276=>(if t276=true then (if (l0_3.length:Int)=(wrap64 (a0_0*a0_1)) then ((dioramaref19_all.f k l0_3 (-1) 15).bind fun t277=>(some t277)) else (some false)) else (some false))) else (some false)) else (some false))=some r:=H
   have A4:=Aside0.mk A40;clear A40
   by_cases c5:t275=true
   · subst c5
     have H1:(if (l0_2.length:Int)≤16 then ((dioramaref19_all.f k l0_2 0 16777215).bind fun t276=>(if t276=true then (if (l0_3.length:Int)=(wrap64 (a0_0*a0_1)) then ((dioramaref19_all.f k l0_3 (-1) 15).bind fun t277=>(some t277)) else (some false)) else (some false))) else (some false))=some r:=by rw [if_pos rfl] at H;exact H
     clear H
     have H:=H1;clear H1
     by_cases c6:(l0_2.length:Int)≤16
     · rw [if_pos c6] at H
       have c6b0:decide ((l0_2.length:Int)≤16)=true:=decide_eq_true c6
       have c6b1:decide (l0_2.length≤16)=true:=decide_eq_true (by omega);clear c6
       replace H:=Option.bind_eq_some_iff.mp H
       obtain ⟨t276,A70,H⟩:=H
       replace H:(if t276=true then (if (l0_3.length:Int)=(wrap64 (a0_0*a0_1)) then ((dioramaref19_all.f k l0_3 (-1) 15).bind fun t277=>(some t277)) else (some false)) else (some false))=some r:=H
       have A7:=Aside0.mk A70;clear A70
       by_cases c8:t276=true
       · subst c8
         have H1:(if (l0_3.length:Int)=(wrap64 (a0_0*a0_1)) then ((dioramaref19_all.f k l0_3 (-1) 15).bind fun t277=>(some t277)) else (some false))=some r:=by rw [if_pos rfl] at H;exact H
         clear H
         have H:=H1;clear H1
         by_cases c9:(l0_3.length:Int)=(wrap64 (a0_0*a0_1))
         · rw [if_pos c9] at H
           have c9b0:((l0_3.length:Int) == (wrap64 (a0_0*a0_1)))=true:=beq_iff_eq.mpr c9
           have c9b1:((l0_3.length:Int) != (wrap64 (a0_0*a0_1)))=false:=bne_eq_false_iff_eq.mpr c9;clear c9
           replace H:=Option.bind_eq_some_iff.mp H
           obtain ⟨t277,A100,H⟩:=H
           replace H:(some t277)=some r:=H
           have A10:=Aside0.mk A100;clear A100
           obtain rfl:=Option.some.inj H
           go_enter Try.func67,Try.ntmps67
           go_wp2_with (first|((with_reducible refine gate_dst (N:=1) rfl ?_);(try (refine gate_guard (by rfl) ?_;dsimp only));refine box_event ?hg (N:=1) ?hd (cs:=#[.int .i64 a0_0,.int .i64 a0_1,.slice A0_2 l0_2.length c0_2,.slice A0_3 l0_3.length c0_3]) (t:=41) ?hr ?_;(case hd=>rfl);(case hg=>rfl);(case hr=>first|(go_simp;done)|(go_simp;rfl));intro gb273 hg w11 hbox hb;have n0_:=Aside0.mk (below_step (belV HB.out) hb);have n1_:=Aside0.mk (hbox);have n2_:=Aside0.mk ((by rw [hg];exact (below_size (belV HB.out)):w.heap.size≤gb273));have n3_:=Aside0.mk ((by rw [hg];exact (below_size (belV HB.out)):w.heap.size≤gb273));clear HB;have HB:=n0_;have BK273:=n1_;have GW273:=n2_;have GE273:=n3_;clear n0_ n1_ n2_ n3_;clear hb hbox hg;obtain ⟨hcz12_0,hcz12_1,hcz12_2,hcz12_3,hfz12_0,hfz12_1,hfz12_2,hfz12_3⟩:=bcells4 BK273.out)|((with_reducible refine gate_callee (f:=50) rfl ?_);refine goesL_ (some 5) rfl rfl Try.func50 (by kernel_rfl) rfl #[.int .i64 a0_0,.int .i64 1,.int .i64 200] rfl (by (try simp only [List.map_toArray,List.map_cons,List.map_nil]);first|done|rfl|(simp only [List.length_drop,List.length_take];rfl)) ?_;(with_reducible refine (dioramaref19_in.calls a0_0 1 200 true _ A2.out).mono ?_);rintro e w' ⟨rfl,⟨nd,rfl⟩⟩;refine ⟨_,rfl,?_⟩)|(go_at_call 50;(with_reducible refine (dioramaref19_in.calls a0_1 1 200 true _ A4.out).mono ?_);rintro e w' ⟨rfl,⟨nd,rfl⟩⟩)|(go_at_call 51;(with_reducible refine (dioramaref19_all.calls k _ _ l0_2 0 16777215 true _ ?side1 ?side2 A7.out).mono ?_);(case side1=>repeat (first|exact (Kd.C_below HR0_2.out (belV1 HB.out GE273.out))|(with_reducible refine Kd.C_alloc ?_ _)|(with_reducible refine Kd.C_drewN ?_ _)|(with_reducible refine Kd.C_drew ?_)));(case side2=>exact HC0_2.out);rintro e w' ⟨rfl,⟨nd,rfl⟩⟩)|(go_at_call 51;(with_reducible refine (dioramaref19_all.calls k _ _ l0_3 (-1) 15 t277 _ ?side1 ?side2 A10.out).mono ?_);(case side1=>repeat (first|exact (Kd.C_below HR0_3.out (belV1 HB.out GE273.out))|(with_reducible refine Kd.C_alloc ?_ _)|(with_reducible refine Kd.C_drewN ?_ _)|(with_reducible refine Kd.C_drew ?_)));(case side2=>exact HC0_3.out);rintro e w' ⟨rfl,⟨nd,rfl⟩⟩))
           go_ret
           exact ⟨by first|rfl|(simp [errW_none,errW_some] <;> rfl)|(simp [*,errW_none,errW_some] <;> rfl),by repeat (first|(with_reducible first|exact HB.out|apply below_alloc|apply pw_below_drewN|apply below_drew1|refine below_set ?_ GE273.out)|exact HB.out)⟩
         rw [if_neg c9] at H
         have c9b0:((l0_3.length:Int) == (wrap64 (a0_0*a0_1)))=false:=beq_eq_false_iff_ne.mpr c9
         have c9b1:((l0_3.length:Int) != (wrap64 (a0_0*a0_1)))=true:=bne_iff_ne.mpr c9
         obtain rfl:=Option.some.inj H
         go_enter Try.func67,Try.ntmps67
         go_wp2_with (first|((with_reducible refine gate_dst (N:=1) rfl ?_);(try (refine gate_guard (by rfl) ?_;dsimp only));refine box_event ?hg (N:=1) ?hd (cs:=#[.int .i64 a0_0,.int .i64 a0_1,.slice A0_2 l0_2.length c0_2,.slice A0_3 l0_3.length c0_3]) (t:=41) ?hr ?_;(case hd=>rfl);(case hg=>rfl);(case hr=>first|(go_simp;done)|(go_simp;rfl));intro gb273 hg w13 hbox hb;have n0_:=Aside0.mk (below_step (belV HB.out) hb);have n1_:=Aside0.mk (hbox);have n2_:=Aside0.mk ((by rw [hg];exact (below_size (belV HB.out)):w.heap.size≤gb273));have n3_:=Aside0.mk ((by rw [hg];exact (below_size (belV HB.out)):w.heap.size≤gb273));clear HB;have HB:=n0_;have BK273:=n1_;have GW273:=n2_;have GE273:=n3_;clear n0_ n1_ n2_ n3_;clear hb hbox hg;obtain ⟨hcz14_0,hcz14_1,hcz14_2,hcz14_3,hfz14_0,hfz14_1,hfz14_2,hfz14_3⟩:=bcells4 BK273.out)|((with_reducible refine gate_callee (f:=50) rfl ?_);refine goesL_ (some 5) rfl rfl Try.func50 (by kernel_rfl) rfl #[.int .i64 a0_0,.int .i64 1,.int .i64 200] rfl (by (try simp only [List.map_toArray,List.map_cons,List.map_nil]);first|done|rfl|(simp only [List.length_drop,List.length_take];rfl)) ?_;(with_reducible refine (dioramaref19_in.calls a0_0 1 200 true _ A2.out).mono ?_);rintro e w' ⟨rfl,⟨nd,rfl⟩⟩;refine ⟨_,rfl,?_⟩)|(go_at_call 50;(with_reducible refine (dioramaref19_in.calls a0_1 1 200 true _ A4.out).mono ?_);rintro e w' ⟨rfl,⟨nd,rfl⟩⟩)|(go_at_call 51;(with_reducible refine (dioramaref19_all.calls k _ _ l0_2 0 16777215 true _ ?side1 ?side2 A7.out).mono ?_);(case side1=>repeat (first|exact (Kd.C_below HR0_2.out (belV1 HB.out GE273.out))|(with_reducible refine Kd.C_alloc ?_ _)|(with_reducible refine Kd.C_drewN ?_ _)|(with_reducible refine Kd.C_drew ?_)));(case side2=>exact HC0_2.out);rintro e w' ⟨rfl,⟨nd,rfl⟩⟩))
         go_ret
         exact ⟨by first|rfl|(simp [errW_none,errW_some] <;> rfl)|(simp [*,errW_none,errW_some] <;> rfl),by repeat (first|(with_reducible first|exact HB.out|apply below_alloc|apply pw_below_drewN|apply below_drew1|refine below_set ?_ GE273.out)|exact HB.out)⟩
       replace c8:=Bool.eq_false_iff.mpr c8;subst c8
       have H1:(some false)=some r:=by rw [if_neg (show ¬ (false=true) by decide)] at H;exact H
       clear H
       have H:=H1;clear H1
       obtain rfl:=Option.some.inj H
       go_enter Try.func67,Try.ntmps67
       go_wp2_with (first|((with_reducible refine gate_dst (N:=1) rfl ?_);(try (refine gate_guard (by rfl) ?_;dsimp only));refine box_event ?hg (N:=1) ?hd (cs:=#[.int .i64 a0_0,.int .i64 a0_1,.slice A0_2 l0_2.length c0_2,.slice A0_3 l0_3.length c0_3]) (t:=41) ?hr ?_;(case hd=>rfl);(case hg=>rfl);(case hr=>first|(go_simp;done)|(go_simp;rfl));intro gb273 hg w15 hbox hb;have n0_:=Aside0.mk (below_step (belV HB.out) hb);have n1_:=Aside0.mk (hbox);have n2_:=Aside0.mk ((by rw [hg];exact (below_size (belV HB.out)):w.heap.size≤gb273));have n3_:=Aside0.mk ((by rw [hg];exact (below_size (belV HB.out)):w.heap.size≤gb273));clear HB;have HB:=n0_;have BK273:=n1_;have GW273:=n2_;have GE273:=n3_;clear n0_ n1_ n2_ n3_;clear hb hbox hg;obtain ⟨hcz16_0,hcz16_1,hcz16_2,hcz16_3,hfz16_0,hfz16_1,hfz16_2,hfz16_3⟩:=bcells4 BK273.out)|((with_reducible refine gate_callee (f:=50) rfl ?_);refine goesL_ (some 5) rfl rfl Try.func50 (by kernel_rfl) rfl #[.int .i64 a0_0,.int .i64 1,.int .i64 200] rfl (by (try simp only [List.map_toArray,List.map_cons,List.map_nil]);first|done|rfl|(simp only [List.length_drop,List.length_take];rfl)) ?_;(with_reducible refine (dioramaref19_in.calls a0_0 1 200 true _ A2.out).mono ?_);rintro e w' ⟨rfl,⟨nd,rfl⟩⟩;refine ⟨_,rfl,?_⟩)|(go_at_call 50;(with_reducible refine (dioramaref19_in.calls a0_1 1 200 true _ A4.out).mono ?_);rintro e w' ⟨rfl,⟨nd,rfl⟩⟩)|(go_at_call 51;(with_reducible refine (dioramaref19_all.calls k _ _ l0_2 0 16777215 false _ ?side1 ?side2 A7.out).mono ?_);(case side1=>repeat (first|exact (Kd.C_below HR0_2.out (belV1 HB.out GE273.out))|(with_reducible refine Kd.C_alloc ?_ _)|(with_reducible refine Kd.C_drewN ?_ _)|(with_reducible refine Kd.C_drew ?_)));(case side2=>exact HC0_2.out);rintro e w' ⟨rfl,⟨nd,rfl⟩⟩))
       go_ret
       exact ⟨by first|rfl|(simp [errW_none,errW_some] <;> rfl)|(simp [*,errW_none,errW_some] <;> rfl),by repeat (first|(with_reducible first|exact HB.out|apply below_alloc|apply pw_below_drewN|apply below_drew1|refine below_set ?_ GE273.out)|exact HB.out)⟩
     rw [if_neg c6] at H
     have c6b0:decide ((l0_2.length:Int)≤16)=false:=decide_eq_false c6
     have c6b1:decide (l0_2.length≤16)=false:=decide_eq_false (by omega);clear c6
     obtain rfl:=Option.some.inj H
     go_enter Try.func67,Try.ntmps67
     go_wp2_with (first|((with_reducible refine gate_dst (N:=1) rfl ?_);(try (refine gate_guard (by rfl) ?_;dsimp only));refine box_event ?hg (N:=1) ?hd (cs:=#[.int .i64 a0_0,.int .i64 a0_1,.slice A0_2 l0_2.length c0_2,.slice A0_3 l0_3.length c0_3]) (t:=41) ?hr ?_;(case hd=>rfl);(case hg=>rfl);(case hr=>first|(go_simp;done)|(go_simp;rfl));intro gb273 hg w17 hbox hb;have n0_:=Aside0.mk (below_step (belV HB.out) hb);have n1_:=Aside0.mk (hbox);have n2_:=Aside0.mk ((by rw [hg];exact (below_size (belV HB.out)):w.heap.size≤gb273));have n3_:=Aside0.mk ((by rw [hg];exact (below_size (belV HB.out)):w.heap.size≤gb273));clear HB;have HB:=n0_;have BK273:=n1_;have GW273:=n2_;have GE273:=n3_;clear n0_ n1_ n2_ n3_;clear hb hbox hg;obtain ⟨hcz18_0,hcz18_1,hcz18_2,hcz18_3,hfz18_0,hfz18_1,hfz18_2,hfz18_3⟩:=bcells4 BK273.out)|((with_reducible refine gate_callee (f:=50) rfl ?_);refine goesL_ (some 5) rfl rfl Try.func50 (by kernel_rfl) rfl #[.int .i64 a0_0,.int .i64 1,.int .i64 200] rfl (by (try simp only [List.map_toArray,List.map_cons,List.map_nil]);first|done|rfl|(simp only [List.length_drop,List.length_take];rfl)) ?_;(with_reducible refine (dioramaref19_in.calls a0_0 1 200 true _ A2.out).mono ?_);rintro e w' ⟨rfl,⟨nd,rfl⟩⟩;refine ⟨_,rfl,?_⟩)|(go_at_call 50;(with_reducible refine (dioramaref19_in.calls a0_1 1 200 true _ A4.out).mono ?_);rintro e w' ⟨rfl,⟨nd,rfl⟩⟩))
     go_ret
     exact ⟨by first|rfl|(simp [errW_none,errW_some] <;> rfl)|(simp [*,errW_none,errW_some] <;> rfl),by repeat (first|(with_reducible first|exact HB.out|apply below_alloc|apply pw_below_drewN|apply below_drew1|refine below_set ?_ GE273.out)|exact HB.out)⟩
   replace c5:=Bool.eq_false_iff.mpr c5;subst c5
   have H1:(some false)=some r:=by rw [if_neg (show ¬ (false=true) by decide)] at H;exact H
   clear H
   have H:=H1;clear H1
   obtain rfl:=Option.some.inj H
   go_enter Try.func67,Try.ntmps67
   go_wp2_with (first|((with_reducible refine gate_dst (N:=1) rfl ?_);(try (refine gate_guard (by rfl) ?_;dsimp only));refine box_event ?hg (N:=1) ?hd (cs:=#[.int .i64 a0_0,.int .i64 a0_1,.slice A0_2 l0_2.length c0_2,.slice A0_3 l0_3.length c0_3]) (t:=41) ?hr ?_;(case hd=>rfl);(case hg=>rfl);(case hr=>first|(go_simp;done)|(go_simp;rfl));intro gb273 hg w19 hbox hb;have n0_:=Aside0.mk (below_step (belV HB.out) hb);have n1_:=Aside0.mk (hbox);have n2_:=Aside0.mk ((by rw [hg];exact (below_size (belV HB.out)):w.heap.size≤gb273));have n3_:=Aside0.mk ((by rw [hg];exact (below_size (belV HB.out)):w.heap.size≤gb273));clear HB;have HB:=n0_;have BK273:=n1_;have GW273:=n2_;have GE273:=n3_;clear n0_ n1_ n2_ n3_;clear hb hbox hg;obtain ⟨hcz20_0,hcz20_1,hcz20_2,hcz20_3,hfz20_0,hfz20_1,hfz20_2,hfz20_3⟩:=bcells4 BK273.out)|((with_reducible refine gate_callee (f:=50) rfl ?_);refine goesL_ (some 5) rfl rfl Try.func50 (by kernel_rfl) rfl #[.int .i64 a0_0,.int .i64 1,.int .i64 200] rfl (by (try simp only [List.map_toArray,List.map_cons,List.map_nil]);first|done|rfl|(simp only [List.length_drop,List.length_take];rfl)) ?_;(with_reducible refine (dioramaref19_in.calls a0_0 1 200 true _ A2.out).mono ?_);rintro e w' ⟨rfl,⟨nd,rfl⟩⟩;refine ⟨_,rfl,?_⟩)|(go_at_call 50;(with_reducible refine (dioramaref19_in.calls a0_1 1 200 false _ A4.out).mono ?_);rintro e w' ⟨rfl,⟨nd,rfl⟩⟩))
   go_ret
   exact ⟨by first|rfl|(simp [errW_none,errW_some] <;> rfl)|(simp [*,errW_none,errW_some] <;> rfl),by repeat (first|(with_reducible first|exact HB.out|apply below_alloc|apply pw_below_drewN|apply below_drew1|refine below_set ?_ GE273.out)|exact HB.out)⟩
 replace c3:=Bool.eq_false_iff.mpr c3;subst c3
 have H1:(some false)=some r:=by rw [if_neg (show ¬ (false=true) by decide)] at H;exact H
 clear H
 have H:=H1;clear H1
 obtain rfl:=Option.some.inj H
 go_enter Try.func67,Try.ntmps67
 go_wp2_with (first|((with_reducible refine gate_dst (N:=1) rfl ?_);(try (refine gate_guard (by rfl) ?_;dsimp only));refine box_event ?hg (N:=1) ?hd (cs:=#[.int .i64 a0_0,.int .i64 a0_1,.slice A0_2 l0_2.length c0_2,.slice A0_3 l0_3.length c0_3]) (t:=41) ?hr ?_;(case hd=>rfl);(case hg=>rfl);(case hr=>first|(go_simp;done)|(go_simp;rfl));intro gb273 hg w21 hbox hb;have n0_:=Aside0.mk (below_step (belV HB.out) hb);have n1_:=Aside0.mk (hbox);have n2_:=Aside0.mk ((by rw [hg];exact (below_size (belV HB.out)):w.heap.size≤gb273));have n3_:=Aside0.mk ((by rw [hg];exact (below_size (belV HB.out)):w.heap.size≤gb273));clear HB;have HB:=n0_;have BK273:=n1_;have GW273:=n2_;have GE273:=n3_;clear n0_ n1_ n2_ n3_;clear hb hbox hg;obtain ⟨hcz22_0,hcz22_1,hcz22_2,hcz22_3,hfz22_0,hfz22_1,hfz22_2,hfz22_3⟩:=bcells4 BK273.out)|((with_reducible refine gate_callee (f:=50) rfl ?_);refine goesL_ (some 5) rfl rfl Try.func50 (by kernel_rfl) rfl #[.int .i64 a0_0,.int .i64 1,.int .i64 200] rfl (by (try simp only [List.map_toArray,List.map_cons,List.map_nil]);first|done|rfl|(simp only [List.length_drop,List.length_take];rfl)) ?_;(with_reducible refine (dioramaref19_in.calls a0_0 1 200 false _ A2.out).mono ?_);rintro e w' ⟨rfl,⟨nd,rfl⟩⟩;refine ⟨_,rfl,?_⟩))
 go_ret
 exact ⟨by first|rfl|(simp [errW_none,errW_some] <;> rfl)|(simp [*,errW_none,errW_some] <;> rfl),by repeat (first|(with_reducible first|exact HB.out|apply below_alloc|apply pw_below_drewN|apply below_drew1|refine below_set ?_ GE273.out)|exact HB.out)⟩

end Go.Proofs.Ytaebgjdaoloceaa.QBmpD
