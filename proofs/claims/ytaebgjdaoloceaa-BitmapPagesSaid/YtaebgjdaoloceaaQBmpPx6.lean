/- Part of a proof: functions of the program as Lean functions, and that the machine's calls come to them. Made by a program of this session (wip/mp). -/
import Derived.Test.YtaebgjdaoloceaaQBmpPx0
import Derived.Test.YtaebgjdaoloceaaQBmpPx5
namespace Go.Proofs.Ytaebgjdaoloceaa.QBmpP
open Go.RowKit Go.Proofs.YtaebgjdaoloceaaV Go.Proofs.YtaebgjdaoloceaaW.PrintWords Go.Proofs.YtaebgjdaoloceaaW.PrintLast Go.Proofs.YtaebgjdaoloceaaW.PrintMore
attribute [local go_sem] max2_int min2_int max_two min_two max_three min_three max_four min_four   -- for this text's walks alone
set_option linter.unusedVariables false
set_option linter.unusedSimpArgs false

/-! ### dioramaref19_place: function 73 -/
def dioramaref19_place.f (a0_0 : Int) (a0_1 : Int) (a0_2 : Int) (a0_3 : Int) (l0_4 : List Int) : Option (Int) := (dioramaref19_in.f a0_0 0 999).bind fun t313 => (if t313 = true then ((dioramaref19_in.f a0_1 0 999).bind fun t314 => (if t314 = true then ((dioramaref19_in.f a0_2 1 64).bind fun t315 => (if t315 = true then ((dioramaref19_in.f a0_3 1 64).bind fun t316 => (if t316 = true then (some 0) else (some 1))) else (some 1))) else (some 1))) else (some 1))
set_option maxHeartbeats 8000000 in
set_option maxRecDepth 100000 in
theorem dioramaref19_place.calls (a0_0:Int) (a0_1:Int) (a0_2:Int) (a0_3:Int) (A0_4:Option Addr) (c0_4:Nat) (l0_4:List Int) (r:Int) (w:World) (hr0_4:Kd.C (Kd.int .i64) w A0_4 l0_4.length l0_4) (hc0_4:l0_4.length≤c0_4) (h:dioramaref19_place.f a0_0 a0_1 a0_2 a0_3 l0_4=some r) :
 Calls Try.prog 73 #[.agg #[.int .i64 a0_0,.int .i64 a0_1,.int .i64 a0_2,.int .i64 a0_3,.slice A0_4 l0_4.length c0_4]] w fun e w'=>e=.returned (.int .i64 r)∧Below w.heap.size w w':=by
 have hu91:=Try.underlying91
 have HR0_4:=Aside0.mk hr0_4
 have HC0_4:=Aside0.mk hc0_4;clear hr0_4 hc0_4;have HB:=Aside0.mk (Below.refl w.heap.size w)
 have H:((dioramaref19_in.f a0_0 0 999).bind fun t313=>(if t313=true then ((dioramaref19_in.f a0_1 0 999).bind fun t314=>(if t314=true then ((dioramaref19_in.f a0_2 1 64).bind fun t315=>(if t315=true then ((dioramaref19_in.f a0_3 1 64).bind fun t316=>(if t316=true then (some 0) else (some 1))) else (some 1))) else (some 1))) else (some 1)))=some r:=h
 clear h
 replace H:=Option.bind_eq_some_iff.mp H
 obtain ⟨t313,A20,H⟩:=H
 replace H:(if t313=true then ((dioramaref19_in.f a0_1 0 999).bind fun t314=>(if t314=true then ((dioramaref19_in.f a0_2 1 64).bind fun t315=>(if t315=true then ((dioramaref19_in.f a0_3 1 64).bind fun t316=>(if t316=true then (some 0) else (some 1))) else (some 1))) else (some 1))) else (some 1))=some r:=H
 have A2:=Aside0.mk A20;clear A20
 by_cases c3:t313=true
 · subst c3
   have H1:((dioramaref19_in.f a0_1 0 999).bind fun t314=>(if t314=true then ((dioramaref19_in.f a0_2 1 64).bind fun t315=>(if t315=true then ((dioramaref19_in.f a0_3 1 64).bind fun t316=>(if t316=true then (some 0) else (some 1))) else (some 1))) else (some 1)))=some r:=by rw [if_pos rfl] at H;exact H
   clear H
   have H:=H1;clear H1
   replace H:=Option.bind_eq_some_iff.mp H
   obtain ⟨t314,A40,H⟩:=H
   replace H:(if t314=true then ((dioramaref19_in.f a0_2 1 64).bind fun t315=>(if t315=true then ((dioramaref19_in.f a0_3 1 64).bind fun t316=>(if t316=true then (some 0) else (some 1))) else (some 1))) else (some 1))=some r:=H
   have A4:=Aside0.mk A40;clear A40
   by_cases c5:t314=true
   · subst c5
     have H1:((dioramaref19_in.f a0_2 1 64).bind fun t315=>(if t315=true then ((dioramaref19_in.f a0_3 1 64).bind fun t316=>(if t316=true then (some 0) else (some 1))) else (some 1)))=some r:=by rw [if_pos rfl] at H;exact H
     clear H
     have H:=H1;clear H1
     replace H:=Option.bind_eq_some_iff.mp H
     obtain ⟨t315,A60,H⟩:=H
     replace H:(if t315=true then ((dioramaref19_in.f a0_3 1 64).bind fun t316=>(if t316=true then (some 0) else (some 1))) else (some 1))=some r:=H
     have A6:=Aside0.mk A60;clear A60
     by_cases c7:t315=true
     · subst c7
       have H1:((dioramaref19_in.f a0_3 1 64).bind fun t316=>(if t316=true then (some 0) else (some 1)))=some r:=by rw [if_pos rfl] at H;exact H
       clear H
       have H:=H1;clear H1
       replace H:=Option.bind_eq_some_iff.mp H
       obtain ⟨t316,A80,H⟩:=H
       replace H:(if t316=true then (some 0) else (some 1))=some r:=H
       have A8:=Aside0.mk A80;clear A80
       by_cases c9:t316=true
       · subst c9
         have H1:(some 0)=some r:=by rw [if_pos rfl] at H;exact H
         clear H
         have H:=H1;clear H1
         obtain rfl:=Option.some.inj H
         go_enter Try.func73,Try.ntmps73
         go_wp2_with (first|((with_reducible refine gate_dst (N:=1) rfl ?_);refine box_event ?hg (N:=1) ?hd (cs:=#[.int .i64 a0_0,.int .i64 a0_1,.int .i64 a0_2,.int .i64 a0_3,.slice A0_4 l0_4.length c0_4]) (t:=91) ?hr ?_;(case hd=>rfl);(case hg=>rfl);(case hr=>first|(go_simp;done)|(go_simp;rfl));intro gb312 hg w10 hbox hb;have n0_:=Aside0.mk (below_step (belV HB.out) hb);have n1_:=Aside0.mk (hbox);have n2_:=Aside0.mk ((by rw [hg];exact (below_size (belV HB.out)):w.heap.size≤gb312));have n3_:=Aside0.mk ((by rw [hg];exact (below_size (belV HB.out)):w.heap.size≤gb312));clear HB;have HB:=n0_;have BK312:=n1_;have GW312:=n2_;have GE312:=n3_;clear n0_ n1_ n2_ n3_;clear hb hbox hg;obtain ⟨hcz11_0,hcz11_1,hcz11_2,hcz11_3,hcz11_4,hfz11_0,hfz11_1,hfz11_2,hfz11_3,hfz11_4⟩:=bcells5 BK312.out)|((with_reducible refine gate_callee (f:=50) rfl ?_);refine goesL_ (some 5) rfl rfl Try.func50 (by kernel_rfl) rfl #[.int .i64 a0_0,.int .i64 0,.int .i64 999] rfl (by (try simp only [List.map_toArray,List.map_cons,List.map_nil]);first|done|rfl|(simp only [List.length_drop,List.length_take];rfl)) ?_;(with_reducible refine (dioramaref19_in.calls a0_0 0 999 true _ A2.out).mono ?_);rintro e w' ⟨rfl,⟨nd,rfl⟩⟩;refine ⟨_,rfl,?_⟩)|(go_at_call 50;(with_reducible refine (dioramaref19_in.calls a0_1 0 999 true _ A4.out).mono ?_);rintro e w' ⟨rfl,⟨nd,rfl⟩⟩)|(go_at_call 50;(with_reducible refine (dioramaref19_in.calls a0_2 1 64 true _ A6.out).mono ?_);rintro e w' ⟨rfl,⟨nd,rfl⟩⟩)|(go_at_call 50;(with_reducible refine (dioramaref19_in.calls a0_3 1 64 true _ A8.out).mono ?_);rintro e w' ⟨rfl,⟨nd,rfl⟩⟩))
         go_ret
         exact ⟨by first|rfl|(simp [errW_none,errW_some] <;> rfl)|(simp [*,errW_none,errW_some] <;> rfl),by repeat (first|(with_reducible first|exact HB.out|apply below_alloc|apply pw_below_drewN|apply below_drew1|refine below_set ?_ GE312.out)|exact HB.out)⟩
       replace c9:=Bool.eq_false_iff.mpr c9;subst c9
       have H1:(some 1)=some r:=by rw [if_neg (show ¬ (false=true) by decide)] at H;exact H
       clear H
       have H:=H1;clear H1
       obtain rfl:=Option.some.inj H
       go_enter Try.func73,Try.ntmps73
       go_wp2_with (first|((with_reducible refine gate_dst (N:=1) rfl ?_);refine box_event ?hg (N:=1) ?hd (cs:=#[.int .i64 a0_0,.int .i64 a0_1,.int .i64 a0_2,.int .i64 a0_3,.slice A0_4 l0_4.length c0_4]) (t:=91) ?hr ?_;(case hd=>rfl);(case hg=>rfl);(case hr=>first|(go_simp;done)|(go_simp;rfl));intro gb312 hg w12 hbox hb;have n0_:=Aside0.mk (below_step (belV HB.out) hb);have n1_:=Aside0.mk (hbox);have n2_:=Aside0.mk ((by rw [hg];exact (below_size (belV HB.out)):w.heap.size≤gb312));have n3_:=Aside0.mk ((by rw [hg];exact (below_size (belV HB.out)):w.heap.size≤gb312));clear HB;have HB:=n0_;have BK312:=n1_;have GW312:=n2_;have GE312:=n3_;clear n0_ n1_ n2_ n3_;clear hb hbox hg;obtain ⟨hcz13_0,hcz13_1,hcz13_2,hcz13_3,hcz13_4,hfz13_0,hfz13_1,hfz13_2,hfz13_3,hfz13_4⟩:=bcells5 BK312.out)|((with_reducible refine gate_callee (f:=50) rfl ?_);refine goesL_ (some 5) rfl rfl Try.func50 (by kernel_rfl) rfl #[.int .i64 a0_0,.int .i64 0,.int .i64 999] rfl (by (try simp only [List.map_toArray,List.map_cons,List.map_nil]);first|done|rfl|(simp only [List.length_drop,List.length_take];rfl)) ?_;(with_reducible refine (dioramaref19_in.calls a0_0 0 999 true _ A2.out).mono ?_);rintro e w' ⟨rfl,⟨nd,rfl⟩⟩;refine ⟨_,rfl,?_⟩)|(go_at_call 50;(with_reducible refine (dioramaref19_in.calls a0_1 0 999 true _ A4.out).mono ?_);rintro e w' ⟨rfl,⟨nd,rfl⟩⟩)|(go_at_call 50;(with_reducible refine (dioramaref19_in.calls a0_2 1 64 true _ A6.out).mono ?_);rintro e w' ⟨rfl,⟨nd,rfl⟩⟩)|(go_at_call 50;(with_reducible refine (dioramaref19_in.calls a0_3 1 64 false _ A8.out).mono ?_);rintro e w' ⟨rfl,⟨nd,rfl⟩⟩))
       go_ret
       exact ⟨by first|rfl|(simp [errW_none,errW_some] <;> rfl)|(simp [*,errW_none,errW_some] <;> rfl),by repeat (first|(with_reducible first|exact HB.out|apply below_alloc|apply pw_below_drewN|apply below_drew1|refine below_set ?_ GE312.out)|exact HB.out)⟩
     replace c7:=Bool.eq_false_iff.mpr c7;subst c7
     have H1:(some 1)=some r:=by rw [if_neg (show ¬ (false=true) by decide)] at H;exact H
     clear H
     have H:=H1;clear H1
     obtain rfl:=Option.some.inj H
     go_enter Try.func73,Try.ntmps73
     go_wp2_with (first|((with_reducible refine gate_dst (N:=1) rfl ?_);refine box_event ?hg (N:=1) ?hd (cs:=#[.int .i64 a0_0,.int .i64 a0_1,.int .i64 a0_2,.int .i64 a0_3,.slice A0_4 l0_4.length c0_4]) (t:=91) ?hr ?_;(case hd=>rfl);(case hg=>rfl);(case hr=>first|(go_simp;done)|(go_simp;rfl));intro gb312 hg w14 hbox hb;have n0_:=Aside0.mk (below_step (belV HB.out) hb);have n1_:=Aside0.mk (hbox);have n2_:=Aside0.mk ((by rw [hg];exact (below_size (belV HB.out)):w.heap.size≤gb312));have n3_:=Aside0.mk ((by rw [hg];exact (below_size (belV HB.out)):w.heap.size≤gb312));clear HB;have HB:=n0_;have BK312:=n1_;have GW312:=n2_;have GE312:=n3_;clear n0_ n1_ n2_ n3_;clear hb hbox hg;obtain ⟨hcz15_0,hcz15_1,hcz15_2,hcz15_3,hcz15_4,hfz15_0,hfz15_1,hfz15_2,hfz15_3,hfz15_4⟩:=bcells5 BK312.out)|((with_reducible refine gate_callee (f:=50) rfl ?_);refine goesL_ (some 5) rfl rfl Try.func50 (by kernel_rfl) rfl #[.int .i64 a0_0,.int .i64 0,.int .i64 999] rfl (by (try simp only [List.map_toArray,List.map_cons,List.map_nil]);first|done|rfl|(simp only [List.length_drop,List.length_take];rfl)) ?_;(with_reducible refine (dioramaref19_in.calls a0_0 0 999 true _ A2.out).mono ?_);rintro e w' ⟨rfl,⟨nd,rfl⟩⟩;refine ⟨_,rfl,?_⟩)|(go_at_call 50;(with_reducible refine (dioramaref19_in.calls a0_1 0 999 true _ A4.out).mono ?_);rintro e w' ⟨rfl,⟨nd,rfl⟩⟩)|(go_at_call 50;(with_reducible refine (dioramaref19_in.calls a0_2 1 64 false _ A6.out).mono ?_);rintro e w' ⟨rfl,⟨nd,rfl⟩⟩))
     go_ret
     exact ⟨by first|rfl|(simp [errW_none,errW_some] <;> rfl)|(simp [*,errW_none,errW_some] <;> rfl),by repeat (first|(with_reducible first|exact HB.out|apply below_alloc|apply pw_below_drewN|apply below_drew1|refine below_set ?_ GE312.out)|exact HB.out)⟩
   replace c5:=Bool.eq_false_iff.mpr c5;subst c5
   have H1:(some 1)=some r:=by rw [if_neg (show ¬ (false=true) by decide)] at H;exact H
   clear H
   have H:=H1;clear H1
   obtain rfl:=Option.some.inj H
   go_enter Try.func73,Try.ntmps73
   go_wp2_with (first|((with_reducible refine gate_dst (N:=1) rfl ?_);refine box_event ?hg (N:=1) ?hd (cs:=#[.int .i64 a0_0,.int .i64 a0_1,.int .i64 a0_2,.int .i64 a0_3,.slice A0_4 l0_4.length c0_4]) (t:=91) ?hr ?_;(case hd=>rfl);(case hg=>rfl);(case hr=>first|(go_simp;done)|(go_simp;rfl));intro gb312 hg w16 hbox hb;have n0_:=Aside0.mk (below_step (belV HB.out) hb);have n1_:=Aside0.mk (hbox);have n2_:=Aside0.mk ((by rw [hg];exact (below_size (belV HB.out)):w.heap.size≤gb312));have n3_:=Aside0.mk ((by rw [hg];exact (below_size (belV HB.out)):w.heap.size≤gb312));clear HB;have HB:=n0_;have BK312:=n1_;have GW312:=n2_;have GE312:=n3_;clear n0_ n1_ n2_ n3_;clear hb hbox hg;obtain ⟨hcz17_0,hcz17_1,hcz17_2,hcz17_3,hcz17_4,hfz17_0,hfz17_1,hfz17_2,hfz17_3,hfz17_4⟩:=bcells5 BK312.out)|((with_reducible refine gate_callee (f:=50) rfl ?_);refine goesL_ (some 5) rfl rfl Try.func50 (by kernel_rfl) rfl #[.int .i64 a0_0,.int .i64 0,.int .i64 999] rfl (by (try simp only [List.map_toArray,List.map_cons,List.map_nil]);first|done|rfl|(simp only [List.length_drop,List.length_take];rfl)) ?_;(with_reducible refine (dioramaref19_in.calls a0_0 0 999 true _ A2.out).mono ?_);rintro e w' ⟨rfl,⟨nd,rfl⟩⟩;refine ⟨_,rfl,?_⟩)|(go_at_call 50;(with_reducible refine (dioramaref19_in.calls a0_1 0 999 false _ A4.out).mono ?_);rintro e w' ⟨rfl,⟨nd,rfl⟩⟩))
   go_ret
   exact ⟨by first|rfl|(simp [errW_none,errW_some] <;> rfl)|(simp [*,errW_none,errW_some] <;> rfl),by repeat (first|(with_reducible first|exact HB.out|apply below_alloc|apply pw_below_drewN|apply below_drew1|refine below_set ?_ GE312.out)|exact HB.out)⟩
 replace c3:=Bool.eq_false_iff.mpr c3;subst c3
 have H1:(some 1)=some r:=by rw [if_neg (show ¬ (false=true) by decide)] at H;exact H
 clear H
 have H:=H1;clear H1
 obtain rfl:=Option.some.inj H
 go_enter Try.func73,Try.ntmps73
 go_wp2_with (first|((with_reducible refine gate_dst (N:=1) rfl ?_);refine box_event ?hg (N:=1) ?hd (cs:=#[.int .i64 a0_0,.int .i64 a0_1,.int .i64 a0_2,.int .i64 a0_3,.slice A0_4 l0_4.length c0_4]) (t:=91) ?hr ?_;(case hd=>rfl);(case hg=>rfl);(case hr=>first|(go_simp;done)|(go_simp;rfl));intro gb312 hg w18 hbox hb;have n0_:=Aside0.mk (below_step (belV HB.out) hb);have n1_:=Aside0.mk (hbox);have n2_:=Aside0.mk ((by rw [hg];exact (below_size (belV HB.out)):w.heap.size≤gb312));have n3_:=Aside0.mk ((by rw [hg];exact (below_size (belV HB.out)):w.heap.size≤gb312));clear HB;have HB:=n0_;have BK312:=n1_;have GW312:=n2_;have GE312:=n3_;clear n0_ n1_ n2_ n3_;clear hb hbox hg;obtain ⟨hcz19_0,hcz19_1,hcz19_2,hcz19_3,hcz19_4,hfz19_0,hfz19_1,hfz19_2,hfz19_3,hfz19_4⟩:=bcells5 BK312.out)|((with_reducible refine gate_callee (f:=50) rfl ?_);refine goesL_ (some 5) rfl rfl Try.func50 (by kernel_rfl) rfl #[.int .i64 a0_0,.int .i64 0,.int .i64 999] rfl (by (try simp only [List.map_toArray,List.map_cons,List.map_nil]);first|done|rfl|(simp only [List.length_drop,List.length_take];rfl)) ?_;(with_reducible refine (dioramaref19_in.calls a0_0 0 999 false _ A2.out).mono ?_);rintro e w' ⟨rfl,⟨nd,rfl⟩⟩;refine ⟨_,rfl,?_⟩))
 go_ret
 exact ⟨by first|rfl|(simp [errW_none,errW_some] <;> rfl)|(simp [*,errW_none,errW_some] <;> rfl),by repeat (first|(with_reducible first|exact HB.out|apply below_alloc|apply pw_below_drewN|apply below_drew1|refine below_set ?_ GE312.out)|exact HB.out)⟩

/-! ### dioramaref19_Check: function 40 -/
mutual
def dioramaref19_Check.j0 : Nat → Bool → Bool → List Int → List (S91) → Option (Int)
 | 0,_,_,_,_=>none
 | k+1,x14,x318000,x318001,x318002=>if x14=true then (some 2) else ((dioramaref19_all.f k x318001 0 16777215).bind fun t318=>(if t318=true then (dioramaref19_Check.l0 k 0 x318000 x318001 x318002) else (some 1)))
def dioramaref19_Check.l0 : Nat → Int → Bool → List Int → List (S91) → Option (Int)
 | 0,_,_,_,_=>none
 | k+1,x3,x318000,x318001,x318002=>if x3 < (x318002.length:Int) then (if 0≤x3 then ((dioramaref19_place.f ((rd_T91 x318002 x3).f0) ((rd_T91 x318002 x3).f1) ((rd_T91 x318002 x3).f2) ((rd_T91 x318002 x3).f3) ((rd_T91 x318002 x3).f4)).bind fun t321=>(if t321=0 then ((dioramaref19_all.f k ((rd_T91 x318002 x3).f4) 0 15).bind fun t322=>(dioramaref19_Check.j2 k x3 (!t322) x318000 x318001 x318002 ((rd_T91 x318002 x3).f0) ((rd_T91 x318002 x3).f1) ((rd_T91 x318002 x3).f2) ((rd_T91 x318002 x3).f3) ((rd_T91 x318002 x3).f4))) else (dioramaref19_Check.j2 k x3 true x318000 x318001 x318002 ((rd_T91 x318002 x3).f0) ((rd_T91 x318002 x3).f1) ((rd_T91 x318002 x3).f2) ((rd_T91 x318002 x3).f3) ((rd_T91 x318002 x3).f4)))) else (none)) else (some 0)
def dioramaref19_Check.j2 : Nat → Int → Bool → Bool → List Int → List (S91) → Int → Int → Int → Int → List Int → Option (Int)
 | 0,_,_,_,_,_,_,_,_,_,_=>none
 | k+1,x3,x39,x318000,x318001,x318002,x321000,x321001,x321002,x321003,x321004=>if x39=true then (some 1) else (if (x321004.length:Int)=(wrap64 (x321002*x321003)) then (dioramaref19_Check.l0 k (wrap64 (x3+1)) x318000 x318001 x318002) else (some 4))
end
def dioramaref19_Check.f (k : Nat) (a0_0 : Bool) (l0_1 : List Int) (l0_2 : List (S91)) : Option (Int) := if (l0_1.length : Int) > 16 then (dioramaref19_Check.j0 k true a0_0 l0_1 l0_2) else (dioramaref19_Check.j0 k (decide ((l0_2.length : Int) > 8)) a0_0 l0_1 l0_2)
theorem dioramaref19_Check.mono_l:∀ k,(∀ y0 y1 y2 y3,LeO (dioramaref19_Check.j0 k y0 y1 y2 y3) (dioramaref19_Check.j0 (k+1) y0 y1 y2 y3))∧(∀ y0 y1 y2 y3,LeO (dioramaref19_Check.l0 k y0 y1 y2 y3) (dioramaref19_Check.l0 (k+1) y0 y1 y2 y3))∧(∀ y0 y1 y2 y3 y4 y5 y6 y7 y8 y9,LeO (dioramaref19_Check.j2 k y0 y1 y2 y3 y4 y5 y6 y7 y8 y9) (dioramaref19_Check.j2 (k+1) y0 y1 y2 y3 y4 y5 y6 y7 y8 y9))
 | 0=>⟨fun _ _ _ _ r h=>by simp [dioramaref19_Check.j0] at h,fun _ _ _ _ r h=>by simp [dioramaref19_Check.l0] at h,fun _ _ _ _ _ _ _ _ _ _ r h=>by simp [dioramaref19_Check.j2] at h⟩
 | k+1=>by
  obtain ⟨ih0,ih1,ih2⟩:=dioramaref19_Check.mono_l k
  refine ⟨?_,?_,?_⟩
  · intro y0 y1 y2 y3
    unfold dioramaref19_Check.j0
    repeat' first
    | (with_reducible exact ih0 _ _ _ _)
    | (with_reducible exact ih1 _ _ _ _)
    | (with_reducible exact ih2 _ _ _ _ _ _ _ _ _ _)
    | (with_reducible exact dioramaref19_all.mono _ _ _ _)
    | (with_reducible exact LeO.refl _)
    | (with_reducible exact LeO.none _)
    | (with_reducible refine LeO.ite ?_ ?_)
    | (with_reducible refine LeO.bind ?_ (fun _=>?_))
    | exact LeO.none _
    | refine LeO.ite ?_ ?_
    | refine LeO.bind ?_ (fun _=>?_)
  · intro y0 y1 y2 y3
    unfold dioramaref19_Check.l0
    repeat' first
    | (with_reducible exact ih0 _ _ _ _)
    | (with_reducible exact ih1 _ _ _ _)
    | (with_reducible exact ih2 _ _ _ _ _ _ _ _ _ _)
    | (with_reducible exact dioramaref19_all.mono _ _ _ _)
    | (with_reducible exact LeO.refl _)
    | (with_reducible exact LeO.none _)
    | (with_reducible refine LeO.ite ?_ ?_)
    | (with_reducible refine LeO.bind ?_ (fun _=>?_))
    | exact LeO.none _
    | refine LeO.ite ?_ ?_
    | refine LeO.bind ?_ (fun _=>?_)
  intro y0 y1 y2 y3 y4 y5 y6 y7 y8 y9
  unfold dioramaref19_Check.j2
  repeat' first
  | (with_reducible exact ih0 _ _ _ _)
  | (with_reducible exact ih1 _ _ _ _)
  | (with_reducible exact ih2 _ _ _ _ _ _ _ _ _ _)
  | (with_reducible exact dioramaref19_all.mono _ _ _ _)
  | (with_reducible exact LeO.refl _)
  | (with_reducible exact LeO.none _)
  | (with_reducible refine LeO.ite ?_ ?_)
  | (with_reducible refine LeO.bind ?_ (fun _=>?_))
  | exact LeO.none _
  | refine LeO.ite ?_ ?_
  | refine LeO.bind ?_ (fun _=>?_)
theorem dioramaref19_Check.mono:∀ a0 a1 a2 k,LeO (dioramaref19_Check.f k a0 a1 a2) (dioramaref19_Check.f (k+1) a0 a1 a2):=by
 intro a0 a1 a2 k
 obtain ⟨ih0,ih1,ih2⟩:=dioramaref19_Check.mono_l k
 unfold dioramaref19_Check.f
 repeat' first
  | (with_reducible exact ih0 _ _ _ _)
  | (with_reducible exact ih1 _ _ _ _)
  | (with_reducible exact ih2 _ _ _ _ _ _ _ _ _ _)
  | (with_reducible exact dioramaref19_all.mono _ _ _ _)
  | (with_reducible exact LeO.refl _)
  | (with_reducible exact LeO.none _)
  | (with_reducible refine LeO.ite ?_ ?_)
  | (with_reducible refine LeO.bind ?_ (fun _=>?_))
  | exact LeO.none _
  | refine LeO.ite ?_ ?_
  | refine LeO.bind ?_ (fun _=>?_)
set_option maxHeartbeats 8000000 in
set_option maxRecDepth 100000 in
theorem dioramaref19_Check.calls (k:Nat) (a0_0:Bool) (A0_1:Option Addr) (c0_1:Nat) (l0_1:List Int) (A0_2:Option Addr) (c0_2:Nat) (l0_2:List (S91)) (r:Int) (w:World) (hr0_1:Kd.C (Kd.int .i64) w A0_1 l0_1.length l0_1) (hc0_1:l0_1.length≤c0_1) (hr0_2:Kd.C k91 w A0_2 l0_2.length l0_2) (hc0_2:l0_2.length≤c0_2) (h:dioramaref19_Check.f k a0_0 l0_1 l0_2=some r) :
 Calls Try.prog 40 #[.agg #[.bool a0_0,.slice A0_1 l0_1.length c0_1,.slice A0_2 l0_2.length c0_2]] w fun e w'=>e=.returned (.int .i64 r)∧Below w.heap.size w w':=by
 have hu51:=Try.underlying51
 have hu91:=Try.underlying91
 have HR0_1:=Aside0.mk hr0_1
 have HC0_1:=Aside0.mk hc0_1;clear hr0_1 hc0_1
 have HR0_2:=Aside0.mk hr0_2
 have HC0_2:=Aside0.mk hc0_2;clear hr0_2 hc0_2;have HB:=Aside0.mk (Below.refl w.heap.size w)
 have H:(if (l0_1.length:Int) > 16 then (dioramaref19_Check.j0 k true a0_0 l0_1 l0_2) else (dioramaref19_Check.j0 k (decide ((l0_2.length:Int) > 8)) a0_0 l0_1 l0_2))=some r:=h;clear h
 have HC2:=Aside0.mk H;clear H
 go_enter Try.func40,Try.ntmps40
 go_upto_region 1 with (first|((with_reducible refine gate_dst (N:=1) rfl ?_);(try (refine gate_guard (by rfl) ?_;dsimp only));refine box_event ?hg (N:=1) ?hd (cs:=#[.bool a0_0,.slice A0_1 l0_1.length c0_1,.slice A0_2 l0_2.length c0_2]) (t:=51) ?hr ?_;(case hd=>rfl);(case hg=>rfl);(case hr=>first|(go_simp;done)|(go_simp;rfl));intro gb317 hg w3 hbox hb;have n0_:=Aside0.mk (below_step (belV HB.out) hb);have n1_:=Aside0.mk (hbox);have n2_:=Aside0.mk ((by rw [hg];exact (below_size (belV HB.out)):w.heap.size≤gb317));have n3_:=Aside0.mk ((by rw [hg];exact (below_size (belV HB.out)):w.heap.size≤gb317));clear HB;have HB:=n0_;have BK317:=n1_;have GW317:=n2_;have GE317:=n3_;clear n0_ n1_ n2_ n3_;clear hb hbox hg))
 (try simp only [Act.put,List.setIfInBounds_toArray,List.set_cons_zero,List.set_cons_succ])
 go_cut [14] (fun v14 wc=>∃ (kq:Nat) (x14_1:Bool),v14=.bool x14_1∧Aside0 (dioramaref19_Check.j0 kq x14_1 a0_0 l0_1 l0_2=some r)∧Aside0 (kq≤k)∧Aside0 (wc.heap[gb317]?=some (.cells #[.bool a0_0,(.slice A0_1 l0_1.length c0_1),(.slice A0_2 l0_2.length c0_2)] 51 (0,0)))∧Aside0 (Below w.heap.size w wc))
 case first =>
  have H:=HC2.out;clear HC2
  by_cases c4:(l0_1.length:Int) > 16
  · rw [if_pos c4] at H
    have c4b0:decide (16 < (l0_1.length:Int))=true:=decide_eq_true c4
    have c4b1:decide (16 < l0_1.length)=true:=decide_eq_true (by omega);clear c4
    (first|rw [c4b0]|(simp only [i64_w,i32_w];rw [c4b0])|rw [c4b1]|skip)
    have H':=Aside0.mk H;clear H
    obtain ⟨hcz5_0,hcz5_1,hcz5_2,hfz5_0,hfz5_1,hfz5_2⟩:=bcells3 BK317.out
    go_wp2
    go_meet
    case rel=>exact ⟨_,(true),okV,H',⟨by first|omega|exact Nat.le_refl _⟩,⟨blkV BK317.out⟩,⟨belV1 HB.out GE317.out⟩⟩
  rw [if_neg c4] at H
  have c4b0:decide (16 < (l0_1.length:Int))=false:=decide_eq_false c4
  have c4b1:decide (16 < l0_1.length)=false:=decide_eq_false (by omega);clear c4
  (first|rw [c4b0]|(simp only [i64_w,i32_w];rw [c4b0])|rw [c4b1]|skip)
  have H':=Aside0.mk H;clear H
  obtain ⟨hcz6_0,hcz6_1,hcz6_2,hfz6_0,hfz6_1,hfz6_2⟩:=bcells3 BK317.out
  go_wp2
  go_meet
  case rel=>exact ⟨_,(decide ((l0_2.length:Int) > 8)),okV,H',⟨by first|omega|exact Nat.le_refl _⟩,⟨blkV BK317.out⟩,⟨belV1 HB.out GE317.out⟩⟩
 case rest =>
  clear HC2
  try clear p2;try clear c4;try clear c4b0;try clear c4b1;try clear hcz5_0 hcz5_1 hcz5_2;try clear hcz6_0 hcz6_1 hcz6_2;try clear hfz5_0 hfz5_1 hfz5_2;try clear hfz6_0 hfz6_1 hfz6_2
  obtain ⟨kq,x14_1,rfl,HA,HJ1,BK317,HB⟩:=hcut
  cases kq with
  | zero=>exact absurd HA.out (by simp [dioramaref19_Check.j0])
  | succ kj1 =>
   have H:=HA.out;clear HA
   simp only [dioramaref19_Check.j0] at H
   by_cases c7:x14_1=true
   · subst c7
     have H1:(some 2)=some r:=by rw [if_pos rfl] at H;exact H
     clear H
     have H:=H1;clear H1
     obtain rfl:=Option.some.inj H
     go_wp2
     go_ret
     exact ⟨by first|rfl|(simp [errW_none,errW_some] <;> rfl)|(simp [*,errW_none,errW_some] <;> rfl),by repeat (first|(with_reducible first|exact HB.out|apply below_alloc|apply pw_below_drewN|apply below_drew1|refine below_set ?_ GE317.out)|exact HB.out)⟩
   replace c7:=Bool.eq_false_iff.mpr c7;subst c7
   have H1:((dioramaref19_all.f kj1 l0_1 0 16777215).bind fun t318=>(if t318=true then (dioramaref19_Check.l0 kj1 0 a0_0 l0_1 l0_2) else (some 1)))=some r:=by rw [if_neg (show ¬ (false=true) by decide)] at H;exact H
   clear H
   have H:=H1;clear H1
   replace H:=Option.bind_eq_some_iff.mp H
   obtain ⟨t318,A80,H⟩:=H
   replace H:(if t318=true then (dioramaref19_Check.l0 kj1 0 a0_0 l0_1 l0_2) else (some 1))=some r:=H
   have A8:=Aside0.mk A80;clear A80
   by_cases c9:t318=true
   · subst c9
     have H1:(dioramaref19_Check.l0 kj1 0 a0_0 l0_1 l0_2)=some r:=by rw [if_pos rfl] at H;exact H
     clear H
     have H:=H1;clear H1
     have H':=Aside0.mk H;clear H
     obtain ⟨hcz10_0,hcz10_1,hcz10_2,hfz10_0,hfz10_1,hfz10_2⟩:=bcells3 BK317.out
     go_wp2_with (first|((with_reducible refine gate_callee (f:=51) rfl ?_);refine goesL_ (some 17) rfl rfl Try.func51 (by kernel_rfl) rfl #[.slice A0_1 l0_1.length c0_1,.int .i64 0,.int .i64 16777215] rfl (by (try simp only [List.map_toArray,List.map_cons,List.map_nil]);first|done|rfl|(simp only [List.length_drop,List.length_take];rfl)) ?_;(with_reducible refine (dioramaref19_all.calls kj1 _ _ l0_1 0 16777215 true _ ?side1 ?side2 A8.out).mono ?_);(case side1=>exact cV (Kd.C_below HR0_1.out HB.out));(case side2=>exact HC0_1.out);rintro e w' ⟨rfl,⟨nd,rfl⟩⟩;refine ⟨_,rfl,?_⟩))
     go_loopg [3] kj1 (fun kq v3 w'=>∃ (x3_2:Int),v3=.int .i64 x3_2∧Aside0 (dioramaref19_Check.l0 kq x3_2 a0_0 l0_1 l0_2=some r)∧Aside0 (kq≤kj1)∧Aside0 (w'.heap[gb317]?=some (.cells #[.bool a0_0,(.slice A0_1 l0_1.length c0_1),(.slice A0_2 l0_2.length c0_2)] 51 (0,0)))∧Aside0 (Below w.heap.size w w'))
     case atStart=>exact ⟨(0),okV,H',⟨Nat.le_refl _⟩,⟨blkV BK317.out⟩,⟨belV1 HB.out GE317.out⟩⟩
     case round =>
      clear H'
      try clear p2 p2;try clear c4;try clear c4b0;try clear c4b1;try clear c5;try clear c7;try clear c9;try clear hcz10_0 hcz10_1 hcz10_2;try clear hcz5_0 hcz5_1 hcz5_2;try clear hcz6_0 hcz6_1 hcz6_2;try clear hfz10_0 hfz10_1 hfz10_2;try clear hfz5_0 hfz5_1 hfz5_2;try clear hfz6_0 hfz6_1 hfz6_2
      obtain ⟨x3_2,rfl,HA,HK2,BK317,HB⟩:=hrel
      cases gk with
      | zero=>exact absurd HA.out (by simp [dioramaref19_Check.l0])
      | succ k2 =>
       have H:=HA.out;clear HA
       simp only [dioramaref19_Check.l0] at H
       by_cases c11:x3_2 < (l0_2.length:Int)
       · rw [if_pos c11] at H
         have c11b0:decide (x3_2 < (l0_2.length:Int))=true:=decide_eq_true c11;clear c11
         by_cases c12:0≤x3_2
         · rw [if_pos c12] at H
           have c12b0:decide (0≤x3_2)=true:=decide_eq_true c12;clear c12
           have HC13:=Aside0.mk H;clear H
           obtain ⟨hcz14_0,hcz14_1,hcz14_2,hfz14_0,hfz14_1,hfz14_2⟩:=bcells3 BK317.out
           have p319:0≤(x3_2:Int):=of_decide_eq_true asV
           have q319:x3_2 < (l0_2.length:Int):=of_decide_eq_true asV
           obtain ⟨ad319,A319_4,c319_4,e319,hx319_0,hx319_1,hx319_2,hx319_3,hx319_4,hl319_4,hi319_4⟩:=at_T91 HR0_2.out x3_2 p319 q319
           cases e319
           replace hx319_0:=(HB.out.cell (World.block_lt_of_cell? w _ hx319_0)).trans hx319_0
           replace hx319_1:=(HB.out.cell (World.block_lt_of_cell? w _ hx319_1)).trans hx319_1
           replace hx319_2:=(HB.out.cell (World.block_lt_of_cell? w _ hx319_2)).trans hx319_2
           replace hx319_3:=(HB.out.cell (World.block_lt_of_cell? w _ hx319_3)).trans hx319_3
           replace hx319_4:=(HB.out.cell (World.block_lt_of_cell? w _ hx319_4)).trans hx319_4
           have HR319_4:=Aside0.mk hi319_4
           have HC319_4:=Aside0.mk hl319_4;clear hi319_4 hl319_4
           replace p319:=eq_true p319
           replace q319:=eq_true q319
           go_upto_region 9 with (first|((with_reducible refine gate_dst (N:=4) rfl ?_);(try (refine gate_guard (by rfl) ?_;dsimp only));refine box_event ?hg (N:=4) ?hd (cs:=#[.int .i64 0,.int .i64 0,.int .i64 0,.int .i64 0,.slice none 0 0]) (t:=91) ?hr ?_;(case hd=>rfl);(case hg=>rfl);(case hr=>first|(go_simp;done)|(go_simp;rfl));intro gb320 hg w15 hbox hb;have n0_:=Aside0.mk (blk_below (g:=gb317) (blkV BK317.out) hb);have n1_:=Aside0.mk (below_step (belV1 HB.out GE317.out) hb);have n2_:=Aside0.mk (hbox);have n3_:=Aside0.mk ((by rw [hg];exact (below_size (belV1 HB.out GE317.out)):w.heap.size≤gb320));have n4_:=Aside0.mk ((by rw [hg];exact (below_size (belV1 HB.out GE317.out)):w.heap.size≤gb320));have n5_:=Aside0.mk ((by rw [hg];exact Nat.ne_of_lt (blk_lt (g:=gb317) (blkV BK317.out)):gb317≠gb320));have n6_:=Aside0.mk ((by rw [hg];exact Nat.ne_of_gt (blk_lt (g:=gb317) (blkV BK317.out)):gb320≠gb317));clear BK317;clear HB;have BK317:=n0_;have HB:=n1_;have BK320:=n2_;have GW320:=n3_;have GE320:=n4_;have NB317_320:=n5_;have NB320_317:=n6_;clear n0_ n1_ n2_ n3_ n4_ n5_ n6_;clear hb hbox hg;have hnb16:=NB320_317.out;have hnc16:=NB317_320.out;obtain ⟨hcz17_0,hcz17_1,hcz17_2,hcz17_3,hcz17_4,hfz17_0,hfz17_1,hfz17_2,hfz17_3,hfz17_4⟩:=bcells5 BK320.out))
           (try simp only [Act.put,List.setIfInBounds_toArray,List.set_cons_zero,List.set_cons_succ])
           go_cut [39] (fun v39 wc=>∃ (kq:Nat) (x39_12:Bool),v39=.bool x39_12∧Aside0 (dioramaref19_Check.j2 kq x3_2 x39_12 a0_0 l0_1 l0_2 ((rd_T91 l0_2 x3_2).f0) ((rd_T91 l0_2 x3_2).f1) ((rd_T91 l0_2 x3_2).f2) ((rd_T91 l0_2 x3_2).f3) ((rd_T91 l0_2 x3_2).f4)=some r)∧Aside0 (kq≤k2)∧Aside0 (wc.heap[gb317]?=some (.cells #[.bool a0_0,(.slice A0_1 l0_1.length c0_1),(.slice (some ad319) l0_2.length c0_2)] 51 (0,0)))∧Aside0 (wc.heap[gb320]?=some (.cells #[.int .i64 ((rd_T91 l0_2 x3_2).f0),.int .i64 ((rd_T91 l0_2 x3_2).f1),.int .i64 ((rd_T91 l0_2 x3_2).f2),.int .i64 ((rd_T91 l0_2 x3_2).f3),(.slice A319_4 ((rd_T91 l0_2 x3_2).f4).length c319_4)] 91 (0,0)))∧Aside0 (Below w.heap.size w wc))
           case first =>
            have H:=HC13.out;clear HC13
            replace H:=Option.bind_eq_some_iff.mp H
            obtain ⟨t321,A180,H⟩:=H
            replace H:(if t321=0 then ((dioramaref19_all.f k2 ((rd_T91 l0_2 x3_2).f4) 0 15).bind fun t322=>(dioramaref19_Check.j2 k2 x3_2 (!t322) a0_0 l0_1 l0_2 ((rd_T91 l0_2 x3_2).f0) ((rd_T91 l0_2 x3_2).f1) ((rd_T91 l0_2 x3_2).f2) ((rd_T91 l0_2 x3_2).f3) ((rd_T91 l0_2 x3_2).f4))) else (dioramaref19_Check.j2 k2 x3_2 true a0_0 l0_1 l0_2 ((rd_T91 l0_2 x3_2).f0) ((rd_T91 l0_2 x3_2).f1) ((rd_T91 l0_2 x3_2).f2) ((rd_T91 l0_2 x3_2).f3) ((rd_T91 l0_2 x3_2).f4)))=some r:=H
            have A18:=Aside0.mk A180;clear A180
            by_cases c19:t321=0
            · rw [if_pos c19] at H
              have c19b0:(t321 == 0)=true:=beq_iff_eq.mpr c19
              have c19b1:(t321 != 0)=false:=bne_eq_false_iff_eq.mpr c19;clear c19
              (first|rw [c19b0]|(simp only [i64_w,i32_w];rw [c19b0])|rw [c19b1]|skip)
              replace H:=Option.bind_eq_some_iff.mp H
              obtain ⟨t322,A200,H⟩:=H
              replace H:(dioramaref19_Check.j2 k2 x3_2 (!t322) a0_0 l0_1 l0_2 ((rd_T91 l0_2 x3_2).f0) ((rd_T91 l0_2 x3_2).f1) ((rd_T91 l0_2 x3_2).f2) ((rd_T91 l0_2 x3_2).f3) ((rd_T91 l0_2 x3_2).f4))=some r:=H
              have A20:=Aside0.mk A200;clear A200
              have H':=Aside0.mk H;clear H
              have hnb21:=NB320_317.out
              have hnc21:=NB317_320.out
              obtain ⟨hcz22_0,hcz22_1,hcz22_2,hcz22_3,hcz22_4,hfz22_0,hfz22_1,hfz22_2,hfz22_3,hfz22_4⟩:=bcells5 BK320.out
              go_wp2_with (first|((with_reducible refine gate_callee (f:=73) rfl ?_);refine goesL_ (some 32) rfl rfl Try.func73 (by kernel_rfl) rfl #[.agg #[.int .i64 ((rd_T91 l0_2 x3_2).f0),.int .i64 ((rd_T91 l0_2 x3_2).f1),.int .i64 ((rd_T91 l0_2 x3_2).f2),.int .i64 ((rd_T91 l0_2 x3_2).f3),.slice A319_4 ((rd_T91 l0_2 x3_2).f4).length c319_4]] rfl (by (try simp only [List.map_toArray,List.map_cons,List.map_nil]);first|done|rfl|(simp only [List.length_drop,List.length_take];rfl)) ?_;(with_reducible refine (dioramaref19_place.calls ((rd_T91 l0_2 x3_2).f0) ((rd_T91 l0_2 x3_2).f1) ((rd_T91 l0_2 x3_2).f2) ((rd_T91 l0_2 x3_2).f3) _ _ ((rd_T91 l0_2 x3_2).f4) t321 _ ?side1 ?side2 A18.out).mono ?_);(case side1=>exact Kd.C_below HR319_4.out (belV2 HB.out GE317.out GE320.out));(case side2=>exact HC319_4.out);rintro e w23 ⟨rfl,hb⟩;refine ⟨_,rfl,?_⟩;have n0_:=Aside0.mk (blk_below (g:=gb317) (o:=.cells #[.bool a0_0,.slice A0_1 l0_1.length c0_1,.slice (some ad319) l0_2.length c0_2] 51 (0,0)) (blkW BK317.out NB317_320.out) hb);have n1_:=Aside0.mk (blk_below (g:=gb320) (o:=.cells #[.int .i64 ((rd_T91 l0_2 x3_2).f0),.int .i64 ((rd_T91 l0_2 x3_2).f1),.int .i64 ((rd_T91 l0_2 x3_2).f2),.int .i64 ((rd_T91 l0_2 x3_2).f3),.slice A319_4 ((rd_T91 l0_2 x3_2).f4).length c319_4] 91 (0,0)) (by (with_reducible repeat (first|refine blk_drewN ?_ _|refine blk_drew ?_|refine blk_alloc ?_ _));refine blk_put (cs:=#[.int .i64 ((rd_T91 l0_2 x3_2).f0),.int .i64 ((rd_T91 l0_2 x3_2).f1),.int .i64 ((rd_T91 l0_2 x3_2).f2),.int .i64 ((rd_T91 l0_2 x3_2).f3),.slice none 0 0]) ?_ 4 _ rfl;(with_reducible repeat (first|refine blk_drewN ?_ _|refine blk_drew ?_|refine blk_alloc ?_ _));refine blk_put (cs:=#[.int .i64 ((rd_T91 l0_2 x3_2).f0),.int .i64 ((rd_T91 l0_2 x3_2).f1),.int .i64 ((rd_T91 l0_2 x3_2).f2),.int .i64 0,.slice none 0 0]) ?_ 3 _ rfl;(with_reducible repeat (first|refine blk_drewN ?_ _|refine blk_drew ?_|refine blk_alloc ?_ _));refine blk_put (cs:=#[.int .i64 ((rd_T91 l0_2 x3_2).f0),.int .i64 ((rd_T91 l0_2 x3_2).f1),.int .i64 0,.int .i64 0,.slice none 0 0]) ?_ 2 _ rfl;(with_reducible repeat (first|refine blk_drewN ?_ _|refine blk_drew ?_|refine blk_alloc ?_ _));refine blk_put (cs:=#[.int .i64 ((rd_T91 l0_2 x3_2).f0),.int .i64 0,.int .i64 0,.int .i64 0,.slice none 0 0]) ?_ 1 _ rfl;(with_reducible repeat (first|refine blk_drewN ?_ _|refine blk_drew ?_|refine blk_alloc ?_ _));refine blk_put (cs:=#[.int .i64 0,.int .i64 0,.int .i64 0,.int .i64 0,.slice none 0 0]) ?_ 0 _ rfl;(with_reducible repeat (first|refine blk_drewN ?_ _|refine blk_drew ?_|refine blk_alloc ?_ _));exact BK320.out) hb);have n2_:=Aside0.mk (below_step (belV2 HB.out GE317.out GE320.out) hb);clear BK317;clear BK320;clear HB;have BK317:=n0_;have BK320:=n1_;have HB:=n2_;clear n0_ n1_ n2_;(try clear hb);(try clear hb2);(try clear hk);(try clear hi);obtain ⟨hcz24_0,hcz24_1,hcz24_2,hcz24_3,hcz24_4,hfz24_0,hfz24_1,hfz24_2,hfz24_3,hfz24_4⟩:=bcells5 BK320.out)|(go_at_call 51;(with_reducible refine (dioramaref19_all.calls k2 _ _ ((rd_T91 l0_2 x3_2).f4) 0 15 t322 _ ?side1 ?side2 A20.out).mono ?_);(case side1=>exact cV (Kd.C_below HR319_4.out HB.out));(case side2=>exact HC319_4.out);rintro e w' ⟨rfl,⟨nd,rfl⟩⟩))
              go_meet
              case rel=>exact ⟨_,(!t322),okV,H',⟨by have:=HJ1.out;have:=HK2.out;first|omega|exact Nat.le_refl _⟩,⟨blkV BK317.out⟩,⟨blkV BK320.out⟩,⟨belV2 HB.out GE317.out GE320.out⟩⟩
            rw [if_neg c19] at H
            have c19b0:(t321 == 0)=false:=beq_eq_false_iff_ne.mpr c19
            have c19b1:(t321 != 0)=true:=bne_iff_ne.mpr c19
            (first|rw [c19b0]|(simp only [i64_w,i32_w];rw [c19b0])|rw [c19b1]|skip)
            have H':=Aside0.mk H;clear H
            have hnb25:=NB320_317.out
            have hnc25:=NB317_320.out
            obtain ⟨hcz26_0,hcz26_1,hcz26_2,hcz26_3,hcz26_4,hfz26_0,hfz26_1,hfz26_2,hfz26_3,hfz26_4⟩:=bcells5 BK320.out
            go_wp2_with (first|((with_reducible refine gate_callee (f:=73) rfl ?_);refine goesL_ (some 32) rfl rfl Try.func73 (by kernel_rfl) rfl #[.agg #[.int .i64 ((rd_T91 l0_2 x3_2).f0),.int .i64 ((rd_T91 l0_2 x3_2).f1),.int .i64 ((rd_T91 l0_2 x3_2).f2),.int .i64 ((rd_T91 l0_2 x3_2).f3),.slice A319_4 ((rd_T91 l0_2 x3_2).f4).length c319_4]] rfl (by (try simp only [List.map_toArray,List.map_cons,List.map_nil]);first|done|rfl|(simp only [List.length_drop,List.length_take];rfl)) ?_;(with_reducible refine (dioramaref19_place.calls ((rd_T91 l0_2 x3_2).f0) ((rd_T91 l0_2 x3_2).f1) ((rd_T91 l0_2 x3_2).f2) ((rd_T91 l0_2 x3_2).f3) _ _ ((rd_T91 l0_2 x3_2).f4) t321 _ ?side1 ?side2 A18.out).mono ?_);(case side1=>exact Kd.C_below HR319_4.out (belV2 HB.out GE317.out GE320.out));(case side2=>exact HC319_4.out);rintro e w27 ⟨rfl,hb⟩;refine ⟨_,rfl,?_⟩;have n0_:=Aside0.mk (blk_below (g:=gb317) (o:=.cells #[.bool a0_0,.slice A0_1 l0_1.length c0_1,.slice (some ad319) l0_2.length c0_2] 51 (0,0)) (blkW BK317.out NB317_320.out) hb);have n1_:=Aside0.mk (blk_below (g:=gb320) (o:=.cells #[.int .i64 ((rd_T91 l0_2 x3_2).f0),.int .i64 ((rd_T91 l0_2 x3_2).f1),.int .i64 ((rd_T91 l0_2 x3_2).f2),.int .i64 ((rd_T91 l0_2 x3_2).f3),.slice A319_4 ((rd_T91 l0_2 x3_2).f4).length c319_4] 91 (0,0)) (by (with_reducible repeat (first|refine blk_drewN ?_ _|refine blk_drew ?_|refine blk_alloc ?_ _));refine blk_put (cs:=#[.int .i64 ((rd_T91 l0_2 x3_2).f0),.int .i64 ((rd_T91 l0_2 x3_2).f1),.int .i64 ((rd_T91 l0_2 x3_2).f2),.int .i64 ((rd_T91 l0_2 x3_2).f3),.slice none 0 0]) ?_ 4 _ rfl;(with_reducible repeat (first|refine blk_drewN ?_ _|refine blk_drew ?_|refine blk_alloc ?_ _));refine blk_put (cs:=#[.int .i64 ((rd_T91 l0_2 x3_2).f0),.int .i64 ((rd_T91 l0_2 x3_2).f1),.int .i64 ((rd_T91 l0_2 x3_2).f2),.int .i64 0,.slice none 0 0]) ?_ 3 _ rfl;(with_reducible repeat (first|refine blk_drewN ?_ _|refine blk_drew ?_|refine blk_alloc ?_ _));refine blk_put (cs:=#[.int .i64 ((rd_T91 l0_2 x3_2).f0),.int .i64 ((rd_T91 l0_2 x3_2).f1),.int .i64 0,.int .i64 0,.slice none 0 0]) ?_ 2 _ rfl;(with_reducible repeat (first|refine blk_drewN ?_ _|refine blk_drew ?_|refine blk_alloc ?_ _));refine blk_put (cs:=#[.int .i64 ((rd_T91 l0_2 x3_2).f0),.int .i64 0,.int .i64 0,.int .i64 0,.slice none 0 0]) ?_ 1 _ rfl;(with_reducible repeat (first|refine blk_drewN ?_ _|refine blk_drew ?_|refine blk_alloc ?_ _));refine blk_put (cs:=#[.int .i64 0,.int .i64 0,.int .i64 0,.int .i64 0,.slice none 0 0]) ?_ 0 _ rfl;(with_reducible repeat (first|refine blk_drewN ?_ _|refine blk_drew ?_|refine blk_alloc ?_ _));exact BK320.out) hb);have n2_:=Aside0.mk (below_step (belV2 HB.out GE317.out GE320.out) hb);clear BK317;clear BK320;clear HB;have BK317:=n0_;have BK320:=n1_;have HB:=n2_;clear n0_ n1_ n2_;(try clear hb);(try clear hb2);(try clear hk);(try clear hi)))
            go_meet
            case rel=>exact ⟨_,(true),okV,H',⟨by have:=HJ1.out;have:=HK2.out;first|omega|exact Nat.le_refl _⟩,⟨blkV BK317.out⟩,⟨blkV BK320.out⟩,⟨belV2 HB.out GE317.out GE320.out⟩⟩
           case rest =>
            clear HC13
            try clear c1;try clear c2;try clear p2 p2;try clear c3;try clear p3;try clear q3;try clear hx3;try clear c4;try clear c4b0;try clear c4b1;try clear c5;try clear c7;try clear c9;try clear c11;try clear c11b0;try clear c12;try clear c12b0;try clear c16;try clear c19;try clear c19b0;try clear c19b1;try clear c21;try clear c25;try clear hcz10_0 hcz10_1 hcz10_2;try clear hcz14_0 hcz14_1 hcz14_2;try clear hcz17_0 hcz17_1 hcz17_2 hcz17_3 hcz17_4;try clear hcz22_0 hcz22_1 hcz22_2 hcz22_3 hcz22_4;try clear hcz24_0 hcz24_1 hcz24_2 hcz24_3 hcz24_4;try clear hcz26_0 hcz26_1 hcz26_2 hcz26_3 hcz26_4;try clear hcz5_0 hcz5_1 hcz5_2;try clear hcz6_0 hcz6_1 hcz6_2;try clear hfz10_0 hfz10_1 hfz10_2;try clear hfz14_0 hfz14_1 hfz14_2;try clear hfz17_0 hfz17_1 hfz17_2 hfz17_3 hfz17_4;try clear hfz22_0 hfz22_1 hfz22_2 hfz22_3 hfz22_4;try clear hfz24_0 hfz24_1 hfz24_2 hfz24_3 hfz24_4;try clear hfz26_0 hfz26_1 hfz26_2 hfz26_3 hfz26_4;try clear hfz5_0 hfz5_1 hfz5_2;try clear hfz6_0 hfz6_1 hfz6_2;try clear hx319_0;try clear hx319_1;try clear hx319_2;try clear hx319_3;try clear hx319_4;try clear p319;try clear q319
            obtain ⟨kq,x39_12,rfl,HA,HJ12,BK317,BK320,HB⟩:=hcut
            cases kq with
            | zero=>exact absurd HA.out (by simp [dioramaref19_Check.j2])
            | succ kj12 =>
             have H:=HA.out;clear HA
             simp only [dioramaref19_Check.j2] at H
             by_cases c28:x39_12=true
             · subst c28
               have H1:(some 1)=some r:=by rw [if_pos rfl] at H;exact H
               clear H
               have H:=H1;clear H1
               obtain rfl:=Option.some.inj H
               go_wp2
               go_ret
               exact ⟨by first|rfl|(simp [errW_none,errW_some] <;> rfl)|(simp [*,errW_none,errW_some] <;> rfl),by repeat (first|(with_reducible first|exact HB.out|apply below_alloc|apply pw_below_drewN|apply below_drew1|refine below_set ?_ GE317.out|refine below_set ?_ GE320.out)|exact HB.out)⟩
             replace c28:=Bool.eq_false_iff.mpr c28;subst c28
             have H1:(if (((rd_T91 l0_2 x3_2).f4).length:Int)=(wrap64 (((rd_T91 l0_2 x3_2).f2)*((rd_T91 l0_2 x3_2).f3))) then (dioramaref19_Check.l0 kj12 (wrap64 (x3_2+1)) a0_0 l0_1 l0_2) else (some 4))=some r:=by rw [if_neg (show ¬ (false=true) by decide)] at H;exact H
             clear H
             have H:=H1;clear H1
             by_cases c29:(((rd_T91 l0_2 x3_2).f4).length:Int)=(wrap64 (((rd_T91 l0_2 x3_2).f2)*((rd_T91 l0_2 x3_2).f3)))
             · rw [if_pos c29] at H
               have c29b0:((((rd_T91 l0_2 x3_2).f4).length:Int) == (wrap64 (((rd_T91 l0_2 x3_2).f2)*((rd_T91 l0_2 x3_2).f3))))=true:=beq_iff_eq.mpr c29
               have c29b1:((((rd_T91 l0_2 x3_2).f4).length:Int) != (wrap64 (((rd_T91 l0_2 x3_2).f2)*((rd_T91 l0_2 x3_2).f3))))=false:=bne_eq_false_iff_eq.mpr c29;clear c29
               have H':=Aside0.mk H;clear H
               have hnb30:=NB320_317.out
               have hnc30:=NB317_320.out
               obtain ⟨hcz31_0,hcz31_1,hcz31_2,hcz31_3,hcz31_4,hfz31_0,hfz31_1,hfz31_2,hfz31_3,hfz31_4⟩:=bcells5 BK320.out
               go_wp2
               go_roundg kj12
               case measure=>have:=HJ1.out;have:=HK2.out;have:=HJ12.out;omega
               case rel=>exact ⟨(wrap64 (x3_2+1)),okV,H',⟨by have:=HJ1.out;have:=HK2.out;have:=HJ12.out;omega⟩,⟨blkV BK317.out⟩,⟨belV2 HB.out GE317.out GE320.out⟩⟩
             rw [if_neg c29] at H
             have c29b0:((((rd_T91 l0_2 x3_2).f4).length:Int) == (wrap64 (((rd_T91 l0_2 x3_2).f2)*((rd_T91 l0_2 x3_2).f3))))=false:=beq_eq_false_iff_ne.mpr c29
             have c29b1:((((rd_T91 l0_2 x3_2).f4).length:Int) != (wrap64 (((rd_T91 l0_2 x3_2).f2)*((rd_T91 l0_2 x3_2).f3))))=true:=bne_iff_ne.mpr c29
             obtain rfl:=Option.some.inj H
             have hnb32:=NB320_317.out
             have hnc32:=NB317_320.out
             obtain ⟨hcz33_0,hcz33_1,hcz33_2,hcz33_3,hcz33_4,hfz33_0,hfz33_1,hfz33_2,hfz33_3,hfz33_4⟩:=bcells5 BK320.out
             go_wp2
             go_ret
             exact ⟨by first|rfl|(simp [errW_none,errW_some] <;> rfl)|(simp [*,errW_none,errW_some] <;> rfl),by repeat (first|(with_reducible first|exact HB.out|apply below_alloc|apply pw_below_drewN|apply below_drew1|refine below_set ?_ GE317.out|refine below_set ?_ GE320.out)|exact HB.out)⟩
         rw [if_neg c12] at H
         exact absurd H (by simp)
       rw [if_neg c11] at H
       have c11b0:decide (x3_2 < (l0_2.length:Int))=false:=decide_eq_false c11;clear c11
       obtain rfl:=Option.some.inj H
       obtain ⟨hcz34_0,hcz34_1,hcz34_2,hfz34_0,hfz34_1,hfz34_2⟩:=bcells3 BK317.out
       go_wp2
       go_ret
       exact ⟨by first|rfl|(simp [errW_none,errW_some] <;> rfl)|(simp [*,errW_none,errW_some] <;> rfl),by repeat (first|(with_reducible first|exact HB.out|apply below_alloc|apply pw_below_drewN|apply below_drew1|refine below_set ?_ GE317.out)|exact HB.out)⟩
   replace c9:=Bool.eq_false_iff.mpr c9;subst c9
   have H1:(some 1)=some r:=by rw [if_neg (show ¬ (false=true) by decide)] at H;exact H
   clear H
   have H:=H1;clear H1
   obtain rfl:=Option.some.inj H
   obtain ⟨hcz35_0,hcz35_1,hcz35_2,hfz35_0,hfz35_1,hfz35_2⟩:=bcells3 BK317.out
   go_wp2_with (first|((with_reducible refine gate_callee (f:=51) rfl ?_);refine goesL_ (some 17) rfl rfl Try.func51 (by kernel_rfl) rfl #[.slice A0_1 l0_1.length c0_1,.int .i64 0,.int .i64 16777215] rfl (by (try simp only [List.map_toArray,List.map_cons,List.map_nil]);first|done|rfl|(simp only [List.length_drop,List.length_take];rfl)) ?_;(with_reducible refine (dioramaref19_all.calls kj1 _ _ l0_1 0 16777215 false _ ?side1 ?side2 A8.out).mono ?_);(case side1=>exact cV (Kd.C_below HR0_1.out HB.out));(case side2=>exact HC0_1.out);rintro e w' ⟨rfl,⟨nd,rfl⟩⟩;refine ⟨_,rfl,?_⟩))
   go_ret
   exact ⟨by first|rfl|(simp [errW_none,errW_some] <;> rfl)|(simp [*,errW_none,errW_some] <;> rfl),by repeat (first|(with_reducible first|exact HB.out|apply below_alloc|apply pw_below_drewN|apply below_drew1|refine below_set ?_ GE317.out)|exact HB.out)⟩

/-! ### dioramaref01_Sum: function 61 -/
mutual
def dioramaref01_Sum.l0 : Nat → List Int → Int → Int → Option (Int)
 | 0,_,_,_=>none
 | k+1,x0,x3,x4=>if x4 < (x0.length:Int) then (if 0≤x4 then (dioramaref01_Sum.l1 k x0 (Go.bits .xor .u32 x3 ((rd x0 x4) % 4294967296)) x4 0) else (none)) else (some (Go.bits .xor .u32 x3 4294967295))
def dioramaref01_Sum.l1 : Nat → List Int → Int → Int → Int → Option (Int)
 | 0,_,_,_,_=>none
 | k+1,x0,x3,x4,x5=>if x5 < 8 then (if (Go.bits .and .u32 x3 1)=1 then (dioramaref01_Sum.l1 k x0 (Go.bits .xor .u32 (x3 / 2) 3558460437) x4 (wrap64 (x5+1))) else (dioramaref01_Sum.l1 k x0 (x3 / 2) x4 (wrap64 (x5+1)))) else (dioramaref01_Sum.l0 k x0 x3 (wrap64 (x4+1)))
end
def dioramaref01_Sum.f (k : Nat) (l0 : List Int) : Option (Int) := dioramaref01_Sum.l0 k l0 4294967295 0
theorem dioramaref01_Sum.mono_l:∀ k,(∀ y0 y1 y2,LeO (dioramaref01_Sum.l0 k y0 y1 y2) (dioramaref01_Sum.l0 (k+1) y0 y1 y2))∧(∀ y0 y1 y2 y3,LeO (dioramaref01_Sum.l1 k y0 y1 y2 y3) (dioramaref01_Sum.l1 (k+1) y0 y1 y2 y3))
 | 0=>⟨fun _ _ _ r h=>by simp [dioramaref01_Sum.l0] at h,fun _ _ _ _ r h=>by simp [dioramaref01_Sum.l1] at h⟩
 | k+1=>by
  obtain ⟨ih0,ih1⟩:=dioramaref01_Sum.mono_l k
  refine ⟨?_,?_⟩
  · intro y0 y1 y2
    unfold dioramaref01_Sum.l0
    repeat' first
    | (with_reducible exact ih0 _ _ _)
    | (with_reducible exact ih1 _ _ _ _)
    | (with_reducible exact LeO.refl _)
    | (with_reducible exact LeO.none _)
    | (with_reducible refine LeO.ite ?_ ?_)
    | (with_reducible refine LeO.bind ?_ (fun _=>?_))
    | exact LeO.none _
    | refine LeO.ite ?_ ?_
    | refine LeO.bind ?_ (fun _=>?_)
  intro y0 y1 y2 y3
  unfold dioramaref01_Sum.l1
  repeat' first
  | (with_reducible exact ih0 _ _ _)
  | (with_reducible exact ih1 _ _ _ _)
  | (with_reducible exact LeO.refl _)
  | (with_reducible exact LeO.none _)
  | (with_reducible refine LeO.ite ?_ ?_)
  | (with_reducible refine LeO.bind ?_ (fun _=>?_))
  | exact LeO.none _
  | refine LeO.ite ?_ ?_
  | refine LeO.bind ?_ (fun _=>?_)
theorem dioramaref01_Sum.mono:∀ a0 k,LeO (dioramaref01_Sum.f k a0) (dioramaref01_Sum.f (k+1) a0):=by
 intro a0 k
 obtain ⟨ih0,ih1⟩:=dioramaref01_Sum.mono_l k
 unfold dioramaref01_Sum.f
 repeat' first
  | (with_reducible exact ih0 _ _ _)
  | (with_reducible exact ih1 _ _ _ _)
  | (with_reducible exact LeO.refl _)
  | (with_reducible exact LeO.none _)
  | (with_reducible refine LeO.ite ?_ ?_)
  | (with_reducible refine LeO.bind ?_ (fun _=>?_))
  | exact LeO.none _
  | refine LeO.ite ?_ ?_
  | refine LeO.bind ?_ (fun _=>?_)
set_option maxHeartbeats 8000000 in
set_option maxRecDepth 100000 in
theorem dioramaref01_Sum.calls (k:Nat) (A0:Option Addr) (c0:Nat) (l0:List Int) (r:Int) (w:World) (hr0:Kd.C (Kd.int .u8) w A0 l0.length l0) (hc0:l0.length≤c0) (h:dioramaref01_Sum.f k l0=some r) :
 Calls Try.prog 61 #[.slice A0 l0.length c0] w fun e w'=>e=.returned (.int .u32 r)∧Drawn0 w w':=by
 have HR0:=Aside0.mk hr0
 have HC0:=Aside0.mk hc0;clear hr0 hc0
 have H:(dioramaref01_Sum.l0 k l0 4294967295 0)=some r:=h;clear h
 have H':=Aside0.mk H;clear H
 go_enter Try.func61,Try.ntmps61
 go_wp2
 go_loopg [3,4] k (fun kq v3 v4 w'=>∃ (x3_1:Int) (x4_1:Int),v3=.int .u32 x3_1∧v4=.int .i64 x4_1∧Aside0 (dioramaref01_Sum.l0 kq l0 x3_1 x4_1=some r)∧Aside0 (kq≤k)∧Drawn0 w w')
 case atStart=>exact ⟨(4294967295),(0),okV,okV,H',⟨Nat.le_refl _⟩,by repeat (first|exact Drawn0.refl _|apply Drawn0.step)⟩
 case round =>
  clear H'
  obtain ⟨x3_1,x4_1,rfl,rfl,HA,HK1,⟨m1,rfl⟩⟩:=hrel
  cases gk with
  | zero=>exact absurd HA.out (by simp [dioramaref01_Sum.l0])
  | succ k1 =>
   have H:=HA.out;clear HA
   simp only [dioramaref01_Sum.l0] at H
   by_cases c2:x4_1 < (l0.length:Int)
   · rw [if_pos c2] at H
     have c2b0:decide (x4_1 < (l0.length:Int))=true:=decide_eq_true c2;clear c2
     by_cases c3:0≤x4_1
     · rw [if_pos c3] at H
       have c3b0:decide (0≤x4_1)=true:=decide_eq_true c3;clear c3
       have H':=Aside0.mk H;clear H
       have p323:0≤(x4_1:Int):=of_decide_eq_true asV
       have q323:x4_1 < (l0.length:Int):=of_decide_eq_true asV
       obtain ⟨ad323,e323,hx323_0⟩:=Kd.at_int HR0.out x4_1 p323 q323
       cases e323
       replace p323:=eq_true p323
       replace q323:=eq_true q323
       go_wp2
       go_loopg [3,5] k1 (fun kq v3 v5 w'=>∃ (x3_2:Int) (x5_2:Int),v3=.int .u32 x3_2∧v5=.int .i64 x5_2∧Aside0 (dioramaref01_Sum.l1 kq l0 x3_2 x4_1 x5_2=some r)∧Aside0 (kq≤k1)∧Drawn0 w w')
       case atStart=>exact ⟨(Go.bits .xor .u32 x3_1 ((rd l0 x4_1) % 4294967296)),(0),okV,okV,H',⟨Nat.le_refl _⟩,by repeat (first|exact Drawn0.refl _|apply Drawn0.step)⟩
       case round =>
        clear H'
        try clear c2;try clear c2b0;try clear p2;try clear c3;try clear c3b0;try clear p3;try clear q3;try clear hx3;try clear hx323_0;try clear p323;try clear q323
        obtain ⟨x3_2,x5_2,rfl,rfl,HA,HK2,⟨m2,rfl⟩⟩:=hrel
        cases gk with
        | zero=>exact absurd HA.out (by simp [dioramaref01_Sum.l1])
        | succ k2 =>
         have H:=HA.out;clear HA
         simp only [dioramaref01_Sum.l1] at H
         by_cases c4:x5_2 < 8
         · rw [if_pos c4] at H
           have c4b0:decide (x5_2 < 8)=true:=decide_eq_true c4;clear c4
           by_cases c5:(Go.bits .and .u32 x3_2 1)=1
           · rw [if_pos c5] at H
             have c5b0:((Go.bits .and .u32 x3_2 1) == 1)=true:=beq_iff_eq.mpr c5
             have c5b1:((Go.bits .and .u32 x3_2 1) != 1)=false:=bne_eq_false_iff_eq.mpr c5;clear c5
             have H':=Aside0.mk H;clear H
             go_wp2
             go_roundg k2
             case measure=>have:=HK1.out;have:=HK2.out;omega
             case rel=>exact ⟨(Go.bits .xor .u32 (x3_2 / 2) 3558460437),(wrap64 (x5_2+1)),okV,okV,H',⟨by have:=HK1.out;have:=HK2.out;omega⟩,by repeat (first|exact Drawn0.refl _|apply Drawn0.step)⟩
           rw [if_neg c5] at H
           have c5b0:((Go.bits .and .u32 x3_2 1) == 1)=false:=beq_eq_false_iff_ne.mpr c5
           have c5b1:((Go.bits .and .u32 x3_2 1) != 1)=true:=bne_iff_ne.mpr c5
           have H':=Aside0.mk H;clear H
           go_wp2
           go_roundg k2
           case measure=>have:=HK1.out;have:=HK2.out;omega
           case rel=>exact ⟨(x3_2 / 2),(wrap64 (x5_2+1)),okV,okV,H',⟨by have:=HK1.out;have:=HK2.out;omega⟩,by repeat (first|exact Drawn0.refl _|apply Drawn0.step)⟩
         rw [if_neg c4] at H
         have c4b0:decide (x5_2 < 8)=false:=decide_eq_false c4;clear c4
         have H':=Aside0.mk H;clear H
         go_wp2
         go_roundg k2
         case measure=>have:=HK1.out;have:=HK2.out;omega
         case rel=>exact ⟨(x3_2),(wrap64 (x4_1+1)),okV,okV,H',⟨by have:=HK1.out;have:=HK2.out;omega⟩,by repeat (first|exact Drawn0.refl _|apply Drawn0.step)⟩
     rw [if_neg c3] at H
     exact absurd H (by simp)
   rw [if_neg c2] at H
   have c2b0:decide (x4_1 < (l0.length:Int))=false:=decide_eq_false c2;clear c2
   obtain rfl:=Option.some.inj H
   go_wp2
   go_ret
   exact ⟨by first|rfl|(simp;done)|(simp [*];done),by repeat (first|exact Drawn0.refl _|apply Drawn0.step)⟩

/-! ### dioramaref01_Bytes: function 87 -/
def dioramaref01_Bytes.l0 : Nat → Int → List Int → Int → Option (List Int)
 | 0,_,_,_=>none
 | k+1,x0,x5,x6=>if x6≥0 then (if 0≤x6 then (if x6 < (x5.length:Int) then (dioramaref01_Bytes.l0 k (wrap64 (Int.tdiv x0 256)) (x5.set (x6:Int).toNat ((Int.tmod x0 256) % 256)) (wrap64 (x6 - 1))) else (none)) else (none)) else (some x5)
def dioramaref01_Bytes.f (k : Nat) (a0 : Int) (a1 : Int) : Option (List Int) := if 0 ≤ a1 then (if (a1 : Int).toNat ≤ 281474976710656 then (dioramaref01_Bytes.l0 k a0 (List.replicate (a1 : Int).toNat 0) (wrap64 (a1 - 1))) else (none)) else (none)
theorem dioramaref01_Bytes.mono_l:∀ k,(∀ y0 y1 y2,LeO (dioramaref01_Bytes.l0 k y0 y1 y2) (dioramaref01_Bytes.l0 (k+1) y0 y1 y2))
 | 0=>fun _ _ _ r h=>by simp [dioramaref01_Bytes.l0] at h
 | k+1=>by
  have ih0:=dioramaref01_Bytes.mono_l k
  · intro y0 y1 y2
    unfold dioramaref01_Bytes.l0
    repeat' first
    | (with_reducible exact ih0 _ _ _)
    | (with_reducible exact LeO.refl _)
    | (with_reducible exact LeO.none _)
    | (with_reducible refine LeO.ite ?_ ?_)
    | (with_reducible refine LeO.bind ?_ (fun _=>?_))
    | exact LeO.none _
    | refine LeO.ite ?_ ?_
    | refine LeO.bind ?_ (fun _=>?_)
theorem dioramaref01_Bytes.mono:∀ a0 a1 k,LeO (dioramaref01_Bytes.f k a0 a1) (dioramaref01_Bytes.f (k+1) a0 a1):=by
 intro a0 a1 k
 have ih0:=dioramaref01_Bytes.mono_l k
 unfold dioramaref01_Bytes.f
 repeat' first
  | (with_reducible exact ih0 _ _ _)
  | (with_reducible exact LeO.refl _)
  | (with_reducible exact LeO.none _)
  | (with_reducible refine LeO.ite ?_ ?_)
  | (with_reducible refine LeO.bind ?_ (fun _=>?_))
  | exact LeO.none _
  | refine LeO.ite ?_ ?_
  | refine LeO.bind ?_ (fun _=>?_)
set_option maxHeartbeats 8000000 in
set_option maxRecDepth 100000 in
theorem dioramaref01_Bytes.calls (k:Nat) (a0:Int) (a1:Int) (r:List Int) (w:World) (h:dioramaref01_Bytes.f k a0 a1=some r) :
 Calls Try.prog 87 #[.int .i64 a0,.int .i64 a1] w fun e w'=>∃ v0_:Value,e=.returned (v0_)∧Kd.R (Kd.int .u8) 5 w' w.heap.size (fun _=>True) v0_ r∧Below w.heap.size w w':=by
 have HB:=Aside0.mk (Below.refl w.heap.size w)
 have H:(if 0≤a1 then (if (a1:Int).toNat≤281474976710656 then (dioramaref01_Bytes.l0 k a0 (List.replicate (a1:Int).toNat 0) (wrap64 (a1 - 1))) else (none)) else (none))=some r:=h;clear h
 by_cases c3:0≤a1
 · rw [if_pos c3] at H
   have c3b0:=eq_true c3
   have c3b1:decide (0≤a1)=true:=decide_eq_true c3;clear c3
   by_cases c4:(a1:Int).toNat≤281474976710656
   · rw [if_pos c4] at H
     have c4b0:=eq_true c4
     have c4b1:decide ((a1:Int).toNat≤281474976710656)=true:=decide_eq_true c4;clear c4
     obtain ⟨y324,hy324⟩:∃ y_:List Int,y_=(List.replicate (a1:Int).toNat 0):=⟨_,rfl⟩
     replace H:(dioramaref01_Bytes.l0 k a0 y324 (wrap64 (a1 - 1)))=some r:=by first|(rw [hy324];with_reducible exact H)|(have H2_:=(Option.bind_some _ _).symm.trans H;rw [hy324];with_reducible exact H2_)|(have H2_:=(Option.bind_some _ _).symm.trans H;with_reducible exact H2_)|with_reducible exact H|(rw [hy324];exact H)|exact H
     have Ny324:=Aside0.mk hy324;clear hy324
     have H':=Aside0.mk H;clear H
     go_enter Try.func87,Try.ntmps87
     go_wp2_with (first|((with_reducible refine gate_dst (N:=8) rfl ?_);refine Kd.R_make (Kd.int .u8) _ 5 rfl (N:=8) rfl 23 _ _ rfl a1 rfl rfl Try.underlying23 (.int .u8 0) 1 info5 rfl (by decide) (by omega) 0 (ok:=fun _=>True) (okp:=fun _=>True) rfl (fun _ hk=>hk) trivial (of_decide_eq_true asV) (Nat.le_trans (Nat.mul_le_mul_right _ (of_decide_eq_true asV:a1.toNat≤281474976710656)) (by omega)) (Below.refl _ _) (Nat.le_refl _) ?_;intro v325 w5 ho6 hb hg_ hnew_;clear hg_ hnew_;(first|rw [← Ny324.out] at ho6|(simp only [Int.reduceToNat] at ho6;rw [← Ny324.out] at ho6));have n0_:=Aside0.mk (Kd.R_lower ho6 (below_size (belV HB.out)));have n1_:=Aside0.mk (below_step (belV HB.out) hb);clear HB;have HO326:=n0_;have HB:=n1_;clear n0_ n1_;clear hb ho6))
     go_loopg [0,6] k (fun kq v0 v6 w'=>∃ (x0_1:Int) (x5_1:List Int) (x6_1:Int),v0=.int .i64 x0_1∧v6=.int .i64 x6_1∧Aside0 (dioramaref01_Bytes.l0 kq x0_1 x5_1 x6_1=some r)∧Aside0 (kq≤k)∧Aside0 (Kd.R (Kd.int .u8) 5 w' w.heap.size (fun _=>True) v325 x5_1)∧Aside0 (Below w.heap.size w w'))
     case atStart=>exact ⟨(a0),(y324),(wrap64 (a1 - 1)),okV,okV,H',⟨Nat.le_refl _⟩,⟨rowV HO326.out⟩,⟨belV HB.out⟩⟩
     case round =>
      clear H'
      try clear p2;try clear c3;try clear c3b0;try clear c3b1;try clear c4;try clear c4b0;try clear c4b1;try clear p6
      obtain ⟨x0_1,x5_1,x6_1,rfl,rfl,HA,HK1,HO_5,HB⟩:=hrel
      cases gk with
      | zero=>exact absurd HA.out (by simp [dioramaref01_Bytes.l0])
      | succ k1 =>
       have H:=HA.out;clear HA
       simp only [dioramaref01_Bytes.l0] at H
       by_cases c7:x6_1≥0
       · rw [if_pos c7] at H
         have c7b0:decide (0≤x6_1)=true:=decide_eq_true c7;clear c7
         by_cases c8:0≤x6_1
         · rw [if_pos c8] at H
           have c8b0:decide (0≤x6_1)=true:=decide_eq_true c8;clear c8
           by_cases c9:x6_1 < (x5_1.length:Int)
           · rw [if_pos c9] at H
             have c9b0:decide (x6_1 < (x5_1.length:Int))=true:=decide_eq_true c9;clear c9
             obtain ⟨y327,hy327⟩:∃ y_:List Int,y_=(x5_1.set (x6_1:Int).toNat ((Int.tmod x0_1 256) % 256)):=⟨_,rfl⟩
             replace H:(dioramaref01_Bytes.l0 k1 (wrap64 (Int.tdiv x0_1 256)) y327 (wrap64 (x6_1 - 1)))=some r:=by first|(rw [hy327];with_reducible exact H)|(have H2_:=(Option.bind_some _ _).symm.trans H;rw [hy327];with_reducible exact H2_)|(have H2_:=(Option.bind_some _ _).symm.trans H;with_reducible exact H2_)|with_reducible exact H|(rw [hy327];exact H)|exact H
             have Ny327:=Aside0.mk hy327;clear hy327
             have H':=Aside0.mk H;clear H
             have p10:0≤(x6_1:Int):=of_decide_eq_true asV
             have q10:(x6_1:Int) < ((x5_1.length:Int):Int):=of_decide_eq_true asV
             obtain ⟨go10,co10,eo10,gb10,gl10,cl10,HG10⟩:=Kd.R_form HO_5.out (by omega)
             (first|cases eo10|(injection eo10 with ea_ en_ ec_;(first|subst ea_|(injection ea_ with ea_;subst ea_));subst ec_;clear en_))
             have GB10:=Aside0.mk gb10
             have GG10:=Aside0.mk HG10;clear gb10 gl10 HG10
             obtain ⟨hx10_0,hf10_0⟩:=Kd.R_celln 0 HO_5.out (x6_1:Int) p10 q10
             replace p10:=eq_true p10
             replace q10:=eq_true q10
             have HP11:=Kd.R_putg HO_5.out (x6_1:Int) ((Int.tmod x0_1 256) % 256)
             go_wp2_with (first|((with_reducible refine gate_store (t:=5) (p:=20) rfl ?_);refine store_event (t:=5) (p:=20) (v:=?vo_w12) (w1:=(wr.setCell ⟨go10,(x6_1:Int).toNat,none⟩ (.int .u8 ((Int.tmod x0_1 256) % 256)))) ?hg ?ho ?hn ?hr ?_;(case ho=>rfl);(case hg=>rfl);(case hn=>rfl);(case hr=>first|(go_simp;done)|(go_simp;rfl));intro w12 hw;have hg:wr.grownBy w12 (some go10):=(by rw [hw];exact HP11.2);have hp_:Kd.R (Kd.int .u8) 5 w12 w.heap.size (fun _=>True) (.slice (some ⟨go10,0,none⟩) x5_1.length co10) y327:=(by rw [hw,Ny327.out];exact HP11.1);clear HP11;have n0_:=Aside0.mk (hp_);have n1_:=Aside0.mk ((by rw [hw];exact below_set (HB.out) GB10.out:Below w.heap.size w w12));clear HO_5;clear HB;have HO_5:=n0_;have HB:=n1_;clear n0_ n1_;clear hg hw hp_))
             go_roundg k1
             case measure=>have:=HK1.out;omega
             case rel=>exact ⟨(wrap64 (Int.tdiv x0_1 256)),(y327),(wrap64 (x6_1 - 1)),okV,okV,H',⟨by have:=HK1.out;omega⟩,⟨rowV HO_5.out⟩,⟨belV HB.out⟩⟩
           rw [if_neg c9] at H
           exact absurd H (by simp)
         rw [if_neg c8] at H
         exact absurd H (by simp)
       rw [if_neg c7] at H
       have c7b0:decide (0≤x6_1)=false:=decide_eq_false c7;clear c7
       obtain rfl:=Option.some.inj H
       go_wp2
       go_ret
       exact ⟨_,by first|rfl|(simp [errW_none,errW_some] <;> rfl)|(simp [*,errW_none,errW_some] <;> rfl),by (with_reducible repeat (first|apply Kd.R_alloc|apply Kd.R_drewN|apply Kd.R_drew));exact HO_5.out,by repeat (first|(with_reducible first|exact HB.out|apply below_alloc|apply pw_below_drewN|apply below_drew1)|exact HB.out)⟩
   rw [if_neg c4] at H
   exact absurd H (by simp)
 rw [if_neg c3] at H
 exact absurd H (by simp)

/-! ### dioramaref19_number: function 70 -/
def dioramaref19_number.f (k : Nat) (a0 : Int) (a1 : Int) : Option (List Int) := (dioramaref01_Bytes.f k a0 a1).bind fun t328 => (some t328)
theorem dioramaref19_number.mono:∀ a0 a1 k,LeO (dioramaref19_number.f k a0 a1) (dioramaref19_number.f (k+1) a0 a1):=by
 intro a0 a1 k
 unfold dioramaref19_number.f
 repeat' first
  | (with_reducible exact dioramaref01_Bytes.mono _ _ _)
  | (with_reducible exact LeO.refl _)
  | (with_reducible exact LeO.none _)
  | (with_reducible refine LeO.ite ?_ ?_)
  | (with_reducible refine LeO.bind ?_ (fun _=>?_))
  | exact LeO.none _
  | refine LeO.ite ?_ ?_
  | refine LeO.bind ?_ (fun _=>?_)
set_option maxHeartbeats 8000000 in
set_option maxRecDepth 100000 in
theorem dioramaref19_number.calls (k:Nat) (a0:Int) (a1:Int) (r:List Int) (w:World) (h:dioramaref19_number.f k a0 a1=some r) :
 Calls Try.prog 70 #[.int .i64 a0,.int .i64 a1] w fun e w'=>∃ v0_:Value,e=.returned (v0_)∧Kd.R (Kd.int .u8) 5 w' w.heap.size (fun _=>True) v0_ r∧Below w.heap.size w w':=by
 have HB:=Aside0.mk (Below.refl w.heap.size w)
 have H:((dioramaref01_Bytes.f k a0 a1).bind fun t328=>(some t328))=some r:=h;clear h
 replace H:=Option.bind_eq_some_iff.mp H
 obtain ⟨t328,A30,H⟩:=H
 replace H:(some t328)=some r:=H
 have A3:=Aside0.mk A30;clear A30
 obtain rfl:=Option.some.inj H
 go_enter Try.func70,Try.ntmps70
 go_wp2_with (first|((with_reducible refine gate_callee (f:=87) rfl ?_);refine goesL_ (some 7) rfl rfl Try.func87 (by kernel_rfl) rfl #[.int .i64 a0,.int .i64 a1] rfl (by (try simp only [List.map_toArray,List.map_cons,List.map_nil]);first|done|rfl|(simp only [List.length_drop,List.length_take];rfl)) ?_;(with_reducible refine (dioramaref01_Bytes.calls k a0 a1 t328 _ A3.out).mono ?_);rintro e w4 ⟨v329,rfl,ho0,hb⟩;refine ⟨_,rfl,?_⟩;have n0_:=Aside0.mk (Kd.R_lower ho0 (below_size (belV HB.out)));have n1_:=Aside0.mk (below_step (belV HB.out) hb);clear HB;have HO330:=n0_;have HB:=n1_;clear n0_ n1_;(try clear hb);(try clear hb2);(try clear hk);(try clear hi);(try clear ho0)))
 go_ret
 exact ⟨_,by first|rfl|(simp [errW_none,errW_some] <;> rfl)|(simp [*,errW_none,errW_some] <;> rfl),by (with_reducible repeat (first|apply Kd.R_alloc|apply Kd.R_drewN|apply Kd.R_drew));exact HO330.out,by repeat (first|(with_reducible first|exact HB.out|apply below_alloc|apply pw_below_drewN|apply below_drew1)|exact HB.out)⟩

/-! ### dioramaref19_Encode: function 38 -/
mutual
def dioramaref19_Encode.j0 : Nat → Int → Bool → List Int → List (S91) → Option (List Int × Int)
 | 0,_,_,_,_=>none
 | k+1,x5,x332000,x332001,x332002=>dioramaref19_Encode.l0 k (([(x5) % 256,((x332001.length:Int)) % 256]:List Int)) 0 x332000 x332001 x332002
def dioramaref19_Encode.l0 : Nat → List Int → Int → Bool → List Int → List (S91) → Option (List Int × Int)
 | 0,_,_,_,_,_=>none
 | k+1,x6,x7,x332000,x332001,x332002=>if x7 < (x332001.length:Int) then (if 0≤x7 then ((dioramaref19_number.f k (rd x332001 x7) 3).bind fun t337=>(if x6.length+t337.length < 140737488355328 then (dioramaref19_Encode.l0 k (x6 ++ t337) (wrap64 (x7+1)) x332000 x332001 x332002) else (none))) else (none)) else (if x6.length < 140737488355328 then (dioramaref19_Encode.l1 k (x6 ++ [((x332002.length:Int)) % 256]) 0 x332000 x332001 x332002) else (none))
def dioramaref19_Encode.l1 : Nat → List Int → Int → Bool → List Int → List (S91) → Option (List Int × Int)
 | 0,_,_,_,_,_=>none
 | k+1,x6,x8,x332000,x332001,x332002=>if x8 < (x332002.length:Int) then (if 0≤x8 then ((dioramaref19_Runs.f k ((rd_T91 x332002 x8).f4) ((rd_T91 x332002 x8).f2)).bind fun bt355=>((dioramaref19_number.f k ((rd_T91 x332002 x8).f0) 2).bind fun t359=>(if x6.length+t359.length < 140737488355328 then ((some (x6 ++ t359:List Int)).bind fun y362=>((dioramaref19_number.f k ((rd_T91 x332002 x8).f1) 2).bind fun t365=>(if y362.length+t365.length < 140737488355328 then ((some (y362 ++ t365:List Int)).bind fun y368=>((some (([((rd_T91 x332002 x8).f2) % 256,((rd_T91 x332002 x8).f3) % 256]:List Int):List Int)).bind fun y371=>(if y368.length+y371.length < 140737488355328 then ((some (y368 ++ y371:List Int)).bind fun y374=>((dioramaref19_number.f k (bt355.1.length:Int) 2).bind fun t377=>(if y374.length+t377.length < 140737488355328 then ((some (y374 ++ t377:List Int)).bind fun y380=>(if y380.length+bt355.1.length < 140737488355328 then (dioramaref19_Encode.l1 k (y380 ++ bt355.1) (wrap64 (x8+1)) x332000 x332001 x332002) else (none))) else (none)))) else (none)))) else (none)))) else (none)))) else (none)) else ((dioramaref01_Sum.f k x6).bind fun t346=>((dioramaref19_number.f k (wrap64 (t346)) 4).bind fun t347=>(if x6.length+t347.length < 140737488355328 then (some ((x6 ++ t347),0)) else (none))))
end
def dioramaref19_Encode.f (k : Nat) (a0_0 : Bool) (l0_1 : List Int) (l0_2 : List (S91)) : Option (List Int × Int) := (dioramaref19_Check.f k a0_0 l0_1 l0_2).bind fun t332 => (if t332 = 0 then (if a0_0 = true then (dioramaref19_Encode.j0 k 1 a0_0 l0_1 l0_2) else (dioramaref19_Encode.j0 k 0 a0_0 l0_1 l0_2)) else (some (([] : List Int), t332)))
theorem dioramaref19_Encode.mono_l:∀ k,(∀ y0 y1 y2 y3,LeO (dioramaref19_Encode.j0 k y0 y1 y2 y3) (dioramaref19_Encode.j0 (k+1) y0 y1 y2 y3))∧(∀ y0 y1 y2 y3 y4,LeO (dioramaref19_Encode.l0 k y0 y1 y2 y3 y4) (dioramaref19_Encode.l0 (k+1) y0 y1 y2 y3 y4))∧(∀ y0 y1 y2 y3 y4,LeO (dioramaref19_Encode.l1 k y0 y1 y2 y3 y4) (dioramaref19_Encode.l1 (k+1) y0 y1 y2 y3 y4))
 | 0=>⟨fun _ _ _ _ r h=>by simp [dioramaref19_Encode.j0] at h,fun _ _ _ _ _ r h=>by simp [dioramaref19_Encode.l0] at h,fun _ _ _ _ _ r h=>by simp [dioramaref19_Encode.l1] at h⟩
 | k+1=>by
  obtain ⟨ih0,ih1,ih2⟩:=dioramaref19_Encode.mono_l k
  refine ⟨?_,?_,?_⟩
  · intro y0 y1 y2 y3
    unfold dioramaref19_Encode.j0
    repeat' first
    | (with_reducible exact ih0 _ _ _ _)
    | (with_reducible exact ih1 _ _ _ _ _)
    | (with_reducible exact ih2 _ _ _ _ _)
    | (with_reducible exact dioramaref01_Sum.mono _ _)
    | (with_reducible exact dioramaref19_Check.mono _ _ _ _)
    | (with_reducible exact dioramaref19_Runs.mono _ _ _)
    | (with_reducible exact dioramaref19_number.mono _ _ _)
    | (with_reducible exact LeO.refl _)
    | (with_reducible exact LeO.none _)
    | (with_reducible refine LeO.ite ?_ ?_)
    | (with_reducible refine LeO.bind ?_ (fun _=>?_))
    | exact LeO.none _
    | refine LeO.ite ?_ ?_
    | refine LeO.bind ?_ (fun _=>?_)
  · intro y0 y1 y2 y3 y4
    unfold dioramaref19_Encode.l0
    repeat' first
    | (with_reducible exact ih0 _ _ _ _)
    | (with_reducible exact ih1 _ _ _ _ _)
    | (with_reducible exact ih2 _ _ _ _ _)
    | (with_reducible exact dioramaref01_Sum.mono _ _)
    | (with_reducible exact dioramaref19_Check.mono _ _ _ _)
    | (with_reducible exact dioramaref19_Runs.mono _ _ _)
    | (with_reducible exact dioramaref19_number.mono _ _ _)
    | (with_reducible exact LeO.refl _)
    | (with_reducible exact LeO.none _)
    | (with_reducible refine LeO.ite ?_ ?_)
    | (with_reducible refine LeO.bind ?_ (fun _=>?_))
    | exact LeO.none _
    | refine LeO.ite ?_ ?_
    | refine LeO.bind ?_ (fun _=>?_)
  intro y0 y1 y2 y3 y4
  unfold dioramaref19_Encode.l1
  repeat' first
  | (with_reducible exact ih0 _ _ _ _)
  | (with_reducible exact ih1 _ _ _ _ _)
  | (with_reducible exact ih2 _ _ _ _ _)
  | (with_reducible exact dioramaref01_Sum.mono _ _)
  | (with_reducible exact dioramaref19_Check.mono _ _ _ _)
  | (with_reducible exact dioramaref19_Runs.mono _ _ _)
  | (with_reducible exact dioramaref19_number.mono _ _ _)
  | (with_reducible exact LeO.refl _)
  | (with_reducible exact LeO.none _)
  | (with_reducible refine LeO.ite ?_ ?_)
  | (with_reducible refine LeO.bind ?_ (fun _=>?_))
  | exact LeO.none _
  | refine LeO.ite ?_ ?_
  | refine LeO.bind ?_ (fun _=>?_)
theorem dioramaref19_Encode.mono:∀ a0 a1 a2 k,LeO (dioramaref19_Encode.f k a0 a1 a2) (dioramaref19_Encode.f (k+1) a0 a1 a2):=by
 intro a0 a1 a2 k
 obtain ⟨ih0,ih1,ih2⟩:=dioramaref19_Encode.mono_l k
 unfold dioramaref19_Encode.f
 repeat' first
  | (with_reducible exact ih0 _ _ _ _)
  | (with_reducible exact ih1 _ _ _ _ _)
  | (with_reducible exact ih2 _ _ _ _ _)
  | (with_reducible exact dioramaref01_Sum.mono _ _)
  | (with_reducible exact dioramaref19_Check.mono _ _ _ _)
  | (with_reducible exact dioramaref19_Runs.mono _ _ _)
  | (with_reducible exact dioramaref19_number.mono _ _ _)
  | (with_reducible exact LeO.refl _)
  | (with_reducible exact LeO.none _)
  | (with_reducible refine LeO.ite ?_ ?_)
  | (with_reducible refine LeO.bind ?_ (fun _=>?_))
  | exact LeO.none _
  | refine LeO.ite ?_ ?_
  | refine LeO.bind ?_ (fun _=>?_)
set_option maxHeartbeats 8000000 in
set_option maxRecDepth 100000 in
theorem dioramaref19_Encode.calls (k:Nat) (a0_0:Bool) (A0_1:Option Addr) (c0_1:Nat) (l0_1:List Int) (A0_2:Option Addr) (c0_2:Nat) (l0_2:List (S91)) (r1:List Int) (r2:Int) (w:World) (hr0_1:Kd.C (Kd.int .i64) w A0_1 l0_1.length l0_1) (hc0_1:l0_1.length≤c0_1) (hr0_2:Kd.C k91 w A0_2 l0_2.length l0_2) (hc0_2:l0_2.length≤c0_2) (h:dioramaref19_Encode.f k a0_0 l0_1 l0_2=some (r1,r2)) :
 Calls Try.prog 38 #[.agg #[.bool a0_0,.slice A0_1 l0_1.length c0_1,.slice A0_2 l0_2.length c0_2]] w fun e w'=>∃ v0_:Value,e=.returned (.tuple #[v0_,.int .i64 r2])∧Kd.R (Kd.int .u8) 5 w' w.heap.size (fun _=>True) v0_ r1∧Below w.heap.size w w':=by
 have hu51:=Try.underlying51
 have hu91:=Try.underlying91
 have HR0_1:=Aside0.mk hr0_1
 have HC0_1:=Aside0.mk hc0_1;clear hr0_1 hc0_1
 have HR0_2:=Aside0.mk hr0_2
 have HC0_2:=Aside0.mk hc0_2;clear hr0_2 hc0_2;have HB:=Aside0.mk (Below.refl w.heap.size w)
 have H:((dioramaref19_Check.f k a0_0 l0_1 l0_2).bind fun t332=>(if t332=0 then (if a0_0=true then (dioramaref19_Encode.j0 k 1 a0_0 l0_1 l0_2) else (dioramaref19_Encode.j0 k 0 a0_0 l0_1 l0_2)) else (some (([]:List Int),t332))))=some (r1,r2):=h
 clear h
 replace H:=Option.bind_eq_some_iff.mp H
 obtain ⟨t332,A20,H⟩:=H
 replace H:(if t332=0 then (if a0_0=true then (dioramaref19_Encode.j0 k 1 a0_0 l0_1 l0_2) else (dioramaref19_Encode.j0 k 0 a0_0 l0_1 l0_2)) else (some (([]:List Int),t332)))=some (r1,r2):=H
 have A2:=Aside0.mk A20;clear A20
 by_cases c3:t332=0
 · rw [if_pos c3] at H
   have c3b0:(t332 == 0)=true:=beq_iff_eq.mpr c3
   have c3b1:(t332 != 0)=false:=bne_eq_false_iff_eq.mpr c3;clear c3
   have HC4:=Aside0.mk H;clear H
   go_enter Try.func38,Try.ntmps38
   go_upto_if 18 with (first|((with_reducible refine gate_dst (N:=1) rfl ?_);refine box_event ?hg (N:=1) ?hd (cs:=#[.bool a0_0,.slice A0_1 l0_1.length c0_1,.slice A0_2 l0_2.length c0_2]) (t:=51) ?hr ?_;(case hd=>rfl);(case hg=>rfl);(case hr=>first|(go_simp;done)|(go_simp;rfl));intro gb331 hg w5 hbox hb;have n0_:=Aside0.mk (below_step (belV HB.out) hb);have n1_:=Aside0.mk (hbox);have n2_:=Aside0.mk ((by rw [hg];exact (below_size (belV HB.out)):w.heap.size≤gb331));have n3_:=Aside0.mk ((by rw [hg];exact (below_size (belV HB.out)):w.heap.size≤gb331));clear HB;have HB:=n0_;have BK331:=n1_;have GW331:=n2_;have GE331:=n3_;clear n0_ n1_ n2_ n3_;clear hb hbox hg;obtain ⟨hcz6_0,hcz6_1,hcz6_2,hfz6_0,hfz6_1,hfz6_2⟩:=bcells3 BK331.out)|((with_reducible refine gate_callee (f:=40) rfl ?_);refine goesL_ (some 13) rfl rfl Try.func40 (by kernel_rfl) rfl #[.agg #[.bool a0_0,.slice A0_1 l0_1.length c0_1,.slice A0_2 l0_2.length c0_2]] rfl (by (try simp only [List.map_toArray,List.map_cons,List.map_nil]);first|done|rfl|(simp only [List.length_drop,List.length_take];rfl)) ?_;(with_reducible refine (dioramaref19_Check.calls k a0_0 _ _ l0_1 _ _ l0_2 t332 _ ?side1 ?side2 ?side3 ?side4 A2.out).mono ?_);(case side1=>exact cV (Kd.C_below HR0_1.out HB.out));(case side2=>exact HC0_1.out);(case side3=>exact cV (Kd.C_below HR0_2.out HB.out));(case side4=>exact HC0_2.out);rintro e w7 ⟨rfl,hb⟩;refine ⟨_,rfl,?_⟩;have n0_:=Aside0.mk (blk_below (g:=gb331) (blkV BK331.out) hb);have n1_:=Aside0.mk (below_step (belV1 HB.out GE331.out) hb);clear BK331;clear HB;have BK331:=n0_;have HB:=n1_;clear n0_ n1_;(try clear hb);(try clear hb2);(try clear hk);(try clear hi);obtain ⟨hcz8_0,hcz8_1,hcz8_2,hfz8_0,hfz8_1,hfz8_2⟩:=bcells3 BK331.out))
   (try simp only [Act.put,List.setIfInBounds_toArray,List.set_cons_zero,List.set_cons_succ])
   go_cut [5] (fun v5 wc=>∃ (kq:Nat) (x5_3:Int),v5=.int .i64 x5_3∧Aside0 (dioramaref19_Encode.j0 kq x5_3 a0_0 l0_1 l0_2=some (r1,r2))∧Aside0 (kq≤k)∧Aside0 (wc.heap[gb331]?=some (.cells #[.bool a0_0,(.slice A0_1 l0_1.length c0_1),(.slice A0_2 l0_2.length c0_2)] 51 (0,0)))∧Aside0 (Below w.heap.size w wc))
   case first =>
    have H:=HC4.out;clear HC4
    by_cases c9:a0_0=true
    · subst c9
      have H1:(dioramaref19_Encode.j0 k 1 true l0_1 l0_2)=some (r1,r2):=by rw [if_pos rfl] at H;exact H
      clear H
      have H:=H1;clear H1
      have H':=Aside0.mk H;clear H
      go_wp2
      go_meet
      case rel=>exact ⟨_,(1),okV,H',⟨by first|omega|exact Nat.le_refl _⟩,⟨blkV BK331.out⟩,⟨belV1 HB.out GE331.out⟩⟩
    replace c9:=Bool.eq_false_iff.mpr c9;subst c9
    have H1:(dioramaref19_Encode.j0 k 0 false l0_1 l0_2)=some (r1,r2):=by rw [if_neg (show ¬ (false=true) by decide)] at H;exact H
    clear H
    have H:=H1;clear H1
    have H':=Aside0.mk H;clear H
    go_wp2
    go_meet
    case rel=>exact ⟨_,(0),okV,H',⟨by first|omega|exact Nat.le_refl _⟩,⟨blkV BK331.out⟩,⟨belV1 HB.out GE331.out⟩⟩
   case rest =>
    clear HC4
    try clear p2;try clear c3;try clear c3b0;try clear c3b1;try clear c4;try clear c9;try clear hcz6_0 hcz6_1 hcz6_2;try clear hcz8_0 hcz8_1 hcz8_2;try clear hfz6_0 hfz6_1 hfz6_2;try clear hfz8_0 hfz8_1 hfz8_2
    obtain ⟨kq,x5_3,rfl,HA,HJ3,BK331,HB⟩:=hcut
    cases kq with
    | zero=>exact absurd HA.out (by simp [dioramaref19_Encode.j0])
    | succ kj3 =>
     have H:=HA.out;clear HA
     simp only [dioramaref19_Encode.j0] at H
     obtain ⟨y333,hy333⟩:∃ y_:List Int,y_=(([(x5_3) % 256,((l0_1.length:Int)) % 256]:List Int)):=⟨_,rfl⟩
     replace H:(dioramaref19_Encode.l0 kj3 y333 0 a0_0 l0_1 l0_2)=some (r1,r2):=by first|(rw [hy333];with_reducible exact H)|(have H2_:=(Option.bind_some _ _).symm.trans H;rw [hy333];with_reducible exact H2_)|(have H2_:=(Option.bind_some _ _).symm.trans H;with_reducible exact H2_)|with_reducible exact H|(rw [hy333];exact H)|exact H
     have Ny333:=Aside0.mk hy333;clear hy333
     have H':=Aside0.mk H;clear H
     obtain ⟨hcz10_0,hcz10_1,hcz10_2,hfz10_0,hfz10_1,hfz10_2⟩:=bcells3 BK331.out
     go_wp2_with (first|((with_reducible refine gate_dst (N:=25) rfl ?_);refine Kd.R_lit (Kd.int .u8) _ 5 ?hg (N:=25) ?hd (xs:=([(x5_3) % 256,((l0_1.length:Int)) % 256]:List Int)) (inner:=[.int .u8 ((x5_3) % 256),.int .u8 (((l0_1.length:Int)) % 256)]) (ok:=fun _=>True) (okp:=fun _=>True) ?hr ?hp (fun _ hk=>hk) trivial (Below.refl _ _) (Nat.le_refl _) (by simp) ?_;(case hd=>rfl);(case hg=>rfl);(case hr=>first|(go_simp;done)|(go_simp;rfl));(case hp=>exact (Reps.one (show Kd.M (Kd.int .u8) _ _ _ ((x5_3) % 256) [.int .u8 ((x5_3) % 256)] from rfl) (Reps.one (show Kd.M (Kd.int .u8) _ _ _ (((l0_1.length:Int)) % 256) [.int .u8 (((l0_1.length:Int)) % 256)] from rfl) (Reps.none _ _))));intro v334 w11 ho12 hb hg_ hnew_;clear hg_ hnew_;(first|rw [← Ny333.out] at ho12|(simp only [Int.reduceToNat] at ho12;rw [← Ny333.out] at ho12));have n0_:=Aside0.mk (Kd.R_lower ho12 (below_size (belV1 HB.out GE331.out)));have n1_:=Aside0.mk (blk_below (g:=gb331) (blkV BK331.out) hb);have n2_:=Aside0.mk (below_step (belV1 HB.out GE331.out) hb);clear BK331;clear HB;have HO335:=n0_;have BK331:=n1_;have HB:=n2_;clear n0_ n1_ n2_;clear hb ho12))
     go_loopg [6,7] kj3 (fun kq v6 v7 w'=>∃ (x6_2:List Int) (x7_2:Int),v7=.int .i64 x7_2∧Aside0 (dioramaref19_Encode.l0 kq x6_2 x7_2 a0_0 l0_1 l0_2=some (r1,r2))∧Aside0 (kq≤kj3)∧Aside0 (Kd.R (Kd.int .u8) 5 w' w.heap.size (fun _=>True) v6 x6_2)∧Aside0 (w'.heap[gb331]?=some (.cells #[.bool a0_0,(.slice A0_1 l0_1.length c0_1),(.slice A0_2 l0_2.length c0_2)] 51 (0,0)))∧Aside0 (Below w.heap.size w w'))
     case atStart=>exact ⟨(y333),(0),okV,H',⟨Nat.le_refl _⟩,⟨rowV HO335.out⟩,⟨blkV BK331.out⟩,⟨belV1 HB.out GE331.out⟩⟩
     case round =>
      clear H'
      try clear p2 p2;try clear c3;try clear c3b0;try clear c3b1;try clear c4;try clear c9;try clear hcz10_0 hcz10_1 hcz10_2;try clear hcz6_0 hcz6_1 hcz6_2;try clear hcz8_0 hcz8_1 hcz8_2;try clear hfz10_0 hfz10_1 hfz10_2;try clear hfz6_0 hfz6_1 hfz6_2;try clear hfz8_0 hfz8_1 hfz8_2
      obtain ⟨x6_2,x7_2,rfl,HA,HK2,HO_6,BK331,HB⟩:=hrel
      cases gk with
      | zero=>exact absurd HA.out (by simp [dioramaref19_Encode.l0])
      | succ k2 =>
       have H:=HA.out;clear HA
       simp only [dioramaref19_Encode.l0] at H
       by_cases c13:x7_2 < (l0_1.length:Int)
       · rw [if_pos c13] at H
         have c13b0:decide (x7_2 < (l0_1.length:Int))=true:=decide_eq_true c13;clear c13
         by_cases c14:0≤x7_2
         · rw [if_pos c14] at H
           have c14b0:decide (0≤x7_2)=true:=decide_eq_true c14;clear c14
           replace H:=Option.bind_eq_some_iff.mp H
           obtain ⟨t337,A150,H⟩:=H
           replace H:(if x6_2.length+t337.length < 140737488355328 then (dioramaref19_Encode.l0 k2 (x6_2 ++ t337) (wrap64 (x7_2+1)) a0_0 l0_1 l0_2) else (none))=some (r1,r2):=H
           have A15:=Aside0.mk A150;clear A150
           by_cases c16:x6_2.length+t337.length < 140737488355328
           · rw [if_pos c16] at H
             have LMc16:=Aside0.mk c16;clear c16
             obtain ⟨y340,hy340⟩:∃ y_:List Int,y_=(x6_2 ++ t337):=⟨_,rfl⟩
             replace H:(dioramaref19_Encode.l0 k2 y340 (wrap64 (x7_2+1)) a0_0 l0_1 l0_2)=some (r1,r2):=by first|(rw [hy340];with_reducible exact H)|(have H2_:=(Option.bind_some _ _).symm.trans H;rw [hy340];with_reducible exact H2_)|(have H2_:=(Option.bind_some _ _).symm.trans H;with_reducible exact H2_)|with_reducible exact H|(rw [hy340];exact H)|exact H
             have Ny340:=Aside0.mk hy340;clear hy340
             have H':=Aside0.mk H;clear H
             obtain ⟨hcz17_0,hcz17_1,hcz17_2,hfz17_0,hfz17_1,hfz17_2⟩:=bcells3 BK331.out
             have p336:0≤(x7_2:Int):=of_decide_eq_true asV
             have q336:x7_2 < (l0_1.length:Int):=of_decide_eq_true asV
             obtain ⟨ad336,e336,hx336_0⟩:=Kd.at_int HR0_1.out x7_2 p336 q336
             cases e336
             replace hx336_0:=(HB.out.cell (World.block_lt_of_cell? w _ hx336_0)).trans hx336_0
             replace p336:=eq_true p336
             replace q336:=eq_true q336
             go_wp2_with (first|((with_reducible refine gate_callee (f:=70) rfl ?_);refine goesL_ (some 39) rfl rfl Try.func70 (by kernel_rfl) rfl #[.int .i64 (rd l0_1 x7_2),.int .i64 3] rfl (by (try simp only [List.map_toArray,List.map_cons,List.map_nil]);first|done|rfl|(simp only [List.length_drop,List.length_take];rfl)) ?_;(with_reducible refine (dioramaref19_number.calls k2 (rd l0_1 x7_2) 3 t337 _ A15.out).mono ?_);rintro e w18 ⟨v338,rfl,ho0,hb⟩;refine ⟨_,rfl,?_⟩;have n0_:=Aside0.mk (Kd.R_elder' (rowV HO_6.out) (Kd.R_base ho0) hb);have n1_:=Aside0.mk (Kd.R_lower (Kd.R_new' ho0 (Kd.R_lt (rowV HO_6.out))) (below_size (belV1 HB.out GE331.out)));have n2_:=Aside0.mk (blk_below (g:=gb331) (blkV BK331.out) hb);have n3_:=Aside0.mk (below_step (belV1 HB.out GE331.out) hb);clear HO_6;clear BK331;clear HB;have HO_6:=n0_;have HO339:=n1_;have BK331:=n2_;have HB:=n3_;clear n0_ n1_ n2_ n3_;(try clear hb);(try clear hb2);(try clear hk);(try clear hi);(try clear ho0);obtain ⟨Ao20,co20,eo20⟩:=Kd.R_slice HO339.out;subst eo20)|((with_reducible refine gate_builtin (b:=.append) (xs:=#[.tmp 33,.tmp 39]) rfl ?_);at_builtin;refine Kd.R_append_rows (Kd.int .u8) (w0:=w) w.heap.size rfl (.tmp 33) (.tmp 39) 23 5 (.int .u8 0) 1 rfl Try.underlying23 info5 rfl (by decide) (by omega) u6 x6_2 t337 _ _ _ (fun _=>True) (fun _=>False) rfl rfl ?aO ?aR (fun _ _ h=>h) (fun _ h=>h.elim) ?aF ?aB ?aS ?aL ?_;(case aR=>exact cV (Kd.R_reads' HO339.out).2.2);(case aB=>exact (belV1 HB.out GE331.out));(case aF=>exact (fun _ _=>trivial));(case aO=>exact (by (with_reducible repeat (first|apply Kd.R_alloc|apply Kd.R_drewN|apply Kd.R_drew));exact Kd.R_mono HO_6.out (fun _ hk=>trivial)));(case aS=>exact (below_size (belV1 HB.out GE331.out)));(case aL=>have:=LMc16.out;omega);intro v341 w19 ho hb hg hat;rw [← Ny340.out] at ho;have n0_:=Aside0.mk (blk_grown (g:=gb331) (blkV BK331.out) hg (Kd.R_ne HO_6.out BK331.out (by decide)));have n1_:=Aside0.mk (hb);have n2_:=Aside0.mk (ho);clear BK331;clear HB;clear HO_6;clear HO339;have BK331:=n0_;have HB:=n1_;have HO342:=n2_;clear n0_ n1_ n2_;clear ho hb hg hat))
             go_roundg k2
             case measure=>have:=HJ3.out;have:=HK2.out;omega
             case rel=>exact ⟨(y340),(wrap64 (x7_2+1)),okV,H',⟨by have:=HJ3.out;have:=HK2.out;omega⟩,⟨rowV HO342.out⟩,⟨blkV BK331.out⟩,⟨belV1 HB.out GE331.out⟩⟩
           rw [if_neg c16] at H
           exact absurd H (by simp)
         rw [if_neg c14] at H
         exact absurd H (by simp)
       rw [if_neg c13] at H
       have c13b0:decide (x7_2 < (l0_1.length:Int))=false:=decide_eq_false c13;clear c13
       by_cases c21:x6_2.length < 140737488355328
       · rw [if_pos c21] at H
         have LMc21:=Aside0.mk c21;clear c21
         obtain ⟨y343,hy343⟩:∃ y_:List Int,y_=(x6_2 ++ [((l0_2.length:Int)) % 256]):=⟨_,rfl⟩
         replace H:(dioramaref19_Encode.l1 k2 y343 0 a0_0 l0_1 l0_2)=some (r1,r2):=by first|(rw [hy343];with_reducible exact H)|(have H2_:=(Option.bind_some _ _).symm.trans H;rw [hy343];with_reducible exact H2_)|(have H2_:=(Option.bind_some _ _).symm.trans H;with_reducible exact H2_)|with_reducible exact H|(rw [hy343];exact H)|exact H
         have Ny343:=Aside0.mk hy343;clear hy343
         have H':=Aside0.mk H;clear H
         obtain ⟨hcz22_0,hcz22_1,hcz22_2,hfz22_0,hfz22_1,hfz22_2⟩:=bcells3 BK331.out
         go_wp2_with (first|((with_reducible refine gate_builtin (b:=.append) (xs:=#[.tmp 41,.tmp 46]) rfl ?_);at_builtin;refine Kd.R_append (Kd.int .u8) (w0:=w) w.heap.size rfl (.tmp 41) (.tmp 46) 23 5 (.int .u8 0) 1 rfl Try.underlying23 info5 rfl (by decide) (by omega) u6 x6_2 (((l0_2.length:Int)) % 256) [.int .u8 (((l0_2.length:Int)) % 256)] (fun _=>True) (fun _=>False) rfl rfl ?aP (fun _ hk=>hk.elim) ?aF ?aO ?aB ?aS ?aL ?_;(case aP=>exact rfl);(case aB=>exact (belV1 HB.out GE331.out));(case aF=>exact (fun _ _=>trivial));(case aO=>exact (rowV HO_6.out));(case aS=>exact (below_size (belV1 HB.out GE331.out)));(case aL=>have:=LMc21.out;omega);intro v344 w23 ho hb hg hat;rw [← Ny343.out] at ho;have n0_:=Aside0.mk (blk_grown (g:=gb331) (blkV BK331.out) hg (Kd.R_ne HO_6.out BK331.out (by decide)));have n1_:=Aside0.mk (hb);have n2_:=Aside0.mk (ho);clear BK331;clear HB;clear HO_6;have BK331:=n0_;have HB:=n1_;have HO345:=n2_;clear n0_ n1_ n2_;clear ho hb hg hat))
         go_loopg [6,8] k2 (fun kq v6 v8 w'=>∃ (x6_3:List Int) (x8_3:Int),v8=.int .i64 x8_3∧Aside0 (dioramaref19_Encode.l1 kq x6_3 x8_3 a0_0 l0_1 l0_2=some (r1,r2))∧Aside0 (kq≤k2)∧Aside0 (Kd.R (Kd.int .u8) 5 w' w.heap.size (fun _=>True) v6 x6_3)∧Aside0 (w'.heap[gb331]?=some (.cells #[.bool a0_0,(.slice A0_1 l0_1.length c0_1),(.slice A0_2 l0_2.length c0_2)] 51 (0,0)))∧Aside0 (Below w.heap.size w w'))
         case atStart=>exact ⟨(y343),(0),okV,H',⟨Nat.le_refl _⟩,⟨rowV HO345.out⟩,⟨blkV BK331.out⟩,⟨belV1 HB.out GE331.out⟩⟩
         case round =>
          clear H'
          try clear c1;try clear c2;try clear p2 p2;try clear c3;try clear c3b0;try clear c3b1;try clear p3;try clear q3;try clear hx3;try clear c4;try clear p6;try clear c7;try clear c9;try clear c13;try clear c13b0;try clear c14;try clear c14b0;try clear c16;try clear c21;try clear hcz10_0 hcz10_1 hcz10_2;try clear hcz17_0 hcz17_1 hcz17_2;try clear hcz22_0 hcz22_1 hcz22_2;try clear hcz6_0 hcz6_1 hcz6_2;try clear hcz8_0 hcz8_1 hcz8_2;try clear hfz10_0 hfz10_1 hfz10_2;try clear hfz17_0 hfz17_1 hfz17_2;try clear hfz22_0 hfz22_1 hfz22_2;try clear hfz6_0 hfz6_1 hfz6_2;try clear hfz8_0 hfz8_1 hfz8_2;try clear hx336_0;try clear p336;try clear q336
          obtain ⟨x6_3,x8_3,rfl,HA,HK3,HO_6,BK331,HB⟩:=hrel
          cases gk with
          | zero=>exact absurd HA.out (by simp [dioramaref19_Encode.l1])
          | succ k3 =>
           have H:=HA.out;clear HA
           simp only [dioramaref19_Encode.l1] at H
           by_cases c24:x8_3 < (l0_2.length:Int)
           · rw [if_pos c24] at H
             have c24b0:decide (x8_3 < (l0_2.length:Int))=true:=decide_eq_true c24;clear c24
             by_cases c25:0≤x8_3
             · rw [if_pos c25] at H
               have c25b0:decide (0≤x8_3)=true:=decide_eq_true c25;clear c25
               replace H:=Option.bind_eq_some_iff.mp H
               obtain ⟨⟨t355,t356⟩,A260,H⟩:=H
               replace H:((dioramaref19_number.f k3 ((rd_T91 l0_2 x8_3).f0) 2).bind fun t359=>(if x6_3.length+t359.length < 140737488355328 then ((some (x6_3 ++ t359:List Int)).bind fun y362=>((dioramaref19_number.f k3 ((rd_T91 l0_2 x8_3).f1) 2).bind fun t365=>(if y362.length+t365.length < 140737488355328 then ((some (y362 ++ t365:List Int)).bind fun y368=>((some (([((rd_T91 l0_2 x8_3).f2) % 256,((rd_T91 l0_2 x8_3).f3) % 256]:List Int):List Int)).bind fun y371=>(if y368.length+y371.length < 140737488355328 then ((some (y368 ++ y371:List Int)).bind fun y374=>((dioramaref19_number.f k3 (t355.length:Int) 2).bind fun t377=>(if y374.length+t377.length < 140737488355328 then ((some (y374 ++ t377:List Int)).bind fun y380=>(if y380.length+t355.length < 140737488355328 then (dioramaref19_Encode.l1 k3 (y380 ++ t355) (wrap64 (x8_3+1)) a0_0 l0_1 l0_2) else (none))) else (none)))) else (none)))) else (none)))) else (none)))=some (r1,r2):=H
               have A26:=Aside0.mk A260;clear A260
               replace H:=Option.bind_eq_some_iff.mp H
               obtain ⟨t359,A270,H⟩:=H
               replace H:(if x6_3.length+t359.length < 140737488355328 then ((some (x6_3 ++ t359:List Int)).bind fun y362=>((dioramaref19_number.f k3 ((rd_T91 l0_2 x8_3).f1) 2).bind fun t365=>(if y362.length+t365.length < 140737488355328 then ((some (y362 ++ t365:List Int)).bind fun y368=>((some (([((rd_T91 l0_2 x8_3).f2) % 256,((rd_T91 l0_2 x8_3).f3) % 256]:List Int):List Int)).bind fun y371=>(if y368.length+y371.length < 140737488355328 then ((some (y368 ++ y371:List Int)).bind fun y374=>((dioramaref19_number.f k3 (t355.length:Int) 2).bind fun t377=>(if y374.length+t377.length < 140737488355328 then ((some (y374 ++ t377:List Int)).bind fun y380=>(if y380.length+t355.length < 140737488355328 then (dioramaref19_Encode.l1 k3 (y380 ++ t355) (wrap64 (x8_3+1)) a0_0 l0_1 l0_2) else (none))) else (none)))) else (none)))) else (none)))) else (none))=some (r1,r2):=H
               have A27:=Aside0.mk A270;clear A270
               by_cases c28:x6_3.length+t359.length < 140737488355328
               · rw [if_pos c28] at H
                 have LMc28:=Aside0.mk c28;clear c28
                 obtain ⟨y362,hy362⟩:∃ y_:List Int,y_=(x6_3 ++ t359):=⟨_,rfl⟩
                 replace H:((dioramaref19_number.f k3 ((rd_T91 l0_2 x8_3).f1) 2).bind fun t365=>(if y362.length+t365.length < 140737488355328 then ((some (y362 ++ t365:List Int)).bind fun y368=>((some (([((rd_T91 l0_2 x8_3).f2) % 256,((rd_T91 l0_2 x8_3).f3) % 256]:List Int):List Int)).bind fun y371=>(if y368.length+y371.length < 140737488355328 then ((some (y368 ++ y371:List Int)).bind fun y374=>((dioramaref19_number.f k3 (t355.length:Int) 2).bind fun t377=>(if y374.length+t377.length < 140737488355328 then ((some (y374 ++ t377:List Int)).bind fun y380=>(if y380.length+t355.length < 140737488355328 then (dioramaref19_Encode.l1 k3 (y380 ++ t355) (wrap64 (x8_3+1)) a0_0 l0_1 l0_2) else (none))) else (none)))) else (none)))) else (none)))=some (r1,r2):=by first|(rw [hy362];with_reducible exact H)|(have H2_:=(Option.bind_some _ _).symm.trans H;rw [hy362];with_reducible exact H2_)|(have H2_:=(Option.bind_some _ _).symm.trans H;with_reducible exact H2_)|with_reducible exact H|(rw [hy362];exact H)|exact H
                 have Ny362:=Aside0.mk hy362;clear hy362
                 replace H:=Option.bind_eq_some_iff.mp H
                 obtain ⟨t365,A290,H⟩:=H
                 replace H:(if y362.length+t365.length < 140737488355328 then ((some (y362 ++ t365:List Int)).bind fun y368=>((some (([((rd_T91 l0_2 x8_3).f2) % 256,((rd_T91 l0_2 x8_3).f3) % 256]:List Int):List Int)).bind fun y371=>(if y368.length+y371.length < 140737488355328 then ((some (y368 ++ y371:List Int)).bind fun y374=>((dioramaref19_number.f k3 (t355.length:Int) 2).bind fun t377=>(if y374.length+t377.length < 140737488355328 then ((some (y374 ++ t377:List Int)).bind fun y380=>(if y380.length+t355.length < 140737488355328 then (dioramaref19_Encode.l1 k3 (y380 ++ t355) (wrap64 (x8_3+1)) a0_0 l0_1 l0_2) else (none))) else (none)))) else (none)))) else (none))=some (r1,r2):=H
                 have A29:=Aside0.mk A290;clear A290
                 by_cases c30:y362.length+t365.length < 140737488355328
                 · rw [if_pos c30] at H
                   have LMc30:=Aside0.mk c30;clear c30
                   obtain ⟨y368,hy368⟩:∃ y_:List Int,y_=(y362 ++ t365):=⟨_,rfl⟩
                   replace H:((some (([((rd_T91 l0_2 x8_3).f2) % 256,((rd_T91 l0_2 x8_3).f3) % 256]:List Int):List Int)).bind fun y371=>(if y368.length+y371.length < 140737488355328 then ((some (y368 ++ y371:List Int)).bind fun y374=>((dioramaref19_number.f k3 (t355.length:Int) 2).bind fun t377=>(if y374.length+t377.length < 140737488355328 then ((some (y374 ++ t377:List Int)).bind fun y380=>(if y380.length+t355.length < 140737488355328 then (dioramaref19_Encode.l1 k3 (y380 ++ t355) (wrap64 (x8_3+1)) a0_0 l0_1 l0_2) else (none))) else (none)))) else (none)))=some (r1,r2):=by first|(rw [hy368];with_reducible exact H)|(have H2_:=(Option.bind_some _ _).symm.trans H;rw [hy368];with_reducible exact H2_)|(have H2_:=(Option.bind_some _ _).symm.trans H;with_reducible exact H2_)|with_reducible exact H|(rw [hy368];exact H)|exact H
                   have Ny368:=Aside0.mk hy368;clear hy368
                   obtain ⟨y371,hy371⟩:∃ y_:List Int,y_=(([((rd_T91 l0_2 x8_3).f2) % 256,((rd_T91 l0_2 x8_3).f3) % 256]:List Int)):=⟨_,rfl⟩
                   replace H:(if y368.length+y371.length < 140737488355328 then ((some (y368 ++ y371:List Int)).bind fun y374=>((dioramaref19_number.f k3 (t355.length:Int) 2).bind fun t377=>(if y374.length+t377.length < 140737488355328 then ((some (y374 ++ t377:List Int)).bind fun y380=>(if y380.length+t355.length < 140737488355328 then (dioramaref19_Encode.l1 k3 (y380 ++ t355) (wrap64 (x8_3+1)) a0_0 l0_1 l0_2) else (none))) else (none)))) else (none))=some (r1,r2):=by first|(rw [hy371];with_reducible exact H)|(have H2_:=(Option.bind_some _ _).symm.trans H;rw [hy371];with_reducible exact H2_)|(have H2_:=(Option.bind_some _ _).symm.trans H;with_reducible exact H2_)|with_reducible exact H|(rw [hy371];exact H)|exact H
                   have Ny371:=Aside0.mk hy371;clear hy371
                   by_cases c31:y368.length+y371.length < 140737488355328
                   · rw [if_pos c31] at H
                     have LMc31:=Aside0.mk c31;clear c31
                     obtain ⟨y374,hy374⟩:∃ y_:List Int,y_=(y368 ++ y371):=⟨_,rfl⟩
                     replace H:((dioramaref19_number.f k3 (t355.length:Int) 2).bind fun t377=>(if y374.length+t377.length < 140737488355328 then ((some (y374 ++ t377:List Int)).bind fun y380=>(if y380.length+t355.length < 140737488355328 then (dioramaref19_Encode.l1 k3 (y380 ++ t355) (wrap64 (x8_3+1)) a0_0 l0_1 l0_2) else (none))) else (none)))=some (r1,r2):=by first|(rw [hy374];with_reducible exact H)|(have H2_:=(Option.bind_some _ _).symm.trans H;rw [hy374];with_reducible exact H2_)|(have H2_:=(Option.bind_some _ _).symm.trans H;with_reducible exact H2_)|with_reducible exact H|(rw [hy374];exact H)|exact H
                     have Ny374:=Aside0.mk hy374;clear hy374
                     replace H:=Option.bind_eq_some_iff.mp H
                     obtain ⟨t377,A320,H⟩:=H
                     replace H:(if y374.length+t377.length < 140737488355328 then ((some (y374 ++ t377:List Int)).bind fun y380=>(if y380.length+t355.length < 140737488355328 then (dioramaref19_Encode.l1 k3 (y380 ++ t355) (wrap64 (x8_3+1)) a0_0 l0_1 l0_2) else (none))) else (none))=some (r1,r2):=H
                     have A32:=Aside0.mk A320;clear A320
                     by_cases c33:y374.length+t377.length < 140737488355328
                     · rw [if_pos c33] at H
                       have LMc33:=Aside0.mk c33;clear c33
                       obtain ⟨y380,hy380⟩:∃ y_:List Int,y_=(y374 ++ t377):=⟨_,rfl⟩
                       replace H:(if y380.length+t355.length < 140737488355328 then (dioramaref19_Encode.l1 k3 (y380 ++ t355) (wrap64 (x8_3+1)) a0_0 l0_1 l0_2) else (none))=some (r1,r2):=by first|(rw [hy380];with_reducible exact H)|(have H2_:=(Option.bind_some _ _).symm.trans H;rw [hy380];with_reducible exact H2_)|(have H2_:=(Option.bind_some _ _).symm.trans H;with_reducible exact H2_)|with_reducible exact H|(rw [hy380];exact H)|exact H
                       have Ny380:=Aside0.mk hy380;clear hy380
                       by_cases c34:y380.length+t355.length < 140737488355328
                       · rw [if_pos c34] at H
                         have LMc34:=Aside0.mk c34;clear c34
                         obtain ⟨y383,hy383⟩:∃ y_:List Int,y_=(y380 ++ t355):=⟨_,rfl⟩
                         replace H:(dioramaref19_Encode.l1 k3 y383 (wrap64 (x8_3+1)) a0_0 l0_1 l0_2)=some (r1,r2):=by first|(rw [hy383];with_reducible exact H)|(have H2_:=(Option.bind_some _ _).symm.trans H;rw [hy383];with_reducible exact H2_)|(have H2_:=(Option.bind_some _ _).symm.trans H;with_reducible exact H2_)|with_reducible exact H|(rw [hy383];exact H)|exact H
                         have Ny383:=Aside0.mk hy383;clear hy383
                         have H':=Aside0.mk H;clear H
                         obtain ⟨hcz35_0,hcz35_1,hcz35_2,hfz35_0,hfz35_1,hfz35_2⟩:=bcells3 BK331.out
                         have p353:0≤(x8_3:Int):=of_decide_eq_true asV
                         have q353:x8_3 < (l0_2.length:Int):=of_decide_eq_true asV
                         obtain ⟨ad353,A353_4,c353_4,e353,hx353_0,hx353_1,hx353_2,hx353_3,hx353_4,hl353_4,hi353_4⟩:=at_T91 HR0_2.out x8_3 p353 q353
                         cases e353
                         replace hx353_0:=(HB.out.cell (World.block_lt_of_cell? w _ hx353_0)).trans hx353_0
                         replace hx353_1:=(HB.out.cell (World.block_lt_of_cell? w _ hx353_1)).trans hx353_1
                         replace hx353_2:=(HB.out.cell (World.block_lt_of_cell? w _ hx353_2)).trans hx353_2
                         replace hx353_3:=(HB.out.cell (World.block_lt_of_cell? w _ hx353_3)).trans hx353_3
                         replace hx353_4:=(HB.out.cell (World.block_lt_of_cell? w _ hx353_4)).trans hx353_4
                         have HR353_4:=Aside0.mk hi353_4
                         have HC353_4:=Aside0.mk hl353_4;clear hi353_4 hl353_4
                         replace p353:=eq_true p353
                         replace q353:=eq_true q353
                         go_wp2_with (first|((with_reducible refine gate_dst (N:=9) rfl ?_);refine box_event ?hg (N:=9) ?hd (cs:=#[.int .i64 0,.int .i64 0,.int .i64 0,.int .i64 0,.slice none 0 0]) (t:=91) ?hr ?_;(case hd=>rfl);(case hg=>rfl);(case hr=>first|(go_simp;done)|(go_simp;rfl));intro gb354 hg w36 hbox hb;have n0_:=Aside0.mk (Kd.R_below (rowV HO_6.out) hb);have n1_:=Aside0.mk (blk_below (g:=gb331) (blkV BK331.out) hb);have n2_:=Aside0.mk (below_step (belV1 HB.out GE331.out) hb);have n3_:=Aside0.mk (hbox);have n4_:=Aside0.mk ((by rw [hg];exact (below_size (belV1 HB.out GE331.out)):w.heap.size≤gb354));have n5_:=Aside0.mk ((by rw [hg];exact (below_size (belV1 HB.out GE331.out)):w.heap.size≤gb354));have n6_:=Aside0.mk ((by rw [hg];exact Nat.ne_of_lt (blk_lt (g:=gb331) (blkV BK331.out)):gb331≠gb354));have n7_:=Aside0.mk ((by rw [hg];exact Nat.ne_of_gt (blk_lt (g:=gb331) (blkV BK331.out)):gb354≠gb331));clear HO_6;clear BK331;clear HB;have HO_6:=n0_;have BK331:=n1_;have HB:=n2_;have BK354:=n3_;have GW354:=n4_;have GE354:=n5_;have NB331_354:=n6_;have NB354_331:=n7_;clear n0_ n1_ n2_ n3_ n4_ n5_ n6_ n7_;clear hb hbox hg;have hnb37:=NB354_331.out;have hnc37:=NB331_354.out;obtain ⟨hcz38_0,hcz38_1,hcz38_2,hcz38_3,hcz38_4,hfz38_0,hfz38_1,hfz38_2,hfz38_3,hfz38_4⟩:=bcells5 BK354.out)|((with_reducible refine gate_callee (f:=12) rfl ?_);refine goesL_ (some 65) rfl rfl Try.func12 (by kernel_rfl) rfl #[.slice A353_4 ((rd_T91 l0_2 x8_3).f4).length c353_4,.int .i64 ((rd_T91 l0_2 x8_3).f2)] rfl (by (try simp only [List.map_toArray,List.map_cons,List.map_nil]);first|done|rfl|(simp only [List.length_drop,List.length_take];rfl)) ?_;(with_reducible refine (dioramaref19_Runs.calls k3 _ _ ((rd_T91 l0_2 x8_3).f4) ((rd_T91 l0_2 x8_3).f2) t355 t356 _ ?side1 ?side2 A26.out).mono ?_);(case side1=>exact Kd.C_below HR353_4.out (belV2 HB.out GE331.out GE354.out));(case side2=>exact HC353_4.out);rintro e w39 ⟨v357,rfl,ho0,hb⟩;refine ⟨_,rfl,?_⟩;have n0_:=Aside0.mk (Kd.R_elder' (by (with_reducible repeat (first|apply Kd.R_alloc|apply Kd.R_drewN|apply Kd.R_drew));exact (Kd.R_mono (Kd.R_far (p:=⟨gb354,4,none⟩) (Kd.R_far (p:=⟨gb354,3,none⟩) (Kd.R_far (p:=⟨gb354,2,none⟩) (Kd.R_far (p:=⟨gb354,1,none⟩) (Kd.R_far (p:=⟨gb354,0,none⟩) (Kd.R_types HO_6.out BK354.out (by decide)) (fun _ hk=>hk.2) (.int .i64 ((rd_T91 l0_2 x8_3).f0))) (fun _ hk=>hk.2) (.int .i64 ((rd_T91 l0_2 x8_3).f1))) (fun _ hk=>hk.2) (.int .i64 ((rd_T91 l0_2 x8_3).f2))) (fun _ hk=>hk.2) (.int .i64 ((rd_T91 l0_2 x8_3).f3))) (fun _ hk=>hk.2) (.slice A353_4 ((rd_T91 l0_2 x8_3).f4).length c353_4)) (fun _ h_=>h_.1))) (Kd.R_base ho0) hb);have n1_:=Aside0.mk (Kd.R_lower (Kd.R_new' ho0 (Kd.R_lt (by (with_reducible repeat (first|apply Kd.R_alloc|apply Kd.R_drewN|apply Kd.R_drew));exact (Kd.R_mono (Kd.R_far (p:=⟨gb354,4,none⟩) (Kd.R_far (p:=⟨gb354,3,none⟩) (Kd.R_far (p:=⟨gb354,2,none⟩) (Kd.R_far (p:=⟨gb354,1,none⟩) (Kd.R_far (p:=⟨gb354,0,none⟩) (Kd.R_types HO_6.out BK354.out (by decide)) (fun _ hk=>hk.2) (.int .i64 ((rd_T91 l0_2 x8_3).f0))) (fun _ hk=>hk.2) (.int .i64 ((rd_T91 l0_2 x8_3).f1))) (fun _ hk=>hk.2) (.int .i64 ((rd_T91 l0_2 x8_3).f2))) (fun _ hk=>hk.2) (.int .i64 ((rd_T91 l0_2 x8_3).f3))) (fun _ hk=>hk.2) (.slice A353_4 ((rd_T91 l0_2 x8_3).f4).length c353_4)) (fun _ h_=>h_.1))))) (below_size (belV2 HB.out GE331.out GE354.out)));have n2_:=Aside0.mk (blk_below (g:=gb331) (o:=.cells #[.bool a0_0,.slice A0_1 l0_1.length c0_1,.slice (some ad353) l0_2.length c0_2] 51 (0,0)) (blkW BK331.out NB331_354.out) hb);have n3_:=Aside0.mk (blk_below (g:=gb354) (o:=.cells #[.int .i64 ((rd_T91 l0_2 x8_3).f0),.int .i64 ((rd_T91 l0_2 x8_3).f1),.int .i64 ((rd_T91 l0_2 x8_3).f2),.int .i64 ((rd_T91 l0_2 x8_3).f3),.slice A353_4 ((rd_T91 l0_2 x8_3).f4).length c353_4] 91 (0,0)) (by (with_reducible repeat (first|refine blk_drewN ?_ _|refine blk_drew ?_|refine blk_alloc ?_ _));refine blk_put (cs:=#[.int .i64 ((rd_T91 l0_2 x8_3).f0),.int .i64 ((rd_T91 l0_2 x8_3).f1),.int .i64 ((rd_T91 l0_2 x8_3).f2),.int .i64 ((rd_T91 l0_2 x8_3).f3),.slice none 0 0]) ?_ 4 _ rfl;(with_reducible repeat (first|refine blk_drewN ?_ _|refine blk_drew ?_|refine blk_alloc ?_ _));refine blk_put (cs:=#[.int .i64 ((rd_T91 l0_2 x8_3).f0),.int .i64 ((rd_T91 l0_2 x8_3).f1),.int .i64 ((rd_T91 l0_2 x8_3).f2),.int .i64 0,.slice none 0 0]) ?_ 3 _ rfl;(with_reducible repeat (first|refine blk_drewN ?_ _|refine blk_drew ?_|refine blk_alloc ?_ _));refine blk_put (cs:=#[.int .i64 ((rd_T91 l0_2 x8_3).f0),.int .i64 ((rd_T91 l0_2 x8_3).f1),.int .i64 0,.int .i64 0,.slice none 0 0]) ?_ 2 _ rfl;(with_reducible repeat (first|refine blk_drewN ?_ _|refine blk_drew ?_|refine blk_alloc ?_ _));refine blk_put (cs:=#[.int .i64 ((rd_T91 l0_2 x8_3).f0),.int .i64 0,.int .i64 0,.int .i64 0,.slice none 0 0]) ?_ 1 _ rfl;(with_reducible repeat (first|refine blk_drewN ?_ _|refine blk_drew ?_|refine blk_alloc ?_ _));refine blk_put (cs:=#[.int .i64 0,.int .i64 0,.int .i64 0,.int .i64 0,.slice none 0 0]) ?_ 0 _ rfl;(with_reducible repeat (first|refine blk_drewN ?_ _|refine blk_drew ?_|refine blk_alloc ?_ _));exact BK354.out) hb);have n4_:=Aside0.mk (below_step (belV2 HB.out GE331.out GE354.out) hb);clear HO_6;clear BK331;clear BK354;clear HB;have HO_6:=n0_;have HO358:=n1_;have BK331:=n2_;have BK354:=n3_;have HB:=n4_;clear n0_ n1_ n2_ n3_ n4_;(try clear hb);(try clear hb2);(try clear hk);(try clear hi);(try clear ho0);obtain ⟨hcz40_0,hcz40_1,hcz40_2,hcz40_3,hcz40_4,hfz40_0,hfz40_1,hfz40_2,hfz40_3,hfz40_4⟩:=bcells5 BK354.out)|((with_reducible refine gate_callee (f:=70) rfl ?_);refine goesL_ (some 71) rfl rfl Try.func70 (by kernel_rfl) rfl #[.int .i64 ((rd_T91 l0_2 x8_3).f0),.int .i64 2] rfl (by (try simp only [List.map_toArray,List.map_cons,List.map_nil]);first|done|rfl|(simp only [List.length_drop,List.length_take];rfl)) ?_;(with_reducible refine (dioramaref19_number.calls k3 ((rd_T91 l0_2 x8_3).f0) 2 t359 _ A27.out).mono ?_);rintro e w41 ⟨v360,rfl,ho0,hb⟩;refine ⟨_,rfl,?_⟩;have n0_:=Aside0.mk (Kd.R_elder' (rowV HO_6.out) (Kd.R_base ho0) hb);have n1_:=Aside0.mk (Kd.R_elder' (rowV HO358.out) (Kd.R_base ho0) hb);have n2_:=Aside0.mk (Kd.R_lower (Kd.R_new' (Kd.R_new' ho0 (Kd.R_lt (rowV HO_6.out))) (Kd.R_lt (rowV HO358.out))) (below_size (belV2 HB.out GE331.out GE354.out)));have n3_:=Aside0.mk (blk_below (g:=gb331) (blkV BK331.out) hb);have n4_:=Aside0.mk (blk_below (g:=gb354) (blkV BK354.out) hb);have n5_:=Aside0.mk (below_step (belV2 HB.out GE331.out GE354.out) hb);clear HO_6;clear HO358;clear BK331;clear BK354;clear HB;have HO_6:=n0_;have HO358:=n1_;have HO361:=n2_;have BK331:=n3_;have BK354:=n4_;have HB:=n5_;clear n0_ n1_ n2_ n3_ n4_ n5_;(try clear hb);(try clear hb2);(try clear hk);(try clear hi);(try clear ho0);obtain ⟨Ao43,co43,eo43⟩:=Kd.R_slice HO361.out;subst eo43)|((with_reducible refine gate_builtin (b:=.append) (xs:=#[.tmp 68,.tmp 71]) rfl ?_);at_builtin;refine Kd.R_append_rows (Kd.int .u8) (w0:=w) w.heap.size rfl (.tmp 68) (.tmp 71) 23 5 (.int .u8 0) 1 rfl Try.underlying23 info5 rfl (by decide) (by omega) u6 x6_3 t359 _ _ _ (fun k_=>some k_≠(v357:Value).ownBlock) (fun _=>False) rfl rfl ?aO ?aR (fun _ _ h=>h) (fun _ h=>h.elim) ?aF ?aB ?aS ?aL ?_;(case aR=>exact cV (Kd.R_reads' HO361.out).2.2);(case aB=>exact (belV2 HB.out GE331.out GE354.out));(case aF=>exact (fun k_ hk=>Kd.fresh' (Kd.R_lt (rowV HO358.out)) k_ hk));(case aO=>exact (by (with_reducible repeat (first|apply Kd.R_alloc|apply Kd.R_drewN|apply Kd.R_drew));exact Kd.R_mono HO_6.out (fun _ hk=>hk.1.2)));(case aS=>exact (below_size (belV2 HB.out GE331.out GE354.out)));(case aL=>have:=LMc28.out;omega);intro v363 w42 ho hb hg hat;rw [← Ny362.out] at ho;have n0_:=Aside0.mk (blk_grown (g:=gb331) (blkV BK331.out) hg (Kd.R_ne HO_6.out BK331.out (by decide)));have n1_:=Aside0.mk (blk_grown (g:=gb354) (blkV BK354.out) hg (Kd.R_ne HO_6.out BK354.out (by decide)));have n2_:=Aside0.mk (Kd.R_after (ok:=(fun k_=>some k_≠(.slice Ao43 t359.length co43:Value).ownBlock)) (by (with_reducible repeat (first|apply Kd.R_alloc|apply Kd.R_drewN|apply Kd.R_drew));exact Kd.R_mono HO358.out (fun _ hk=>⟨hk.2,hk.1.2⟩)) hg hat);have n3_:=Aside0.mk (hb);have n4_:=Aside0.mk (ho);clear BK331;clear BK354;clear HO358;clear HB;clear HO_6;clear HO361;have BK331:=n0_;have BK354:=n1_;have HO358:=n2_;have HB:=n3_;have HO364:=n4_;clear n0_ n1_ n2_ n3_ n4_;clear ho hb hg hat;obtain ⟨hcz44_0,hcz44_1,hcz44_2,hcz44_3,hcz44_4,hfz44_0,hfz44_1,hfz44_2,hfz44_3,hfz44_4⟩:=bcells5 BK354.out)|((with_reducible refine gate_callee (f:=70) rfl ?_);refine goesL_ (some 76) rfl rfl Try.func70 (by kernel_rfl) rfl #[.int .i64 ((rd_T91 l0_2 x8_3).f1),.int .i64 2] rfl (by (try simp only [List.map_toArray,List.map_cons,List.map_nil]);first|done|rfl|(simp only [List.length_drop,List.length_take];rfl)) ?_;(with_reducible refine (dioramaref19_number.calls k3 ((rd_T91 l0_2 x8_3).f1) 2 t365 _ A29.out).mono ?_);rintro e w45 ⟨v366,rfl,ho0,hb⟩;refine ⟨_,rfl,?_⟩;have n0_:=Aside0.mk (Kd.R_elder' (rowV HO358.out) (Kd.R_base ho0) hb);have n1_:=Aside0.mk (Kd.R_elder' (rowV HO364.out) (Kd.R_base ho0) hb);have n2_:=Aside0.mk (Kd.R_lower (Kd.R_new' (Kd.R_new' ho0 (Kd.R_lt (rowV HO358.out))) (Kd.R_lt (rowV HO364.out))) (below_size (belV2 HB.out GE331.out GE354.out)));have n3_:=Aside0.mk (blk_below (g:=gb331) (blkV BK331.out) hb);have n4_:=Aside0.mk (blk_below (g:=gb354) (blkV BK354.out) hb);have n5_:=Aside0.mk (below_step (belV2 HB.out GE331.out GE354.out) hb);clear HO358;clear HO364;clear BK331;clear BK354;clear HB;have HO358:=n0_;have HO364:=n1_;have HO367:=n2_;have BK331:=n3_;have BK354:=n4_;have HB:=n5_;clear n0_ n1_ n2_ n3_ n4_ n5_;(try clear hb);(try clear hb2);(try clear hk);(try clear hi);(try clear ho0);obtain ⟨Ao47,co47,eo47⟩:=Kd.R_slice HO367.out;subst eo47)|((with_reducible refine gate_builtin (b:=.append) (xs:=#[.tmp 73,.tmp 76]) rfl ?_);at_builtin;refine Kd.R_append_rows (Kd.int .u8) (w0:=w) w.heap.size rfl (.tmp 73) (.tmp 76) 23 5 (.int .u8 0) 1 rfl Try.underlying23 info5 rfl (by decide) (by omega) v363 y362 t365 _ _ _ (fun k_=>some k_≠(v357:Value).ownBlock) (fun _=>False) rfl rfl ?aO ?aR (fun _ _ h=>h) (fun _ h=>h.elim) ?aF ?aB ?aS ?aL ?_;(case aR=>exact cV (Kd.R_reads' HO367.out).2.2);(case aB=>exact (belV2 HB.out GE331.out GE354.out));(case aF=>exact (fun k_ hk=>Kd.fresh' (Kd.R_lt (rowV HO358.out)) k_ hk));(case aO=>exact (by (with_reducible repeat (first|apply Kd.R_alloc|apply Kd.R_drewN|apply Kd.R_drew));exact Kd.R_mono HO364.out (fun _ hk=>hk.1)));(case aS=>exact (below_size (belV2 HB.out GE331.out GE354.out)));(case aL=>have:=LMc30.out;omega);intro v369 w46 ho hb hg hat;rw [← Ny368.out] at ho;have n0_:=Aside0.mk (blk_grown (g:=gb331) (blkV BK331.out) hg (Kd.R_ne HO364.out BK331.out (by decide)));have n1_:=Aside0.mk (blk_grown (g:=gb354) (blkV BK354.out) hg (Kd.R_ne HO364.out BK354.out (by decide)));have n2_:=Aside0.mk (Kd.R_after (ok:=(fun k_=>some k_≠(.slice Ao47 t365.length co47:Value).ownBlock)) (by (with_reducible repeat (first|apply Kd.R_alloc|apply Kd.R_drewN|apply Kd.R_drew));exact Kd.R_mono HO358.out (fun _ hk=>⟨hk.2,hk.1.2⟩)) hg hat);have n3_:=Aside0.mk (hb);have n4_:=Aside0.mk (ho);clear BK331;clear BK354;clear HO358;clear HB;clear HO364;clear HO367;have BK331:=n0_;have BK354:=n1_;have HO358:=n2_;have HB:=n3_;have HO370:=n4_;clear n0_ n1_ n2_ n3_ n4_;clear ho hb hg hat;obtain ⟨hcz48_0,hcz48_1,hcz48_2,hcz48_3,hcz48_4,hfz48_0,hfz48_1,hfz48_2,hfz48_3,hfz48_4⟩:=bcells5 BK354.out)|((with_reducible refine gate_dst (N:=85) rfl ?_);refine Kd.R_lit (Kd.int .u8) _ 5 ?hg (N:=85) ?hd (xs:=([((rd_T91 l0_2 x8_3).f2) % 256,((rd_T91 l0_2 x8_3).f3) % 256]:List Int)) (inner:=[.int .u8 (((rd_T91 l0_2 x8_3).f2) % 256),.int .u8 (((rd_T91 l0_2 x8_3).f3) % 256)]) (ok:=fun _=>True) (okp:=fun _=>True) ?hr ?hp (fun _ hk=>hk) trivial (Below.refl _ _) (Nat.le_refl _) (by simp) ?_;(case hd=>rfl);(case hg=>rfl);(case hr=>first|(go_simp;done)|(go_simp;rfl));(case hp=>exact (Reps.one (show Kd.M (Kd.int .u8) _ _ _ (((rd_T91 l0_2 x8_3).f2) % 256) [.int .u8 (((rd_T91 l0_2 x8_3).f2) % 256)] from rfl) (Reps.one (show Kd.M (Kd.int .u8) _ _ _ (((rd_T91 l0_2 x8_3).f3) % 256) [.int .u8 (((rd_T91 l0_2 x8_3).f3) % 256)] from rfl) (Reps.none _ _))));intro v372 w49 ho50 hb hg_ hnew_;clear hg_ hnew_;(first|rw [← Ny371.out] at ho50|(simp only [Int.reduceToNat] at ho50;rw [← Ny371.out] at ho50));have n0_:=Aside0.mk (Kd.R_elder' (rowV HO358.out) (Kd.R_base ho50) hb);have n1_:=Aside0.mk (Kd.R_elder' (rowV HO370.out) (Kd.R_base ho50) hb);have n2_:=Aside0.mk (Kd.R_lower (Kd.R_new' (Kd.R_new' ho50 (Kd.R_lt (rowV HO358.out))) (Kd.R_lt (rowV HO370.out))) (below_size (belV2 HB.out GE331.out GE354.out)));have n3_:=Aside0.mk (blk_below (g:=gb331) (blkV BK331.out) hb);have n4_:=Aside0.mk (blk_below (g:=gb354) (blkV BK354.out) hb);have n5_:=Aside0.mk (below_step (belV2 HB.out GE331.out GE354.out) hb);clear HO358;clear HO370;clear BK331;clear BK354;clear HB;have HO358:=n0_;have HO370:=n1_;have HO373:=n2_;have BK331:=n3_;have BK354:=n4_;have HB:=n5_;clear n0_ n1_ n2_ n3_ n4_ n5_;clear hb ho50;obtain ⟨Ao52,co52,eo52⟩:=Kd.R_slice HO373.out;subst eo52)|((with_reducible refine gate_builtin (b:=.append) (xs:=#[.tmp 78,.tmp 85]) rfl ?_);at_builtin;refine Kd.R_append_rows (Kd.int .u8) (w0:=w) w.heap.size rfl (.tmp 78) (.tmp 85) 23 5 (.int .u8 0) 1 rfl Try.underlying23 info5 rfl (by decide) (by omega) v369 y368 y371 _ _ _ (fun k_=>some k_≠(v357:Value).ownBlock) (fun _=>False) rfl rfl ?aO ?aR (fun _ _ h=>h) (fun _ h=>h.elim) ?aF ?aB ?aS ?aL ?_;(case aR=>exact cV (Kd.R_reads' HO373.out).2.2);(case aB=>exact (belV2 HB.out GE331.out GE354.out));(case aF=>exact (fun k_ hk=>Kd.fresh' (Kd.R_lt (rowV HO358.out)) k_ hk));(case aO=>exact (by (with_reducible repeat (first|apply Kd.R_alloc|apply Kd.R_drewN|apply Kd.R_drew));exact Kd.R_mono HO370.out (fun _ hk=>hk.1)));(case aS=>exact (below_size (belV2 HB.out GE331.out GE354.out)));(case aL=>have:=LMc31.out;omega);intro v375 w51 ho hb hg hat;rw [← Ny374.out] at ho;have n0_:=Aside0.mk (blk_grown (g:=gb331) (blkV BK331.out) hg (Kd.R_ne HO370.out BK331.out (by decide)));have n1_:=Aside0.mk (blk_grown (g:=gb354) (blkV BK354.out) hg (Kd.R_ne HO370.out BK354.out (by decide)));have n2_:=Aside0.mk (Kd.R_after (ok:=(fun k_=>some k_≠(.slice Ao52 y371.length co52:Value).ownBlock)) (by (with_reducible repeat (first|apply Kd.R_alloc|apply Kd.R_drewN|apply Kd.R_drew));exact Kd.R_mono HO358.out (fun _ hk=>⟨hk.2,hk.1.2⟩)) hg hat);have n3_:=Aside0.mk (hb);have n4_:=Aside0.mk (ho);clear BK331;clear BK354;clear HO358;clear HB;clear HO370;clear HO373;have BK331:=n0_;have BK354:=n1_;have HO358:=n2_;have HB:=n3_;have HO376:=n4_;clear n0_ n1_ n2_ n3_ n4_;clear ho hb hg hat;obtain ⟨Ao53,co53,eo53⟩:=Kd.R_slice HO358.out;subst eo53)|((with_reducible refine gate_callee (f:=70) rfl ?_);refine goesL_ (some 90) rfl rfl Try.func70 (by kernel_rfl) rfl #[.int .i64 (t355.length:Int),.int .i64 2] rfl (by (try simp only [List.map_toArray,List.map_cons,List.map_nil]);first|done|rfl|(simp only [List.length_drop,List.length_take];rfl)) ?_;(with_reducible refine (dioramaref19_number.calls k3 (t355.length:Int) 2 t377 _ A32.out).mono ?_);rintro e w54 ⟨v378,rfl,ho0,hb⟩;refine ⟨_,rfl,?_⟩;have n0_:=Aside0.mk (Kd.R_elder' (rowV HO358.out) (Kd.R_base ho0) hb);have n1_:=Aside0.mk (Kd.R_elder' (rowV HO376.out) (Kd.R_base ho0) hb);have n2_:=Aside0.mk (Kd.R_lower (Kd.R_new' (Kd.R_new' ho0 (Kd.R_lt (rowV HO358.out))) (Kd.R_lt (rowV HO376.out))) (below_size (belV2 HB.out GE331.out GE354.out)));have n3_:=Aside0.mk (blk_below (g:=gb331) (blkV BK331.out) hb);have n4_:=Aside0.mk (blk_below (g:=gb354) (blkV BK354.out) hb);have n5_:=Aside0.mk (below_step (belV2 HB.out GE331.out GE354.out) hb);clear HO358;clear HO376;clear BK331;clear BK354;clear HB;have HO358:=n0_;have HO376:=n1_;have HO379:=n2_;have BK331:=n3_;have BK354:=n4_;have HB:=n5_;clear n0_ n1_ n2_ n3_ n4_ n5_;(try clear hb);(try clear hb2);(try clear hk);(try clear hi);(try clear ho0);obtain ⟨Ao56,co56,eo56⟩:=Kd.R_slice HO379.out;subst eo56)|((with_reducible refine gate_builtin (b:=.append) (xs:=#[.tmp 87,.tmp 90]) rfl ?_);at_builtin;refine Kd.R_append_rows (Kd.int .u8) (w0:=w) w.heap.size rfl (.tmp 87) (.tmp 90) 23 5 (.int .u8 0) 1 rfl Try.underlying23 info5 rfl (by decide) (by omega) v375 y374 t377 _ _ _ (fun k_=>some k_≠(.slice Ao53 t355.length co53:Value).ownBlock) (fun _=>False) rfl rfl ?aO ?aR (fun _ _ h=>h) (fun _ h=>h.elim) ?aF ?aB ?aS ?aL ?_;(case aR=>exact cV (Kd.R_reads' HO379.out).2.2);(case aB=>exact (belV2 HB.out GE331.out GE354.out));(case aF=>exact (fun k_ hk=>Kd.fresh' (Kd.R_lt (rowV HO358.out)) k_ hk));(case aO=>exact (by (with_reducible repeat (first|apply Kd.R_alloc|apply Kd.R_drewN|apply Kd.R_drew));exact Kd.R_mono HO376.out (fun _ hk=>hk.1)));(case aS=>exact (below_size (belV2 HB.out GE331.out GE354.out)));(case aL=>have:=LMc33.out;omega);intro v381 w55 ho hb hg hat;rw [← Ny380.out] at ho;have n0_:=Aside0.mk (blk_grown (g:=gb331) (blkV BK331.out) hg (Kd.R_ne HO376.out BK331.out (by decide)));have n1_:=Aside0.mk (blk_grown (g:=gb354) (blkV BK354.out) hg (Kd.R_ne HO376.out BK354.out (by decide)));have n2_:=Aside0.mk (Kd.R_after (ok:=(fun k_=>some k_≠(.slice Ao56 t377.length co56:Value).ownBlock)) (by (with_reducible repeat (first|apply Kd.R_alloc|apply Kd.R_drewN|apply Kd.R_drew));exact Kd.R_mono HO358.out (fun _ hk=>⟨hk.2,hk.1.2⟩)) hg hat);have n3_:=Aside0.mk (hb);have n4_:=Aside0.mk (ho);clear BK331;clear BK354;clear HO358;clear HB;clear HO376;clear HO379;have BK331:=n0_;have BK354:=n1_;have HO358:=n2_;have HB:=n3_;have HO382:=n4_;clear n0_ n1_ n2_ n3_ n4_;clear ho hb hg hat)|((with_reducible refine gate_builtin (b:=.append) (xs:=#[.tmp 92,.tmp 93]) rfl ?_);at_builtin;refine Kd.R_append_rows (Kd.int .u8) (w0:=w) w.heap.size rfl (.tmp 92) (.tmp 93) 23 5 (.int .u8 0) 1 rfl Try.underlying23 info5 rfl (by decide) (by omega) v381 y380 t355 _ _ _ (fun k_=>some k_≠(.slice Ao53 t355.length co53:Value).ownBlock) (fun _=>False) rfl rfl ?aO ?aR (fun _ _ h=>h) (fun _ h=>h.elim) ?aF ?aB ?aS ?aL ?_;(case aR=>exact cV (Kd.R_reads' HO358.out).2.2);(case aB=>exact (belV2 HB.out GE331.out GE354.out));(case aF=>exact (fun k_ hk=>Kd.fresh' (Kd.R_lt (rowV HO358.out)) k_ hk));(case aO=>exact (rowV HO382.out));(case aS=>exact (below_size (belV2 HB.out GE331.out GE354.out)));(case aL=>have:=LMc34.out;omega);intro v384 w57 ho hb hg hat;rw [← Ny383.out] at ho;have n0_:=Aside0.mk (blk_grown (g:=gb331) (blkV BK331.out) hg (Kd.R_ne HO382.out BK331.out (by decide)));have n1_:=Aside0.mk (blk_grown (g:=gb354) (blkV BK354.out) hg (Kd.R_ne HO382.out BK354.out (by decide)));have n2_:=Aside0.mk (Kd.R_after (ok:=(fun _=>True)) (by (with_reducible repeat (first|apply Kd.R_alloc|apply Kd.R_drewN|apply Kd.R_drew));exact Kd.R_mono HO358.out (fun _ hk=>⟨trivial,hk.2⟩)) hg hat);have n3_:=Aside0.mk (hb);have n4_:=Aside0.mk (ho);clear BK331;clear BK354;clear HO358;clear HB;clear HO382;have BK331:=n0_;have BK354:=n1_;have HO358:=n2_;have HB:=n3_;have HO385:=n4_;clear n0_ n1_ n2_ n3_ n4_;clear ho hb hg hat))
                         go_roundg k3
                         case measure=>have:=HJ3.out;have:=HK2.out;have:=HK3.out;omega
                         case rel=>exact ⟨(y383),(wrap64 (x8_3+1)),okV,H',⟨by have:=HJ3.out;have:=HK2.out;have:=HK3.out;omega⟩,⟨by (with_reducible repeat (first|apply Kd.R_alloc|apply Kd.R_drewN|apply Kd.R_drew));exact Kd.R_mono HO385.out (fun _ hk=>trivial)⟩,⟨blkV BK331.out⟩,⟨belV2 HB.out GE331.out GE354.out⟩⟩
                       rw [if_neg c34] at H
                       exact absurd H (by simp)
                     rw [if_neg c33] at H
                     exact absurd H (by simp)
                   rw [if_neg c31] at H
                   exact absurd H (by simp)
                 rw [if_neg c30] at H
                 exact absurd H (by simp)
               rw [if_neg c28] at H
               exact absurd H (by simp)
             rw [if_neg c25] at H
             exact absurd H (by simp)
           rw [if_neg c24] at H
           have c24b0:decide (x8_3 < (l0_2.length:Int))=false:=decide_eq_false c24;clear c24
           replace H:=Option.bind_eq_some_iff.mp H
           obtain ⟨t346,A580,H⟩:=H
           replace H:((dioramaref19_number.f k3 (wrap64 (t346)) 4).bind fun t347=>(if x6_3.length+t347.length < 140737488355328 then (some ((x6_3 ++ t347),0)) else (none)))=some (r1,r2):=H
           have A58:=Aside0.mk A580;clear A580
           replace H:=Option.bind_eq_some_iff.mp H
           obtain ⟨t347,A590,H⟩:=H
           replace H:(if x6_3.length+t347.length < 140737488355328 then (some ((x6_3 ++ t347),0)) else (none))=some (r1,r2):=H
           have A59:=Aside0.mk A590;clear A590
           by_cases c60:x6_3.length+t347.length < 140737488355328
           · rw [if_pos c60] at H
             have LMc60:=Aside0.mk c60;clear c60
             obtain ⟨y350,hy350⟩:∃ y_:List Int,y_=(x6_3 ++ t347):=⟨_,rfl⟩
             replace H:(some (y350,0))=some (r1,r2):=by first|(rw [hy350];with_reducible exact H)|(have H2_:=(Option.bind_some _ _).symm.trans H;rw [hy350];with_reducible exact H2_)|(have H2_:=(Option.bind_some _ _).symm.trans H;with_reducible exact H2_)|with_reducible exact H|(rw [hy350];exact H)|exact H
             have Ny350:=Aside0.mk hy350;clear hy350
             simp only [Option.some.injEq,Prod.mk.injEq] at H
             obtain ⟨rfl,rfl⟩:=H
             obtain ⟨hcz61_0,hcz61_1,hcz61_2,hfz61_0,hfz61_1,hfz61_2⟩:=bcells3 BK331.out
             obtain ⟨Ao62,co62,eo62⟩:=Kd.R_slice HO_6.out;subst eo62
             go_wp2_with (first|((with_reducible refine gate_callee (f:=61) rfl ?_);refine goesL_ (some 97) rfl rfl Try.func61 (by kernel_rfl) rfl #[.slice Ao62 x6_3.length co62] rfl (by (try simp only [List.map_toArray,List.map_cons,List.map_nil]);first|done|rfl|(simp only [List.length_drop,List.length_take];rfl)) ?_;(with_reducible refine (dioramaref01_Sum.calls k3 _ _ x6_3 t346 _ ?side1 ?side2 A58.out).mono ?_);(case side1=>exact cV (Kd.R_reads' HO_6.out).2.2);(case side2=>exact (Kd.R_reads' HO_6.out).2.1);rintro e w' ⟨rfl,⟨nd,rfl⟩⟩;refine ⟨_,rfl,?_⟩)|((with_reducible refine gate_callee (f:=70) rfl ?_);refine goesL_ (some 99) rfl rfl Try.func70 (by kernel_rfl) rfl #[.int .i64 (wrap64 (t346)),.int .i64 4] rfl (by (try simp only [List.map_toArray,List.map_cons,List.map_nil]);first|done|rfl|(simp only [List.length_drop,List.length_take];rfl)) ?_;(with_reducible refine (dioramaref19_number.calls k3 (wrap64 (t346)) 4 t347 _ A59.out).mono ?_);rintro e w63 ⟨v348,rfl,ho0,hb⟩;refine ⟨_,rfl,?_⟩;have n0_:=Aside0.mk (Kd.R_elder' (rowV HO_6.out) (Kd.R_base ho0) hb);have n1_:=Aside0.mk (Kd.R_lower (Kd.R_new' ho0 (Kd.R_lt (rowV HO_6.out))) (below_size (belV1 HB.out GE331.out)));have n2_:=Aside0.mk (blk_below (g:=gb331) (blkV BK331.out) hb);have n3_:=Aside0.mk (below_step (belV1 HB.out GE331.out) hb);clear HO_6;clear BK331;clear HB;have HO_6:=n0_;have HO349:=n1_;have BK331:=n2_;have HB:=n3_;clear n0_ n1_ n2_ n3_;(try clear hb);(try clear hb2);(try clear hk);(try clear hi);(try clear ho0);obtain ⟨Ao65,co65,eo65⟩:=Kd.R_slice HO349.out;subst eo65)|((with_reducible refine gate_builtin (b:=.append) (xs:=#[.tmp 95,.tmp 99]) rfl ?_);at_builtin;refine Kd.R_append_rows (Kd.int .u8) (w0:=w) w.heap.size rfl (.tmp 95) (.tmp 99) 23 5 (.int .u8 0) 1 rfl Try.underlying23 info5 rfl (by decide) (by omega) (.slice Ao62 x6_3.length co62) x6_3 t347 _ _ _ (fun _=>True) (fun _=>False) rfl rfl ?aO ?aR (fun _ _ h=>h) (fun _ h=>h.elim) ?aF ?aB ?aS ?aL ?_;(case aR=>exact cV (Kd.R_reads' HO349.out).2.2);(case aB=>exact (belV1 HB.out GE331.out));(case aF=>exact (fun _ _=>trivial));(case aO=>exact (by (with_reducible repeat (first|apply Kd.R_alloc|apply Kd.R_drewN|apply Kd.R_drew));exact Kd.R_mono HO_6.out (fun _ hk=>trivial)));(case aS=>exact (below_size (belV1 HB.out GE331.out)));(case aL=>have:=LMc60.out;omega);intro v351 w64 ho hb hg hat;rw [← Ny350.out] at ho;have n0_:=Aside0.mk (blk_grown (g:=gb331) (blkV BK331.out) hg (Kd.R_ne HO_6.out BK331.out (by decide)));have n1_:=Aside0.mk (hb);have n2_:=Aside0.mk (ho);clear BK331;clear HB;clear HO_6;clear HO349;have BK331:=n0_;have HB:=n1_;have HO352:=n2_;clear n0_ n1_ n2_;clear ho hb hg hat))
             go_ret2
             exact ⟨_,by first|rfl|(simp [errW_none,errW_some] <;> rfl)|(simp [*,errW_none,errW_some] <;> rfl),by (with_reducible repeat (first|apply Kd.R_alloc|apply Kd.R_drewN|apply Kd.R_drew));exact HO352.out,by repeat (first|(with_reducible first|exact HB.out|apply below_alloc|apply pw_below_drewN|apply below_drew1|refine below_set ?_ GE331.out)|exact HB.out)⟩
           rw [if_neg c60] at H
           exact absurd H (by simp)
       rw [if_neg c21] at H
       exact absurd H (by simp)
 rw [if_neg c3] at H
 have c3b0:(t332 == 0)=false:=beq_eq_false_iff_ne.mpr c3
 have c3b1:(t332 != 0)=true:=bne_iff_ne.mpr c3
 simp only [Option.some.injEq,Prod.mk.injEq] at H
 obtain ⟨rfl,rfl⟩:=H
 go_enter Try.func38,Try.ntmps38
 go_wp2_with (first|((with_reducible refine gate_dst (N:=1) rfl ?_);refine box_event ?hg (N:=1) ?hd (cs:=#[.bool a0_0,.slice A0_1 l0_1.length c0_1,.slice A0_2 l0_2.length c0_2]) (t:=51) ?hr ?_;(case hd=>rfl);(case hg=>rfl);(case hr=>first|(go_simp;done)|(go_simp;rfl));intro gb331 hg w66 hbox hb;have n0_:=Aside0.mk (below_step (belV HB.out) hb);have n1_:=Aside0.mk (hbox);have n2_:=Aside0.mk ((by rw [hg];exact (below_size (belV HB.out)):w.heap.size≤gb331));have n3_:=Aside0.mk ((by rw [hg];exact (below_size (belV HB.out)):w.heap.size≤gb331));clear HB;have HB:=n0_;have BK331:=n1_;have GW331:=n2_;have GE331:=n3_;clear n0_ n1_ n2_ n3_;clear hb hbox hg;obtain ⟨hcz67_0,hcz67_1,hcz67_2,hfz67_0,hfz67_1,hfz67_2⟩:=bcells3 BK331.out)|((with_reducible refine gate_callee (f:=40) rfl ?_);refine goesL_ (some 13) rfl rfl Try.func40 (by kernel_rfl) rfl #[.agg #[.bool a0_0,.slice A0_1 l0_1.length c0_1,.slice A0_2 l0_2.length c0_2]] rfl (by (try simp only [List.map_toArray,List.map_cons,List.map_nil]);first|done|rfl|(simp only [List.length_drop,List.length_take];rfl)) ?_;(with_reducible refine (dioramaref19_Check.calls k a0_0 _ _ l0_1 _ _ l0_2 t332 _ ?side1 ?side2 ?side3 ?side4 A2.out).mono ?_);(case side1=>exact cV (Kd.C_below HR0_1.out HB.out));(case side2=>exact HC0_1.out);(case side3=>exact cV (Kd.C_below HR0_2.out HB.out));(case side4=>exact HC0_2.out);rintro e w68 ⟨rfl,hb⟩;refine ⟨_,rfl,?_⟩;have n0_:=Aside0.mk (blk_below (g:=gb331) (blkV BK331.out) hb);have n1_:=Aside0.mk (below_step (belV1 HB.out GE331.out) hb);clear BK331;clear HB;have BK331:=n0_;have HB:=n1_;clear n0_ n1_;(try clear hb);(try clear hb2);(try clear hk);(try clear hi)))
 go_ret2
 exact ⟨_,by first|rfl|(simp [errW_none,errW_some] <;> rfl)|(simp [*,errW_none,errW_some] <;> rfl),by first|exact Kd.R_nil _ _ _ _ _|exact Kd.N_nil _ _ _ _ _|exact Kd.V_nil _ _ _ _ _|exact Kd.Q_nil _ _ _ _ _|exact Kd.S_nil _ _ _ _ _,by repeat (first|(with_reducible first|exact HB.out|apply below_alloc|apply pw_below_drewN|apply below_drew1|refine below_set ?_ GE331.out)|exact HB.out)⟩

/-! ### slices_Equal_int_int: function 68 -/
def slices_Equal_int_int.l0 : Nat → List Int → List Int → Int → Int → Option (Bool)
 | 0,_,_,_,_=>none
 | k+1,x0,x1,x12,x13=>if x13 < x12 then (if 0≤x13 then (if x13 < (x0.length:Int) then (if x13 < (x1.length:Int) then (if (rd x0 x13)=(rd x1 x13) then (slices_Equal_int_int.l0 k x0 x1 x12 (wrap64 (x13+1))) else (some false)) else (none)) else (none)) else (none)) else (some true)
def slices_Equal_int_int.f (k : Nat) (l0 : List Int) (l1 : List Int) : Option (Bool) := if (l0.length : Int) = (l1.length : Int) then (slices_Equal_int_int.l0 k l0 l1 (l0.length : Int) 0) else (some false)
theorem slices_Equal_int_int.mono_l:∀ k,(∀ y0 y1 y2 y3,LeO (slices_Equal_int_int.l0 k y0 y1 y2 y3) (slices_Equal_int_int.l0 (k+1) y0 y1 y2 y3))
 | 0=>fun _ _ _ _ r h=>by simp [slices_Equal_int_int.l0] at h
 | k+1=>by
  have ih0:=slices_Equal_int_int.mono_l k
  · intro y0 y1 y2 y3
    unfold slices_Equal_int_int.l0
    repeat' first
    | (with_reducible exact ih0 _ _ _ _)
    | (with_reducible exact LeO.refl _)
    | (with_reducible exact LeO.none _)
    | (with_reducible refine LeO.ite ?_ ?_)
    | (with_reducible refine LeO.bind ?_ (fun _=>?_))
    | exact LeO.none _
    | refine LeO.ite ?_ ?_
    | refine LeO.bind ?_ (fun _=>?_)
theorem slices_Equal_int_int.mono:∀ a0 a1 k,LeO (slices_Equal_int_int.f k a0 a1) (slices_Equal_int_int.f (k+1) a0 a1):=by
 intro a0 a1 k
 have ih0:=slices_Equal_int_int.mono_l k
 unfold slices_Equal_int_int.f
 repeat' first
  | (with_reducible exact ih0 _ _ _ _)
  | (with_reducible exact LeO.refl _)
  | (with_reducible exact LeO.none _)
  | (with_reducible refine LeO.ite ?_ ?_)
  | (with_reducible refine LeO.bind ?_ (fun _=>?_))
  | exact LeO.none _
  | refine LeO.ite ?_ ?_
  | refine LeO.bind ?_ (fun _=>?_)
set_option maxHeartbeats 8000000 in
set_option maxRecDepth 100000 in
theorem slices_Equal_int_int.calls (k:Nat) (A0:Option Addr) (c0:Nat) (l0:List Int) (A1:Option Addr) (c1:Nat) (l1:List Int) (r:Bool) (w:World) (hr0:Kd.C (Kd.int .i64) w A0 l0.length l0) (hc0:l0.length≤c0) (hr1:Kd.C (Kd.int .i64) w A1 l1.length l1) (hc1:l1.length≤c1) (h:slices_Equal_int_int.f k l0 l1=some r) :
 Calls Try.prog 68 #[.slice A0 l0.length c0,.slice A1 l1.length c1] w fun e w'=>e=.returned (.bool r)∧Drawn0 w w':=by
 have HR0:=Aside0.mk hr0
 have HC0:=Aside0.mk hc0;clear hr0 hc0
 have HR1:=Aside0.mk hr1
 have HC1:=Aside0.mk hc1;clear hr1 hc1
 have H:(if (l0.length:Int)=(l1.length:Int) then (slices_Equal_int_int.l0 k l0 l1 (l0.length:Int) 0) else (some false))=some r:=h;clear h
 by_cases c3:(l0.length:Int)=(l1.length:Int)
 · rw [if_pos c3] at H
   have c3b0:((l0.length:Int) == (l1.length:Int))=true:=beq_iff_eq.mpr c3
   have c3b1:((l0.length:Int) != (l1.length:Int))=false:=bne_eq_false_iff_eq.mpr c3
   have c3b2:(l0.length == l1.length)=true:=by first|simpa using c3|(simp at c3 ⊢;omega)
   clear c3
   have H':=Aside0.mk H;clear H
   go_enter Try.func68,Try.ntmps68
   go_wp2
   repeat (go_quiet (fail);try go_wp2)
   go_loopg [13] k (fun kq v13 w'=>∃ (x13_1:Int),v13=.int .i64 x13_1∧Aside0 (slices_Equal_int_int.l0 kq l0 l1 (l0.length:Int) x13_1=some r)∧Aside0 (kq≤k)∧Drawn0 w w')
   case atStart=>exact ⟨(0),okV,H',⟨Nat.le_refl _⟩,by repeat (first|exact Drawn0.refl _|apply Drawn0.step)⟩
   case round =>
    clear H'
    try clear c1;try clear p2;try clear c3;try clear c3b0;try clear c3b1;try clear c3b2
    obtain ⟨x13_1,rfl,HA,HK1,⟨m1,rfl⟩⟩:=hrel
    cases gk with
    | zero=>exact absurd HA.out (by simp [slices_Equal_int_int.l0])
    | succ k1 =>
     have H:=HA.out;clear HA
     simp only [slices_Equal_int_int.l0] at H
     by_cases c4:x13_1 < (l0.length:Int)
     · rw [if_pos c4] at H
       have c4b0:decide (x13_1 < (l0.length:Int))=true:=decide_eq_true c4;clear c4
       by_cases c5:0≤x13_1
       · rw [if_pos c5] at H
         have c5b0:decide (0≤x13_1)=true:=decide_eq_true c5;clear c5
         by_cases c6:x13_1 < (l0.length:Int)
         · rw [if_pos c6] at H
           have c6b0:decide (x13_1 < (l0.length:Int))=true:=decide_eq_true c6;clear c6
           by_cases c7:x13_1 < (l1.length:Int)
           · rw [if_pos c7] at H
             have c7b0:decide (x13_1 < (l1.length:Int))=true:=decide_eq_true c7;clear c7
             by_cases c8:(rd l0 x13_1)=(rd l1 x13_1)
             · rw [if_pos c8] at H
               have c8b0:((rd l0 x13_1) == (rd l1 x13_1))=true:=beq_iff_eq.mpr c8
               have c8b1:((rd l0 x13_1) != (rd l1 x13_1))=false:=bne_eq_false_iff_eq.mpr c8;clear c8
               have H':=Aside0.mk H;clear H
               have p386:0≤(x13_1:Int):=of_decide_eq_true asV
               have q386:x13_1 < (l0.length:Int):=of_decide_eq_true asV
               obtain ⟨ad386,e386,hx386_0⟩:=Kd.at_int HR0.out x13_1 p386 q386
               cases e386
               replace p386:=eq_true p386
               replace q386:=eq_true q386
               have p387:0≤(x13_1:Int):=of_decide_eq_true asV
               have q387:x13_1 < (l1.length:Int):=of_decide_eq_true asV
               obtain ⟨ad387,e387,hx387_0⟩:=Kd.at_int HR1.out x13_1 p387 q387
               cases e387
               replace p387:=eq_true p387
               replace q387:=eq_true q387
               go_wp2
               repeat (go_quiet (fail);try go_wp2)
               go_roundg k1
               case measure=>have:=HK1.out;omega
               case rel=>exact ⟨(wrap64 (x13_1+1)),okV,H',⟨by have:=HK1.out;omega⟩,by repeat (first|exact Drawn0.refl _|apply Drawn0.step)⟩
             rw [if_neg c8] at H
             have c8b0:((rd l0 x13_1) == (rd l1 x13_1))=false:=beq_eq_false_iff_ne.mpr c8
             have c8b1:((rd l0 x13_1) != (rd l1 x13_1))=true:=bne_iff_ne.mpr c8
             obtain rfl:=Option.some.inj H
             have p386:0≤(x13_1:Int):=of_decide_eq_true asV
             have q386:x13_1 < (l0.length:Int):=of_decide_eq_true asV
             obtain ⟨ad386,e386,hx386_0⟩:=Kd.at_int HR0.out x13_1 p386 q386
             cases e386
             replace p386:=eq_true p386
             replace q386:=eq_true q386
             have p387:0≤(x13_1:Int):=of_decide_eq_true asV
             have q387:x13_1 < (l1.length:Int):=of_decide_eq_true asV
             obtain ⟨ad387,e387,hx387_0⟩:=Kd.at_int HR1.out x13_1 p387 q387
             cases e387
             replace p387:=eq_true p387
             replace q387:=eq_true q387
             go_wp2
             repeat (go_quiet (fail);try go_wp2)
             go_ret
             exact ⟨by first|rfl|(simp;done)|(simp [*];done),by repeat (first|exact Drawn0.refl _|apply Drawn0.step)⟩
           rw [if_neg c7] at H
           exact absurd H (by simp)
         rw [if_neg c6] at H
         exact absurd H (by simp)
       rw [if_neg c5] at H
       exact absurd H (by simp)
     rw [if_neg c4] at H
     have c4b0:decide (x13_1 < (l0.length:Int))=false:=decide_eq_false c4;clear c4
     obtain rfl:=Option.some.inj H
     go_wp2
     repeat (go_quiet (fail);try go_wp2)
     go_ret
     exact ⟨by first|rfl|(simp;done)|(simp [*];done),by repeat (first|exact Drawn0.refl _|apply Drawn0.step)⟩
 rw [if_neg c3] at H
 have c3b0:((l0.length:Int) == (l1.length:Int))=false:=beq_eq_false_iff_ne.mpr c3
 have c3b1:((l0.length:Int) != (l1.length:Int))=true:=bne_iff_ne.mpr c3
 have c3b2:(l0.length == l1.length)=false:=by first|simpa using c3|(simp at c3 ⊢;omega)
 obtain rfl:=Option.some.inj H
 go_enter Try.func68,Try.ntmps68
 go_wp2
 repeat (go_quiet (fail);try go_wp2)
 go_ret
 exact ⟨by first|rfl|(simp;done)|(simp [*];done),by repeat (first|exact Drawn0.refl _|apply Drawn0.step)⟩

/-! ### bitmap_Same_1: function 74 -/
def bitmap_Same_1.f (k : Nat) (a0_0 : Int) (a0_1 : Int) (a0_2 : Int) (a0_3 : Int) (l0_4 : List Int) (a1_0 : Int) (a1_1 : Int) (a1_2 : Int) (a1_3 : Int) (l1_4 : List Int) : Option (Bool) := if a0_0 = a1_0 then (if a0_1 = a1_1 then (if a0_2 = a1_2 then (if a0_3 = a1_3 then ((slices_Equal_int_int.f k l0_4 l1_4).bind fun t390 => (some t390)) else (some false)) else (some false)) else (some false)) else (some false)
theorem bitmap_Same_1.mono:∀ a0 a1 a2 a3 a4 a5 a6 a7 a8 a9 k,LeO (bitmap_Same_1.f k a0 a1 a2 a3 a4 a5 a6 a7 a8 a9) (bitmap_Same_1.f (k+1) a0 a1 a2 a3 a4 a5 a6 a7 a8 a9):=by
 intro a0 a1 a2 a3 a4 a5 a6 a7 a8 a9 k
 unfold bitmap_Same_1.f
 repeat' first
  | (with_reducible exact slices_Equal_int_int.mono _ _ _)
  | (with_reducible exact LeO.refl _)
  | (with_reducible exact LeO.none _)
  | (with_reducible refine LeO.ite ?_ ?_)
  | (with_reducible refine LeO.bind ?_ (fun _=>?_))
  | exact LeO.none _
  | refine LeO.ite ?_ ?_
  | refine LeO.bind ?_ (fun _=>?_)
set_option maxHeartbeats 8000000 in
set_option maxRecDepth 100000 in
theorem bitmap_Same_1.calls (k:Nat) (a0_0:Int) (a0_1:Int) (a0_2:Int) (a0_3:Int) (A0_4:Option Addr) (c0_4:Nat) (l0_4:List Int) (a1_0:Int) (a1_1:Int) (a1_2:Int) (a1_3:Int) (A1_4:Option Addr) (c1_4:Nat) (l1_4:List Int) (r:Bool) (w:World) (hr0_4:Kd.C (Kd.int .i64) w A0_4 l0_4.length l0_4) (hc0_4:l0_4.length≤c0_4) (hr1_4:Kd.C (Kd.int .i64) w A1_4 l1_4.length l1_4) (hc1_4:l1_4.length≤c1_4) (h:bitmap_Same_1.f k a0_0 a0_1 a0_2 a0_3 l0_4 a1_0 a1_1 a1_2 a1_3 l1_4=some r) :
 Calls Try.prog 74 #[.agg #[.int .i64 a0_0,.int .i64 a0_1,.int .i64 a0_2,.int .i64 a0_3,.slice A0_4 l0_4.length c0_4],.agg #[.int .i64 a1_0,.int .i64 a1_1,.int .i64 a1_2,.int .i64 a1_3,.slice A1_4 l1_4.length c1_4]] w fun e w'=>e=.returned (.bool r)∧Below w.heap.size w w':=by
 have hu91:=Try.underlying91
 have HR0_4:=Aside0.mk hr0_4
 have HC0_4:=Aside0.mk hc0_4;clear hr0_4 hc0_4
 have HR1_4:=Aside0.mk hr1_4
 have HC1_4:=Aside0.mk hc1_4;clear hr1_4 hc1_4;have HB:=Aside0.mk (Below.refl w.heap.size w)
 have H:(if a0_0=a1_0 then (if a0_1=a1_1 then (if a0_2=a1_2 then (if a0_3=a1_3 then ((slices_Equal_int_int.f k l0_4 l1_4).bind fun t390=>(some t390)) else (some false)) else (some false)) else (some false)) else (some false))=some r:=h;clear h
 by_cases c3:a0_0=a1_0
 · rw [if_pos c3] at H
   have c3b0:(a0_0 == a1_0)=true:=beq_iff_eq.mpr c3
   have c3b1:(a0_0 != a1_0)=false:=bne_eq_false_iff_eq.mpr c3;clear c3
   by_cases c4:a0_1=a1_1
   · rw [if_pos c4] at H
     have c4b0:(a0_1 == a1_1)=true:=beq_iff_eq.mpr c4
     have c4b1:(a0_1 != a1_1)=false:=bne_eq_false_iff_eq.mpr c4;clear c4
     by_cases c5:a0_2=a1_2
     · rw [if_pos c5] at H
       have c5b0:(a0_2 == a1_2)=true:=beq_iff_eq.mpr c5
       have c5b1:(a0_2 != a1_2)=false:=bne_eq_false_iff_eq.mpr c5;clear c5
       by_cases c6:a0_3=a1_3
       · rw [if_pos c6] at H
         have c6b0:(a0_3 == a1_3)=true:=beq_iff_eq.mpr c6
         have c6b1:(a0_3 != a1_3)=false:=bne_eq_false_iff_eq.mpr c6;clear c6
         replace H:=Option.bind_eq_some_iff.mp H
         obtain ⟨t390,A70,H⟩:=H
         replace H:(some t390)=some r:=H
         have A7:=Aside0.mk A70;clear A70
         obtain rfl:=Option.some.inj H
         go_enter Try.func74,Try.ntmps74
         go_wp2_with (first|((with_reducible refine gate_dst (N:=2) rfl ?_);refine box_event ?hg (N:=2) ?hd (cs:=#[.int .i64 a0_0,.int .i64 a0_1,.int .i64 a0_2,.int .i64 a0_3,.slice A0_4 l0_4.length c0_4]) (t:=91) ?hr ?_;(case hd=>rfl);(case hg=>rfl);(case hr=>first|(go_simp;done)|(go_simp;rfl));intro gb388 hg w8 hbox hb;have n0_:=Aside0.mk (below_step (belV HB.out) hb);have n1_:=Aside0.mk (hbox);have n2_:=Aside0.mk ((by rw [hg];exact (below_size (belV HB.out)):w.heap.size≤gb388));have n3_:=Aside0.mk ((by rw [hg];exact (below_size (belV HB.out)):w.heap.size≤gb388));clear HB;have HB:=n0_;have BK388:=n1_;have GW388:=n2_;have GE388:=n3_;clear n0_ n1_ n2_ n3_;clear hb hbox hg)|((with_reducible refine gate_dst (N:=3) rfl ?_);refine box_event ?hg (N:=3) ?hd (cs:=#[.int .i64 a1_0,.int .i64 a1_1,.int .i64 a1_2,.int .i64 a1_3,.slice A1_4 l1_4.length c1_4]) (t:=91) ?hr ?_;(case hd=>rfl);(case hg=>rfl);(case hr=>first|(go_simp;done)|(go_simp;rfl));intro gb389 hg w9 hbox hb;have n0_:=Aside0.mk (blk_below (g:=gb388) (blkV BK388.out) hb);have n1_:=Aside0.mk (below_step (belV1 HB.out GE388.out) hb);have n2_:=Aside0.mk (hbox);have n3_:=Aside0.mk ((by rw [hg];exact (below_size (belV1 HB.out GE388.out)):w.heap.size≤gb389));have n4_:=Aside0.mk ((by rw [hg];exact (below_size (belV1 HB.out GE388.out)):w.heap.size≤gb389));have n5_:=Aside0.mk ((by rw [hg];exact Nat.ne_of_lt (blk_lt (g:=gb388) (blkV BK388.out)):gb388≠gb389));have n6_:=Aside0.mk ((by rw [hg];exact Nat.ne_of_gt (blk_lt (g:=gb388) (blkV BK388.out)):gb389≠gb388));clear BK388;clear HB;have BK388:=n0_;have HB:=n1_;have BK389:=n2_;have GW389:=n3_;have GE389:=n4_;have NB388_389:=n5_;have NB389_388:=n6_;clear n0_ n1_ n2_ n3_ n4_ n5_ n6_;clear hb hbox hg;have hnb10:=NB388_389.out;have hnc10:=NB389_388.out;obtain ⟨hcz11_0,hcz11_1,hcz11_2,hcz11_3,hcz11_4,hfz11_0,hfz11_1,hfz11_2,hfz11_3,hfz11_4⟩:=bcells5 BK388.out;obtain ⟨hcz12_0,hcz12_1,hcz12_2,hcz12_3,hcz12_4,hfz12_0,hfz12_1,hfz12_2,hfz12_3,hfz12_4⟩:=bcells5 BK389.out)|(go_at_call 68;(with_reducible refine (slices_Equal_int_int.calls k _ _ l0_4 _ _ l1_4 t390 _ ?side1 ?side2 ?side3 ?side4 A7.out).mono ?_);(case side1=>exact cV (Kd.C_below HR0_4.out HB.out));(case side2=>exact HC0_4.out);(case side3=>exact cV (Kd.C_below HR1_4.out HB.out));(case side4=>exact HC1_4.out);rintro e w' ⟨rfl,⟨nd,rfl⟩⟩))
         go_ret
         exact ⟨by first|rfl|(simp [errW_none,errW_some] <;> rfl)|(simp [*,errW_none,errW_some] <;> rfl),by repeat (first|(with_reducible first|exact HB.out|apply below_alloc|apply pw_below_drewN|apply below_drew1|refine below_set ?_ GE388.out|refine below_set ?_ GE389.out)|exact HB.out)⟩
       rw [if_neg c6] at H
       have c6b0:(a0_3 == a1_3)=false:=beq_eq_false_iff_ne.mpr c6
       have c6b1:(a0_3 != a1_3)=true:=bne_iff_ne.mpr c6
       obtain rfl:=Option.some.inj H
       go_enter Try.func74,Try.ntmps74
       go_wp2_with (first|((with_reducible refine gate_dst (N:=2) rfl ?_);refine box_event ?hg (N:=2) ?hd (cs:=#[.int .i64 a0_0,.int .i64 a0_1,.int .i64 a0_2,.int .i64 a0_3,.slice A0_4 l0_4.length c0_4]) (t:=91) ?hr ?_;(case hd=>rfl);(case hg=>rfl);(case hr=>first|(go_simp;done)|(go_simp;rfl));intro gb388 hg w13 hbox hb;have n0_:=Aside0.mk (below_step (belV HB.out) hb);have n1_:=Aside0.mk (hbox);have n2_:=Aside0.mk ((by rw [hg];exact (below_size (belV HB.out)):w.heap.size≤gb388));have n3_:=Aside0.mk ((by rw [hg];exact (below_size (belV HB.out)):w.heap.size≤gb388));clear HB;have HB:=n0_;have BK388:=n1_;have GW388:=n2_;have GE388:=n3_;clear n0_ n1_ n2_ n3_;clear hb hbox hg)|((with_reducible refine gate_dst (N:=3) rfl ?_);refine box_event ?hg (N:=3) ?hd (cs:=#[.int .i64 a1_0,.int .i64 a1_1,.int .i64 a1_2,.int .i64 a1_3,.slice A1_4 l1_4.length c1_4]) (t:=91) ?hr ?_;(case hd=>rfl);(case hg=>rfl);(case hr=>first|(go_simp;done)|(go_simp;rfl));intro gb389 hg w14 hbox hb;have n0_:=Aside0.mk (blk_below (g:=gb388) (blkV BK388.out) hb);have n1_:=Aside0.mk (below_step (belV1 HB.out GE388.out) hb);have n2_:=Aside0.mk (hbox);have n3_:=Aside0.mk ((by rw [hg];exact (below_size (belV1 HB.out GE388.out)):w.heap.size≤gb389));have n4_:=Aside0.mk ((by rw [hg];exact (below_size (belV1 HB.out GE388.out)):w.heap.size≤gb389));have n5_:=Aside0.mk ((by rw [hg];exact Nat.ne_of_lt (blk_lt (g:=gb388) (blkV BK388.out)):gb388≠gb389));have n6_:=Aside0.mk ((by rw [hg];exact Nat.ne_of_gt (blk_lt (g:=gb388) (blkV BK388.out)):gb389≠gb388));clear BK388;clear HB;have BK388:=n0_;have HB:=n1_;have BK389:=n2_;have GW389:=n3_;have GE389:=n4_;have NB388_389:=n5_;have NB389_388:=n6_;clear n0_ n1_ n2_ n3_ n4_ n5_ n6_;clear hb hbox hg;have hnb15:=NB388_389.out;have hnc15:=NB389_388.out;obtain ⟨hcz16_0,hcz16_1,hcz16_2,hcz16_3,hcz16_4,hfz16_0,hfz16_1,hfz16_2,hfz16_3,hfz16_4⟩:=bcells5 BK388.out;obtain ⟨hcz17_0,hcz17_1,hcz17_2,hcz17_3,hcz17_4,hfz17_0,hfz17_1,hfz17_2,hfz17_3,hfz17_4⟩:=bcells5 BK389.out))
       go_ret
       exact ⟨by first|rfl|(simp [errW_none,errW_some] <;> rfl)|(simp [*,errW_none,errW_some] <;> rfl),by repeat (first|(with_reducible first|exact HB.out|apply below_alloc|apply pw_below_drewN|apply below_drew1|refine below_set ?_ GE388.out|refine below_set ?_ GE389.out)|exact HB.out)⟩
     rw [if_neg c5] at H
     have c5b0:(a0_2 == a1_2)=false:=beq_eq_false_iff_ne.mpr c5
     have c5b1:(a0_2 != a1_2)=true:=bne_iff_ne.mpr c5
     obtain rfl:=Option.some.inj H
     go_enter Try.func74,Try.ntmps74
     go_wp2_with (first|((with_reducible refine gate_dst (N:=2) rfl ?_);refine box_event ?hg (N:=2) ?hd (cs:=#[.int .i64 a0_0,.int .i64 a0_1,.int .i64 a0_2,.int .i64 a0_3,.slice A0_4 l0_4.length c0_4]) (t:=91) ?hr ?_;(case hd=>rfl);(case hg=>rfl);(case hr=>first|(go_simp;done)|(go_simp;rfl));intro gb388 hg w18 hbox hb;have n0_:=Aside0.mk (below_step (belV HB.out) hb);have n1_:=Aside0.mk (hbox);have n2_:=Aside0.mk ((by rw [hg];exact (below_size (belV HB.out)):w.heap.size≤gb388));have n3_:=Aside0.mk ((by rw [hg];exact (below_size (belV HB.out)):w.heap.size≤gb388));clear HB;have HB:=n0_;have BK388:=n1_;have GW388:=n2_;have GE388:=n3_;clear n0_ n1_ n2_ n3_;clear hb hbox hg)|((with_reducible refine gate_dst (N:=3) rfl ?_);refine box_event ?hg (N:=3) ?hd (cs:=#[.int .i64 a1_0,.int .i64 a1_1,.int .i64 a1_2,.int .i64 a1_3,.slice A1_4 l1_4.length c1_4]) (t:=91) ?hr ?_;(case hd=>rfl);(case hg=>rfl);(case hr=>first|(go_simp;done)|(go_simp;rfl));intro gb389 hg w19 hbox hb;have n0_:=Aside0.mk (blk_below (g:=gb388) (blkV BK388.out) hb);have n1_:=Aside0.mk (below_step (belV1 HB.out GE388.out) hb);have n2_:=Aside0.mk (hbox);have n3_:=Aside0.mk ((by rw [hg];exact (below_size (belV1 HB.out GE388.out)):w.heap.size≤gb389));have n4_:=Aside0.mk ((by rw [hg];exact (below_size (belV1 HB.out GE388.out)):w.heap.size≤gb389));have n5_:=Aside0.mk ((by rw [hg];exact Nat.ne_of_lt (blk_lt (g:=gb388) (blkV BK388.out)):gb388≠gb389));have n6_:=Aside0.mk ((by rw [hg];exact Nat.ne_of_gt (blk_lt (g:=gb388) (blkV BK388.out)):gb389≠gb388));clear BK388;clear HB;have BK388:=n0_;have HB:=n1_;have BK389:=n2_;have GW389:=n3_;have GE389:=n4_;have NB388_389:=n5_;have NB389_388:=n6_;clear n0_ n1_ n2_ n3_ n4_ n5_ n6_;clear hb hbox hg;have hnb20:=NB388_389.out;have hnc20:=NB389_388.out;obtain ⟨hcz21_0,hcz21_1,hcz21_2,hcz21_3,hcz21_4,hfz21_0,hfz21_1,hfz21_2,hfz21_3,hfz21_4⟩:=bcells5 BK388.out;obtain ⟨hcz22_0,hcz22_1,hcz22_2,hcz22_3,hcz22_4,hfz22_0,hfz22_1,hfz22_2,hfz22_3,hfz22_4⟩:=bcells5 BK389.out))
     go_ret
     exact ⟨by first|rfl|(simp [errW_none,errW_some] <;> rfl)|(simp [*,errW_none,errW_some] <;> rfl),by repeat (first|(with_reducible first|exact HB.out|apply below_alloc|apply pw_below_drewN|apply below_drew1|refine below_set ?_ GE388.out|refine below_set ?_ GE389.out)|exact HB.out)⟩
   rw [if_neg c4] at H
   have c4b0:(a0_1 == a1_1)=false:=beq_eq_false_iff_ne.mpr c4
   have c4b1:(a0_1 != a1_1)=true:=bne_iff_ne.mpr c4
   obtain rfl:=Option.some.inj H
   go_enter Try.func74,Try.ntmps74
   go_wp2_with (first|((with_reducible refine gate_dst (N:=2) rfl ?_);refine box_event ?hg (N:=2) ?hd (cs:=#[.int .i64 a0_0,.int .i64 a0_1,.int .i64 a0_2,.int .i64 a0_3,.slice A0_4 l0_4.length c0_4]) (t:=91) ?hr ?_;(case hd=>rfl);(case hg=>rfl);(case hr=>first|(go_simp;done)|(go_simp;rfl));intro gb388 hg w23 hbox hb;have n0_:=Aside0.mk (below_step (belV HB.out) hb);have n1_:=Aside0.mk (hbox);have n2_:=Aside0.mk ((by rw [hg];exact (below_size (belV HB.out)):w.heap.size≤gb388));have n3_:=Aside0.mk ((by rw [hg];exact (below_size (belV HB.out)):w.heap.size≤gb388));clear HB;have HB:=n0_;have BK388:=n1_;have GW388:=n2_;have GE388:=n3_;clear n0_ n1_ n2_ n3_;clear hb hbox hg)|((with_reducible refine gate_dst (N:=3) rfl ?_);refine box_event ?hg (N:=3) ?hd (cs:=#[.int .i64 a1_0,.int .i64 a1_1,.int .i64 a1_2,.int .i64 a1_3,.slice A1_4 l1_4.length c1_4]) (t:=91) ?hr ?_;(case hd=>rfl);(case hg=>rfl);(case hr=>first|(go_simp;done)|(go_simp;rfl));intro gb389 hg w24 hbox hb;have n0_:=Aside0.mk (blk_below (g:=gb388) (blkV BK388.out) hb);have n1_:=Aside0.mk (below_step (belV1 HB.out GE388.out) hb);have n2_:=Aside0.mk (hbox);have n3_:=Aside0.mk ((by rw [hg];exact (below_size (belV1 HB.out GE388.out)):w.heap.size≤gb389));have n4_:=Aside0.mk ((by rw [hg];exact (below_size (belV1 HB.out GE388.out)):w.heap.size≤gb389));have n5_:=Aside0.mk ((by rw [hg];exact Nat.ne_of_lt (blk_lt (g:=gb388) (blkV BK388.out)):gb388≠gb389));have n6_:=Aside0.mk ((by rw [hg];exact Nat.ne_of_gt (blk_lt (g:=gb388) (blkV BK388.out)):gb389≠gb388));clear BK388;clear HB;have BK388:=n0_;have HB:=n1_;have BK389:=n2_;have GW389:=n3_;have GE389:=n4_;have NB388_389:=n5_;have NB389_388:=n6_;clear n0_ n1_ n2_ n3_ n4_ n5_ n6_;clear hb hbox hg;have hnb25:=NB388_389.out;have hnc25:=NB389_388.out;obtain ⟨hcz26_0,hcz26_1,hcz26_2,hcz26_3,hcz26_4,hfz26_0,hfz26_1,hfz26_2,hfz26_3,hfz26_4⟩:=bcells5 BK388.out;obtain ⟨hcz27_0,hcz27_1,hcz27_2,hcz27_3,hcz27_4,hfz27_0,hfz27_1,hfz27_2,hfz27_3,hfz27_4⟩:=bcells5 BK389.out))
   go_ret
   exact ⟨by first|rfl|(simp [errW_none,errW_some] <;> rfl)|(simp [*,errW_none,errW_some] <;> rfl),by repeat (first|(with_reducible first|exact HB.out|apply below_alloc|apply pw_below_drewN|apply below_drew1|refine below_set ?_ GE388.out|refine below_set ?_ GE389.out)|exact HB.out)⟩
 rw [if_neg c3] at H
 have c3b0:(a0_0 == a1_0)=false:=beq_eq_false_iff_ne.mpr c3
 have c3b1:(a0_0 != a1_0)=true:=bne_iff_ne.mpr c3
 obtain rfl:=Option.some.inj H
 go_enter Try.func74,Try.ntmps74
 go_wp2_with (first|((with_reducible refine gate_dst (N:=2) rfl ?_);refine box_event ?hg (N:=2) ?hd (cs:=#[.int .i64 a0_0,.int .i64 a0_1,.int .i64 a0_2,.int .i64 a0_3,.slice A0_4 l0_4.length c0_4]) (t:=91) ?hr ?_;(case hd=>rfl);(case hg=>rfl);(case hr=>first|(go_simp;done)|(go_simp;rfl));intro gb388 hg w28 hbox hb;have n0_:=Aside0.mk (below_step (belV HB.out) hb);have n1_:=Aside0.mk (hbox);have n2_:=Aside0.mk ((by rw [hg];exact (below_size (belV HB.out)):w.heap.size≤gb388));have n3_:=Aside0.mk ((by rw [hg];exact (below_size (belV HB.out)):w.heap.size≤gb388));clear HB;have HB:=n0_;have BK388:=n1_;have GW388:=n2_;have GE388:=n3_;clear n0_ n1_ n2_ n3_;clear hb hbox hg)|((with_reducible refine gate_dst (N:=3) rfl ?_);refine box_event ?hg (N:=3) ?hd (cs:=#[.int .i64 a1_0,.int .i64 a1_1,.int .i64 a1_2,.int .i64 a1_3,.slice A1_4 l1_4.length c1_4]) (t:=91) ?hr ?_;(case hd=>rfl);(case hg=>rfl);(case hr=>first|(go_simp;done)|(go_simp;rfl));intro gb389 hg w29 hbox hb;have n0_:=Aside0.mk (blk_below (g:=gb388) (blkV BK388.out) hb);have n1_:=Aside0.mk (below_step (belV1 HB.out GE388.out) hb);have n2_:=Aside0.mk (hbox);have n3_:=Aside0.mk ((by rw [hg];exact (below_size (belV1 HB.out GE388.out)):w.heap.size≤gb389));have n4_:=Aside0.mk ((by rw [hg];exact (below_size (belV1 HB.out GE388.out)):w.heap.size≤gb389));have n5_:=Aside0.mk ((by rw [hg];exact Nat.ne_of_lt (blk_lt (g:=gb388) (blkV BK388.out)):gb388≠gb389));have n6_:=Aside0.mk ((by rw [hg];exact Nat.ne_of_gt (blk_lt (g:=gb388) (blkV BK388.out)):gb389≠gb388));clear BK388;clear HB;have BK388:=n0_;have HB:=n1_;have BK389:=n2_;have GW389:=n3_;have GE389:=n4_;have NB388_389:=n5_;have NB389_388:=n6_;clear n0_ n1_ n2_ n3_ n4_ n5_ n6_;clear hb hbox hg;have hnb30:=NB388_389.out;have hnc30:=NB389_388.out;obtain ⟨hcz31_0,hcz31_1,hcz31_2,hcz31_3,hcz31_4,hfz31_0,hfz31_1,hfz31_2,hfz31_3,hfz31_4⟩:=bcells5 BK388.out;obtain ⟨hcz32_0,hcz32_1,hcz32_2,hcz32_3,hcz32_4,hfz32_0,hfz32_1,hfz32_2,hfz32_3,hfz32_4⟩:=bcells5 BK389.out))
 go_ret
 exact ⟨by first|rfl|(simp [errW_none,errW_some] <;> rfl)|(simp [*,errW_none,errW_some] <;> rfl),by repeat (first|(with_reducible first|exact HB.out|apply below_alloc|apply pw_below_drewN|apply below_drew1|refine below_set ?_ GE388.out|refine below_set ?_ GE389.out)|exact HB.out)⟩

-- NOT PRINTED: function 75 (api_Patch)

end Go.Proofs.Ytaebgjdaoloceaa.QBmpP
