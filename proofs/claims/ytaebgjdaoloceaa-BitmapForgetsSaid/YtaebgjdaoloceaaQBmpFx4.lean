/- Part of a proof: functions of the program as Lean functions, and that the machine's calls come to them. Made by a program of this session (wip/mp). -/
import Derived.Test.YtaebgjdaoloceaaQBmpFx0
import Derived.Test.YtaebgjdaoloceaaQBmpFx1
import Derived.Test.YtaebgjdaoloceaaQBmpFx2
import Derived.Test.YtaebgjdaoloceaaQBmpFx3
namespace Go.Proofs.Ytaebgjdaoloceaa.QBmpF
open Go.RowKit Go.Proofs.YtaebgjdaoloceaaV Go.Proofs.YtaebgjdaoloceaaW.PrintWords Go.Proofs.YtaebgjdaoloceaaW.PrintLast Go.Proofs.YtaebgjdaoloceaaW.PrintMore
attribute [local go_sem] max2_int min2_int max_two min_two max_three min_three max_four min_four   -- for this text's walks alone
set_option linter.unusedVariables false
set_option linter.unusedSimpArgs false

/-! ### bitmap_sound: function 65 -/
def bitmap_sound.f (k : Nat) (a0_0 : Int) (a0_1 : Int) (l0_2 : List Int) (l0_3 : List Int) : Option (Bool) := (bitmap_within.f a0_0 1 200).bind fun t228 => (if t228 = true then ((bitmap_within.f a0_1 1 200).bind fun t229 => (if t229 = true then (if (l0_2.length : Int) ≤ 16 then ((bitmap_colours.f k l0_2).bind fun t230 => (if t230 = true then (if (l0_3.length : Int) = (wrap64 (a0_0 * a0_1)) then ((slices_ContainsFunc_int_int__85.f k l0_3).bind fun t231 => (some (!t231))) else (some false)) else (some false))) else (some false)) else (some false))) else (some false))
theorem bitmap_sound.mono:∀ a0 a1 a2 a3 k,LeO (bitmap_sound.f k a0 a1 a2 a3) (bitmap_sound.f (k+1) a0 a1 a2 a3):=by
 intro a0 a1 a2 a3 k
 unfold bitmap_sound.f
 repeat' first
  | (with_reducible exact bitmap_colours.mono _ _)
  | (with_reducible exact slices_ContainsFunc_int_int__85.mono _ _)
  | (with_reducible exact LeO.refl _)
  | (with_reducible exact LeO.none _)
  | (with_reducible refine LeO.ite ?_ ?_)
  | (with_reducible refine LeO.bind ?_ (fun _=>?_))
  | exact LeO.none _
  | refine LeO.ite ?_ ?_
  | refine LeO.bind ?_ (fun _=>?_)
set_option maxHeartbeats 8000000 in
set_option maxRecDepth 100000 in
theorem bitmap_sound.calls (k:Nat) (a0_0:Int) (a0_1:Int) (A0_2:Option Addr) (c0_2:Nat) (l0_2:List Int) (A0_3:Option Addr) (c0_3:Nat) (l0_3:List Int) (r:Bool) (w:World) (hr0_2:Kd.C (Kd.int .i64) w A0_2 l0_2.length l0_2) (hc0_2:l0_2.length≤c0_2) (hr0_3:Kd.C (Kd.int .i64) w A0_3 l0_3.length l0_3) (hc0_3:l0_3.length≤c0_3) (h:bitmap_sound.f k a0_0 a0_1 l0_2 l0_3=some r) :
 Calls Try.prog 65 #[.agg #[.int .i64 a0_0,.int .i64 a0_1,.slice A0_2 l0_2.length c0_2,.slice A0_3 l0_3.length c0_3]] w fun e w'=>e=.returned (.bool r)∧Below w.heap.size w w':=by
 have hu38:=Try.underlying38
 have HR0_2:=Aside0.mk hr0_2
 have HC0_2:=Aside0.mk hc0_2;clear hr0_2 hc0_2
 have HR0_3:=Aside0.mk hr0_3
 have HC0_3:=Aside0.mk hc0_3;clear hr0_3 hc0_3;have HB:=Aside0.mk (Below.refl w.heap.size w)
 have H:((bitmap_within.f a0_0 1 200).bind fun t228=>(if t228=true then ((bitmap_within.f a0_1 1 200).bind fun t229=>(if t229=true then (if (l0_2.length:Int)≤16 then ((bitmap_colours.f k l0_2).bind fun t230=>(if t230=true then (if (l0_3.length:Int)=(wrap64 (a0_0*a0_1)) then ((slices_ContainsFunc_int_int__85.f k l0_3).bind fun t231=>(some (!t231))) else (some false)) else (some false))) else (some false)) else (some false))) else (some false)))=some r:=h
 clear h
 replace H:=Option.bind_eq_some_iff.mp H
 obtain ⟨t228,A20,H⟩:=H
 replace H:(if t228=true then ((bitmap_within.f a0_1 1 200).bind fun t229=>(if t229=true then (if (l0_2.length:Int)≤16 then ((bitmap_colours.f k l0_2).bind fun t230=>(if t230=true then (if (l0_3.length:Int)=(wrap64 (a0_0*a0_1)) then ((slices_ContainsFunc_int_int__85.f k l0_3).bind fun t231=>(some (!t231))) else (some false)) else (some false))) else (some false)) else (some false))) else (some false))=some r:=H
 have A2:=Aside0.mk A20;clear A20
 by_cases c3:t228=true
 · subst c3
   have H1:((bitmap_within.f a0_1 1 200).bind fun t229=>(if t229=true then (if (l0_2.length:Int)≤16 then ((bitmap_colours.f k l0_2).bind fun t230=>(if t230=true then (if (l0_3.length:Int)=(wrap64 (a0_0*a0_1)) then ((slices_ContainsFunc_int_int__85.f k l0_3).bind fun t231=>(some (!t231))) else (some false)) else (some false))) else (some false)) else (some false)))=some r:=by rw [if_pos rfl] at H;exact H
   clear H
   have H:=H1;clear H1
   replace H:=Option.bind_eq_some_iff.mp H
   obtain ⟨t229,A40,H⟩:=H
   replace H:(if t229=true then (if (l0_2.length:Int)≤16 then ((bitmap_colours.f k l0_2).bind fun t230=>(if t230=true then (if (l0_3.length:Int)=(wrap64 (a0_0*a0_1)) then ((slices_ContainsFunc_int_int__85.f k l0_3).bind fun t231=>(some (!t231))) else (some false)) else (some false))) else (some false)) else (some false))=some r:=H
   have A4:=Aside0.mk A40;clear A40
   by_cases c5:t229=true
   · subst c5
     have H1:(if (l0_2.length:Int)≤16 then ((bitmap_colours.f k l0_2).bind fun t230=>(if t230=true then (if (l0_3.length:Int)=(wrap64 (a0_0*a0_1)) then ((slices_ContainsFunc_int_int__85.f k l0_3).bind fun t231=>(some (!t231))) else (some false)) else (some false))) else (some false))=some r:=by rw [if_pos rfl] at H;exact H
     clear H
     have H:=H1;clear H1
     by_cases c6:(l0_2.length:Int)≤16
     · rw [if_pos c6] at H
       have c6b0:decide ((l0_2.length:Int)≤16)=true:=decide_eq_true c6
       have c6b1:decide (l0_2.length≤16)=true:=decide_eq_true (by omega);clear c6
       replace H:=Option.bind_eq_some_iff.mp H
       obtain ⟨t230,A70,H⟩:=H
       replace H:(if t230=true then (if (l0_3.length:Int)=(wrap64 (a0_0*a0_1)) then ((slices_ContainsFunc_int_int__85.f k l0_3).bind fun t231=>(some (!t231))) else (some false)) else (some false))=some r:=H
       have A7:=Aside0.mk A70;clear A70
       by_cases c8:t230=true
       · subst c8
         have H1:(if (l0_3.length:Int)=(wrap64 (a0_0*a0_1)) then ((slices_ContainsFunc_int_int__85.f k l0_3).bind fun t231=>(some (!t231))) else (some false))=some r:=by rw [if_pos rfl] at H;exact H
         clear H
         have H:=H1;clear H1
         by_cases c9:(l0_3.length:Int)=(wrap64 (a0_0*a0_1))
         · rw [if_pos c9] at H
           have c9b0:((l0_3.length:Int) == (wrap64 (a0_0*a0_1)))=true:=beq_iff_eq.mpr c9
           have c9b1:((l0_3.length:Int) != (wrap64 (a0_0*a0_1)))=false:=bne_eq_false_iff_eq.mpr c9;clear c9
           replace H:=Option.bind_eq_some_iff.mp H
           obtain ⟨t231,A100,H⟩:=H
           replace H:(some (!t231))=some r:=H
           have A10:=Aside0.mk A100;clear A100
           obtain rfl:=Option.some.inj H
           go_enter Try.func65,Try.ntmps65
           go_wp2_with (first|((with_reducible refine gate_dst (N:=1) rfl ?_);(try (refine gate_guard (by rfl) ?_;dsimp only));refine box_event ?hg (N:=1) ?hd (cs:=#[.int .i64 a0_0,.int .i64 a0_1,.slice A0_2 l0_2.length c0_2,.slice A0_3 l0_3.length c0_3]) (t:=38) ?hr ?_;(case hd=>rfl);(case hg=>rfl);(case hr=>first|(go_simp;done)|(go_simp;rfl));intro gb227 hg w11 hbox hb;have n0_:=Aside0.mk (below_step (belV HB.out) hb);have n1_:=Aside0.mk (hbox);have n2_:=Aside0.mk ((by rw [hg];exact (below_size (belV HB.out)):w.heap.size≤gb227));have n3_:=Aside0.mk ((by rw [hg];exact (below_size (belV HB.out)):w.heap.size≤gb227));clear HB;have HB:=n0_;have BK227:=n1_;have GW227:=n2_;have GE227:=n3_;clear n0_ n1_ n2_ n3_;clear hb hbox hg;obtain ⟨hcz12_0,hcz12_1,hcz12_2,hcz12_3,hfz12_0,hfz12_1,hfz12_2,hfz12_3⟩:=bcells4 BK227.out)|((with_reducible refine gate_callee (f:=47) rfl ?_);refine goesL_ (some 6) rfl rfl Try.func47 (by kernel_rfl) rfl #[.int .i64 a0_0,.int .i64 1,.int .i64 200] rfl (by (try simp only [List.map_toArray,List.map_cons,List.map_nil]);first|done|rfl|(simp only [List.length_drop,List.length_take];rfl)) ?_;(with_reducible refine (bitmap_within.calls a0_0 1 200 true _ A2.out).mono ?_);rintro e w' ⟨rfl,⟨nd,rfl⟩⟩;refine ⟨_,rfl,?_⟩)|(go_at_call 47;(with_reducible refine (bitmap_within.calls a0_1 1 200 true _ A4.out).mono ?_);rintro e w' ⟨rfl,⟨nd,rfl⟩⟩)|(go_at_call 71;(with_reducible refine (bitmap_colours.calls k _ _ l0_2 true _ ?side1 ?side2 A7.out).mono ?_);(case side1=>repeat (first|exact (Kd.C_below HR0_2.out (belV1 HB.out GE227.out))|(with_reducible refine Kd.C_alloc ?_ _)|(with_reducible refine Kd.C_drewN ?_ _)|(with_reducible refine Kd.C_drew ?_)));(case side2=>exact HC0_2.out);rintro e w' ⟨rfl,⟨nd,rfl⟩⟩)|(go_at_call 48;(with_reducible refine (slices_ContainsFunc_int_int__85.calls k _ _ l0_3  t231 _ ?side1 ?side2 A10.out).mono ?_);(case side1=>repeat (first|exact (Kd.C_below HR0_3.out (belV1 HB.out GE227.out))|(with_reducible refine Kd.C_alloc ?_ _)|(with_reducible refine Kd.C_drewN ?_ _)|(with_reducible refine Kd.C_drew ?_)));(case side2=>exact HC0_3.out);rintro e w' ⟨rfl,⟨nd,rfl⟩⟩))
           go_ret
           exact ⟨by first|rfl|(simp [errW_none,errW_some] <;> rfl)|(simp [*,errW_none,errW_some] <;> rfl),by repeat (first|(with_reducible first|exact HB.out|apply below_alloc|apply pw_below_drewN|apply below_drew1|refine below_set ?_ GE227.out)|exact HB.out)⟩
         rw [if_neg c9] at H
         have c9b0:((l0_3.length:Int) == (wrap64 (a0_0*a0_1)))=false:=beq_eq_false_iff_ne.mpr c9
         have c9b1:((l0_3.length:Int) != (wrap64 (a0_0*a0_1)))=true:=bne_iff_ne.mpr c9
         obtain rfl:=Option.some.inj H
         go_enter Try.func65,Try.ntmps65
         go_wp2_with (first|((with_reducible refine gate_dst (N:=1) rfl ?_);(try (refine gate_guard (by rfl) ?_;dsimp only));refine box_event ?hg (N:=1) ?hd (cs:=#[.int .i64 a0_0,.int .i64 a0_1,.slice A0_2 l0_2.length c0_2,.slice A0_3 l0_3.length c0_3]) (t:=38) ?hr ?_;(case hd=>rfl);(case hg=>rfl);(case hr=>first|(go_simp;done)|(go_simp;rfl));intro gb227 hg w13 hbox hb;have n0_:=Aside0.mk (below_step (belV HB.out) hb);have n1_:=Aside0.mk (hbox);have n2_:=Aside0.mk ((by rw [hg];exact (below_size (belV HB.out)):w.heap.size≤gb227));have n3_:=Aside0.mk ((by rw [hg];exact (below_size (belV HB.out)):w.heap.size≤gb227));clear HB;have HB:=n0_;have BK227:=n1_;have GW227:=n2_;have GE227:=n3_;clear n0_ n1_ n2_ n3_;clear hb hbox hg;obtain ⟨hcz14_0,hcz14_1,hcz14_2,hcz14_3,hfz14_0,hfz14_1,hfz14_2,hfz14_3⟩:=bcells4 BK227.out)|((with_reducible refine gate_callee (f:=47) rfl ?_);refine goesL_ (some 6) rfl rfl Try.func47 (by kernel_rfl) rfl #[.int .i64 a0_0,.int .i64 1,.int .i64 200] rfl (by (try simp only [List.map_toArray,List.map_cons,List.map_nil]);first|done|rfl|(simp only [List.length_drop,List.length_take];rfl)) ?_;(with_reducible refine (bitmap_within.calls a0_0 1 200 true _ A2.out).mono ?_);rintro e w' ⟨rfl,⟨nd,rfl⟩⟩;refine ⟨_,rfl,?_⟩)|(go_at_call 47;(with_reducible refine (bitmap_within.calls a0_1 1 200 true _ A4.out).mono ?_);rintro e w' ⟨rfl,⟨nd,rfl⟩⟩)|(go_at_call 71;(with_reducible refine (bitmap_colours.calls k _ _ l0_2 true _ ?side1 ?side2 A7.out).mono ?_);(case side1=>repeat (first|exact (Kd.C_below HR0_2.out (belV1 HB.out GE227.out))|(with_reducible refine Kd.C_alloc ?_ _)|(with_reducible refine Kd.C_drewN ?_ _)|(with_reducible refine Kd.C_drew ?_)));(case side2=>exact HC0_2.out);rintro e w' ⟨rfl,⟨nd,rfl⟩⟩))
         go_ret
         exact ⟨by first|rfl|(simp [errW_none,errW_some] <;> rfl)|(simp [*,errW_none,errW_some] <;> rfl),by repeat (first|(with_reducible first|exact HB.out|apply below_alloc|apply pw_below_drewN|apply below_drew1|refine below_set ?_ GE227.out)|exact HB.out)⟩
       replace c8:=Bool.eq_false_iff.mpr c8;subst c8
       have H1:(some false)=some r:=by rw [if_neg (show ¬ (false=true) by decide)] at H;exact H
       clear H
       have H:=H1;clear H1
       obtain rfl:=Option.some.inj H
       go_enter Try.func65,Try.ntmps65
       go_wp2_with (first|((with_reducible refine gate_dst (N:=1) rfl ?_);(try (refine gate_guard (by rfl) ?_;dsimp only));refine box_event ?hg (N:=1) ?hd (cs:=#[.int .i64 a0_0,.int .i64 a0_1,.slice A0_2 l0_2.length c0_2,.slice A0_3 l0_3.length c0_3]) (t:=38) ?hr ?_;(case hd=>rfl);(case hg=>rfl);(case hr=>first|(go_simp;done)|(go_simp;rfl));intro gb227 hg w15 hbox hb;have n0_:=Aside0.mk (below_step (belV HB.out) hb);have n1_:=Aside0.mk (hbox);have n2_:=Aside0.mk ((by rw [hg];exact (below_size (belV HB.out)):w.heap.size≤gb227));have n3_:=Aside0.mk ((by rw [hg];exact (below_size (belV HB.out)):w.heap.size≤gb227));clear HB;have HB:=n0_;have BK227:=n1_;have GW227:=n2_;have GE227:=n3_;clear n0_ n1_ n2_ n3_;clear hb hbox hg;obtain ⟨hcz16_0,hcz16_1,hcz16_2,hcz16_3,hfz16_0,hfz16_1,hfz16_2,hfz16_3⟩:=bcells4 BK227.out)|((with_reducible refine gate_callee (f:=47) rfl ?_);refine goesL_ (some 6) rfl rfl Try.func47 (by kernel_rfl) rfl #[.int .i64 a0_0,.int .i64 1,.int .i64 200] rfl (by (try simp only [List.map_toArray,List.map_cons,List.map_nil]);first|done|rfl|(simp only [List.length_drop,List.length_take];rfl)) ?_;(with_reducible refine (bitmap_within.calls a0_0 1 200 true _ A2.out).mono ?_);rintro e w' ⟨rfl,⟨nd,rfl⟩⟩;refine ⟨_,rfl,?_⟩)|(go_at_call 47;(with_reducible refine (bitmap_within.calls a0_1 1 200 true _ A4.out).mono ?_);rintro e w' ⟨rfl,⟨nd,rfl⟩⟩)|(go_at_call 71;(with_reducible refine (bitmap_colours.calls k _ _ l0_2 false _ ?side1 ?side2 A7.out).mono ?_);(case side1=>repeat (first|exact (Kd.C_below HR0_2.out (belV1 HB.out GE227.out))|(with_reducible refine Kd.C_alloc ?_ _)|(with_reducible refine Kd.C_drewN ?_ _)|(with_reducible refine Kd.C_drew ?_)));(case side2=>exact HC0_2.out);rintro e w' ⟨rfl,⟨nd,rfl⟩⟩))
       go_ret
       exact ⟨by first|rfl|(simp [errW_none,errW_some] <;> rfl)|(simp [*,errW_none,errW_some] <;> rfl),by repeat (first|(with_reducible first|exact HB.out|apply below_alloc|apply pw_below_drewN|apply below_drew1|refine below_set ?_ GE227.out)|exact HB.out)⟩
     rw [if_neg c6] at H
     have c6b0:decide ((l0_2.length:Int)≤16)=false:=decide_eq_false c6
     have c6b1:decide (l0_2.length≤16)=false:=decide_eq_false (by omega);clear c6
     obtain rfl:=Option.some.inj H
     go_enter Try.func65,Try.ntmps65
     go_wp2_with (first|((with_reducible refine gate_dst (N:=1) rfl ?_);(try (refine gate_guard (by rfl) ?_;dsimp only));refine box_event ?hg (N:=1) ?hd (cs:=#[.int .i64 a0_0,.int .i64 a0_1,.slice A0_2 l0_2.length c0_2,.slice A0_3 l0_3.length c0_3]) (t:=38) ?hr ?_;(case hd=>rfl);(case hg=>rfl);(case hr=>first|(go_simp;done)|(go_simp;rfl));intro gb227 hg w17 hbox hb;have n0_:=Aside0.mk (below_step (belV HB.out) hb);have n1_:=Aside0.mk (hbox);have n2_:=Aside0.mk ((by rw [hg];exact (below_size (belV HB.out)):w.heap.size≤gb227));have n3_:=Aside0.mk ((by rw [hg];exact (below_size (belV HB.out)):w.heap.size≤gb227));clear HB;have HB:=n0_;have BK227:=n1_;have GW227:=n2_;have GE227:=n3_;clear n0_ n1_ n2_ n3_;clear hb hbox hg;obtain ⟨hcz18_0,hcz18_1,hcz18_2,hcz18_3,hfz18_0,hfz18_1,hfz18_2,hfz18_3⟩:=bcells4 BK227.out)|((with_reducible refine gate_callee (f:=47) rfl ?_);refine goesL_ (some 6) rfl rfl Try.func47 (by kernel_rfl) rfl #[.int .i64 a0_0,.int .i64 1,.int .i64 200] rfl (by (try simp only [List.map_toArray,List.map_cons,List.map_nil]);first|done|rfl|(simp only [List.length_drop,List.length_take];rfl)) ?_;(with_reducible refine (bitmap_within.calls a0_0 1 200 true _ A2.out).mono ?_);rintro e w' ⟨rfl,⟨nd,rfl⟩⟩;refine ⟨_,rfl,?_⟩)|(go_at_call 47;(with_reducible refine (bitmap_within.calls a0_1 1 200 true _ A4.out).mono ?_);rintro e w' ⟨rfl,⟨nd,rfl⟩⟩))
     go_ret
     exact ⟨by first|rfl|(simp [errW_none,errW_some] <;> rfl)|(simp [*,errW_none,errW_some] <;> rfl),by repeat (first|(with_reducible first|exact HB.out|apply below_alloc|apply pw_below_drewN|apply below_drew1|refine below_set ?_ GE227.out)|exact HB.out)⟩
   replace c5:=Bool.eq_false_iff.mpr c5;subst c5
   have H1:(some false)=some r:=by rw [if_neg (show ¬ (false=true) by decide)] at H;exact H
   clear H
   have H:=H1;clear H1
   obtain rfl:=Option.some.inj H
   go_enter Try.func65,Try.ntmps65
   go_wp2_with (first|((with_reducible refine gate_dst (N:=1) rfl ?_);(try (refine gate_guard (by rfl) ?_;dsimp only));refine box_event ?hg (N:=1) ?hd (cs:=#[.int .i64 a0_0,.int .i64 a0_1,.slice A0_2 l0_2.length c0_2,.slice A0_3 l0_3.length c0_3]) (t:=38) ?hr ?_;(case hd=>rfl);(case hg=>rfl);(case hr=>first|(go_simp;done)|(go_simp;rfl));intro gb227 hg w19 hbox hb;have n0_:=Aside0.mk (below_step (belV HB.out) hb);have n1_:=Aside0.mk (hbox);have n2_:=Aside0.mk ((by rw [hg];exact (below_size (belV HB.out)):w.heap.size≤gb227));have n3_:=Aside0.mk ((by rw [hg];exact (below_size (belV HB.out)):w.heap.size≤gb227));clear HB;have HB:=n0_;have BK227:=n1_;have GW227:=n2_;have GE227:=n3_;clear n0_ n1_ n2_ n3_;clear hb hbox hg;obtain ⟨hcz20_0,hcz20_1,hcz20_2,hcz20_3,hfz20_0,hfz20_1,hfz20_2,hfz20_3⟩:=bcells4 BK227.out)|((with_reducible refine gate_callee (f:=47) rfl ?_);refine goesL_ (some 6) rfl rfl Try.func47 (by kernel_rfl) rfl #[.int .i64 a0_0,.int .i64 1,.int .i64 200] rfl (by (try simp only [List.map_toArray,List.map_cons,List.map_nil]);first|done|rfl|(simp only [List.length_drop,List.length_take];rfl)) ?_;(with_reducible refine (bitmap_within.calls a0_0 1 200 true _ A2.out).mono ?_);rintro e w' ⟨rfl,⟨nd,rfl⟩⟩;refine ⟨_,rfl,?_⟩)|(go_at_call 47;(with_reducible refine (bitmap_within.calls a0_1 1 200 false _ A4.out).mono ?_);rintro e w' ⟨rfl,⟨nd,rfl⟩⟩))
   go_ret
   exact ⟨by first|rfl|(simp [errW_none,errW_some] <;> rfl)|(simp [*,errW_none,errW_some] <;> rfl),by repeat (first|(with_reducible first|exact HB.out|apply below_alloc|apply pw_below_drewN|apply below_drew1|refine below_set ?_ GE227.out)|exact HB.out)⟩
 replace c3:=Bool.eq_false_iff.mpr c3;subst c3
 have H1:(some false)=some r:=by rw [if_neg (show ¬ (false=true) by decide)] at H;exact H
 clear H
 have H:=H1;clear H1
 obtain rfl:=Option.some.inj H
 go_enter Try.func65,Try.ntmps65
 go_wp2_with (first|((with_reducible refine gate_dst (N:=1) rfl ?_);(try (refine gate_guard (by rfl) ?_;dsimp only));refine box_event ?hg (N:=1) ?hd (cs:=#[.int .i64 a0_0,.int .i64 a0_1,.slice A0_2 l0_2.length c0_2,.slice A0_3 l0_3.length c0_3]) (t:=38) ?hr ?_;(case hd=>rfl);(case hg=>rfl);(case hr=>first|(go_simp;done)|(go_simp;rfl));intro gb227 hg w21 hbox hb;have n0_:=Aside0.mk (below_step (belV HB.out) hb);have n1_:=Aside0.mk (hbox);have n2_:=Aside0.mk ((by rw [hg];exact (below_size (belV HB.out)):w.heap.size≤gb227));have n3_:=Aside0.mk ((by rw [hg];exact (below_size (belV HB.out)):w.heap.size≤gb227));clear HB;have HB:=n0_;have BK227:=n1_;have GW227:=n2_;have GE227:=n3_;clear n0_ n1_ n2_ n3_;clear hb hbox hg;obtain ⟨hcz22_0,hcz22_1,hcz22_2,hcz22_3,hfz22_0,hfz22_1,hfz22_2,hfz22_3⟩:=bcells4 BK227.out)|((with_reducible refine gate_callee (f:=47) rfl ?_);refine goesL_ (some 6) rfl rfl Try.func47 (by kernel_rfl) rfl #[.int .i64 a0_0,.int .i64 1,.int .i64 200] rfl (by (try simp only [List.map_toArray,List.map_cons,List.map_nil]);first|done|rfl|(simp only [List.length_drop,List.length_take];rfl)) ?_;(with_reducible refine (bitmap_within.calls a0_0 1 200 false _ A2.out).mono ?_);rintro e w' ⟨rfl,⟨nd,rfl⟩⟩;refine ⟨_,rfl,?_⟩))
 go_ret
 exact ⟨by first|rfl|(simp [errW_none,errW_some] <;> rfl)|(simp [*,errW_none,errW_some] <;> rfl),by repeat (first|(with_reducible first|exact HB.out|apply below_alloc|apply pw_below_drewN|apply below_drew1|refine below_set ?_ GE227.out)|exact HB.out)⟩

/-! ### slices_Clone_int_int: function 66 -/
def slices_Clone_int_int.f (l0 : List Int) : Option (List Int) := if l0.length < 140737488355328 / 8 then some l0 else none
set_option maxHeartbeats 2000000 in
set_option maxRecDepth 100000 in
theorem slices_Clone_int_int.calls (A0 : Option Addr) (c0 : Nat) (l0 : List Int) (r : List Int) (w : World) (hr0 : Kd.C (Kd.int .i64) w A0 l0.length l0) (hc0 : l0.length ≤ c0) (h : slices_Clone_int_int.f l0 = some r) :
    Calls Try.prog 66 #[.slice A0 l0.length c0] w fun e w' => ∃ v0_ : Value, e = .returned (v0_) ∧ Kd.R (Kd.int .i64) 3 w' w.heap.size (fun _ => True) v0_ r ∧ Below w.heap.size w w' := by
  unfold slices_Clone_int_int.f at h
  by_cases hl : l0.length < 140737488355328 / 8
  · rw [if_pos hl] at h
    obtain rfl := Option.some.inj h
    have info3 : (Try.prog.info? 3).map (fun i => (i.zero, i.size, i.bytes)) = some (some (.int .i64 0), 1, 8) := by kernel_rfl
    obtain ⟨i0, hi, hz0, hz1, hz2⟩ := info_parts info3
    have q22 : ∀ (w : World) (a : Option Addr) (n c n' c' : Nat), (binOp .eql 22 (.slice a n c) (.slice none n' c')).run Try.prog w = .ok (.bool a.isNone) w := fun w a n c n' c' => Lib.run_eql_slice_nil w _ _ a n c n' c' Try.underlying22
    have hR := Kd.reads_of_C (d := (0 : Int)) hr0
    cases A0 with
    | none =>
      have h0 : l0 = [] := by
        cases l0 with
        | nil => rfl
        | cons a t => obtain ⟨_, _, h2⟩ := hR; obtain ⟨ad, h3, _⟩ := h2 (by simp); cases h3
      subst h0
      go_enter Try.func66, Try.ntmps66
      go_wp2
      go_ret
      exact ⟨_, rfl, Kd.R_nil _ _ _ _ _, Below.refl _ _⟩
    | some ad =>
      obtain ⟨_, _, h2⟩ := hR
      have hA := Aside0.mk h2
      clear h2 hr0
      go_enter Try.func66, Try.ntmps66
      go_wp2_with (at_builtin; refine wpList_append_own _ rfl _ _ 22 rfl w.heap.size 3 i0 (.int .i64 0) 1 8 Try.underlying22 hi hz0 hz1 hz2 rfl (by decide) _ _ _ rfl (World.ownsRow_made w #[] 0 (Nat.le_refl _) (Nat.zero_le _) rfl) ad l0.length c0 (l0.map (Value.int .i64)) rfl (by simp) ?qc2 ?qc3 ?qc4 ?qc5 ?qc6 ?_)
      case qc2 =>
        intro j u hj
        have hjn : j < l0.length := by
          have := (List.getElem?_eq_some_iff.1 hj).1
          simpa using this
        obtain ⟨ad', he, hc⟩ := hA.out (by omega)
        obtain rfl := Option.some.inj he
        refine Lib.cell?_alloc_some _ ?_
        rw [hc j hjn]
        rw [List.getD_eq_getElem?_getD, hj]; rfl
      case qc3 => intro u hu; rfl
      case qc4 => unfold maxLen; omega
      case qc5 => omega
      intro v' w1 hown hgrow hnil
      go_wp2
      go_ret
      refine ⟨v', rfl, ?_, ?_⟩
      · exact Kd.R_of_own (h1 := fun _ => rfl) (by simpa [encs] using hown) (fun _ _ => trivial)
      · exact ((Below.refl _ w).alloc (Nat.le_refl _) _).grown hgrow (by simp) (by intro k hk; simp [Value.ownBlock] at hk; omega)
  · rw [if_neg hl] at h; cases h

/-! ### bitmap_Draw: function 30 -/
mutual
def bitmap_Draw.j0 : Nat → Int → Int → List Int → List Int → Bool → List Int → List (S91) → Option (Int × Int × List Int × List Int × Int)
 | 0,_,_,_,_,_,_,_=>none
 | k+1,x233000,x233001,x233002,x233003,x234000,x234001,x234002=>if (x234001.length:Int) > 0 then ((slices_Clone_int_int.f x234001).bind fun t244=>(bitmap_Draw.j1 k x233000 x233001 t244 x233003 x234000 x234001 x234002)) else (bitmap_Draw.j1 k x233000 x233001 x233002 x233003 x234000 x234001 x234002)
def bitmap_Draw.j1 : Nat → Int → Int → List Int → List Int → Bool → List Int → List (S91) → Option (Int × Int × List Int × List Int × Int)
 | 0,_,_,_,_,_,_,_=>none
 | k+1,x233000,x233001,x233002,x233003,x234000,x234001,x234002=>bitmap_Draw.l0 k x234002 (x234002.length:Int) 0 x233000 x233001 x233002 x233003
def bitmap_Draw.l0 : Nat → List (S91) → Int → Int → Int → Int → List Int → List Int → Option (Int × Int × List Int × List Int × Int)
 | 0,_,_,_,_,_,_,_=>none
 | k+1,x43,x44,x45,x233000,x233001,x233002,x233003=>if x45 < x44 then (if 0≤x45 then (if x45 < (x43.length:Int) then (bitmap_Draw.l1 k x43 x44 x45 (mn ((rd_T91 x43 x45).f3) (wrap64 (x233001 - ((rd_T91 x43 x45).f1)))) 0 x233000 x233001 x233002 x233003 ((rd_T91 x43 x45).f0) ((rd_T91 x43 x45).f1) ((rd_T91 x43 x45).f2) ((rd_T91 x43 x45).f3) ((rd_T91 x43 x45).f4)) else (none)) else (none)) else (some (x233000,x233001,x233002,x233003,0))
def bitmap_Draw.l1 : Nat → List (S91) → Int → Int → Int → Int → Int → Int → List Int → List Int → Int → Int → Int → Int → List Int → Option (Int × Int × List Int × List Int × Int)
 | 0,_,_,_,_,_,_,_,_,_,_,_,_,_,_=>none
 | k+1,x43,x44,x45,x56,x57,x233000,x233001,x233002,x233003,x249000,x249001,x249002,x249003,x249004=>if x57 < x56 then (bitmap_Draw.l2 k x57 x43 x44 x45 x56 x57 (mn x249002 (wrap64 (x233000 - x249000))) 0 x233000 x233001 x233002 x233003 x249000 x249001 x249002 x249003 x249004) else (bitmap_Draw.l0 k x43 x44 (wrap64 (x45+1)) x233000 x233001 x233002 x233003)
def bitmap_Draw.l2 : Nat → Int → List (S91) → Int → Int → Int → Int → Int → Int → Int → Int → List Int → List Int → Int → Int → Int → Int → List Int → Option (Int × Int × List Int × List Int × Int)
 | 0,_,_,_,_,_,_,_,_,_,_,_,_,_,_,_,_,_=>none
 | k+1,x9,x43,x44,x45,x56,x57,x67,x68,x233000,x233001,x233002,x233003,x249000,x249001,x249002,x249003,x249004=>if x68 < x67 then (if 0≤(wrap64 ((wrap64 (x9*x249002))+x68)) then (if (wrap64 ((wrap64 (x9*x249002))+x68)) < (x249004.length:Int) then (if 0≤(wrap64 ((wrap64 ((wrap64 ((wrap64 (x249001+x9))*x233000))+x249000))+x68)) then (if (wrap64 ((wrap64 ((wrap64 ((wrap64 (x249001+x9))*x233000))+x249000))+x68)) < (x233003.length:Int) then (bitmap_Draw.l2 k x9 x43 x44 x45 x56 x57 x67 (wrap64 (x68+1)) x233000 x233001 x233002 (x233003.set ((wrap64 ((wrap64 ((wrap64 ((wrap64 (x249001+x9))*x233000))+x249000))+x68)):Int).toNat (rd x249004 (wrap64 ((wrap64 (x9*x249002))+x68)))) x249000 x249001 x249002 x249003 x249004) else (none)) else (none)) else (none)) else (none)) else (bitmap_Draw.l1 k x43 x44 x45 x56 (wrap64 (x57+1)) x233000 x233001 x233002 x233003 x249000 x249001 x249002 x249003 x249004)
end
def bitmap_Draw.f (k : Nat) (a0_0 : Int) (a0_1 : Int) (l0_2 : List Int) (l0_3 : List Int) (a1_0 : Bool) (l1_1 : List Int) (l1_2 : List (S91)) : Option (Int × Int × List Int × List Int × Int) := (bitmap_sound.f k a0_0 a0_1 l0_2 l0_3).bind fun t235 => (if t235 = true then ((bitmap_Check.f k a1_0 l1_1 l1_2).bind fun t236 => (if t236 = 0 then ((slices_Clone_int_int.f l0_2).bind fun t237 => ((slices_Clone_int_int.f l0_3).bind fun t240 => (if a1_0 = true then ((bitmap_wipe.f k t240).bind fun t243 => (bitmap_Draw.j0 k a0_0 a0_1 t237 t243 a1_0 l1_1 l1_2)) else (bitmap_Draw.j0 k a0_0 a0_1 t237 t240 a1_0 l1_1 l1_2)))) else (some (0, 0, ([] : List Int), ([] : List Int), t236)))) else (some (0, 0, ([] : List Int), ([] : List Int), 4)))
theorem bitmap_Draw.mono_l:∀ k,(∀ y0 y1 y2 y3 y4 y5 y6,LeO (bitmap_Draw.j0 k y0 y1 y2 y3 y4 y5 y6) (bitmap_Draw.j0 (k+1) y0 y1 y2 y3 y4 y5 y6))∧(∀ y0 y1 y2 y3 y4 y5 y6,LeO (bitmap_Draw.j1 k y0 y1 y2 y3 y4 y5 y6) (bitmap_Draw.j1 (k+1) y0 y1 y2 y3 y4 y5 y6))∧(∀ y0 y1 y2 y3 y4 y5 y6,LeO (bitmap_Draw.l0 k y0 y1 y2 y3 y4 y5 y6) (bitmap_Draw.l0 (k+1) y0 y1 y2 y3 y4 y5 y6))∧(∀ y0 y1 y2 y3 y4 y5 y6 y7 y8 y9 y10 y11 y12 y13,LeO (bitmap_Draw.l1 k y0 y1 y2 y3 y4 y5 y6 y7 y8 y9 y10 y11 y12 y13) (bitmap_Draw.l1 (k+1) y0 y1 y2 y3 y4 y5 y6 y7 y8 y9 y10 y11 y12 y13))∧(∀ y0 y1 y2 y3 y4 y5 y6 y7 y8 y9 y10 y11 y12 y13 y14 y15 y16,LeO (bitmap_Draw.l2 k y0 y1 y2 y3 y4 y5 y6 y7 y8 y9 y10 y11 y12 y13 y14 y15 y16) (bitmap_Draw.l2 (k+1) y0 y1 y2 y3 y4 y5 y6 y7 y8 y9 y10 y11 y12 y13 y14 y15 y16))
 | 0=>⟨fun _ _ _ _ _ _ _ r h=>by simp [bitmap_Draw.j0] at h,fun _ _ _ _ _ _ _ r h=>by simp [bitmap_Draw.j1] at h,fun _ _ _ _ _ _ _ r h=>by simp [bitmap_Draw.l0] at h,fun _ _ _ _ _ _ _ _ _ _ _ _ _ _ r h=>by simp [bitmap_Draw.l1] at h,fun _ _ _ _ _ _ _ _ _ _ _ _ _ _ _ _ _ r h=>by simp [bitmap_Draw.l2] at h⟩
 | k+1=>by
  obtain ⟨ih0,ih1,ih2,ih3,ih4⟩:=bitmap_Draw.mono_l k
  refine ⟨?_,?_,?_,?_,?_⟩
  · intro y0 y1 y2 y3 y4 y5 y6
    unfold bitmap_Draw.j0
    repeat' first
    | (with_reducible exact ih0 _ _ _ _ _ _ _)
    | (with_reducible exact ih1 _ _ _ _ _ _ _)
    | (with_reducible exact ih2 _ _ _ _ _ _ _)
    | (with_reducible exact ih3 _ _ _ _ _ _ _ _ _ _ _ _ _ _)
    | (with_reducible exact ih4 _ _ _ _ _ _ _ _ _ _ _ _ _ _ _ _ _)
    | (with_reducible exact bitmap_Check.mono _ _ _ _)
    | (with_reducible exact bitmap_sound.mono _ _ _ _ _)
    | (with_reducible exact bitmap_wipe.mono _ _)
    | (with_reducible exact LeO.refl _)
    | (with_reducible exact LeO.none _)
    | (with_reducible refine LeO.ite ?_ ?_)
    | (with_reducible refine LeO.bind ?_ (fun _=>?_))
    | exact LeO.none _
    | refine LeO.ite ?_ ?_
    | refine LeO.bind ?_ (fun _=>?_)
  · intro y0 y1 y2 y3 y4 y5 y6
    unfold bitmap_Draw.j1
    repeat' first
    | (with_reducible exact ih0 _ _ _ _ _ _ _)
    | (with_reducible exact ih1 _ _ _ _ _ _ _)
    | (with_reducible exact ih2 _ _ _ _ _ _ _)
    | (with_reducible exact ih3 _ _ _ _ _ _ _ _ _ _ _ _ _ _)
    | (with_reducible exact ih4 _ _ _ _ _ _ _ _ _ _ _ _ _ _ _ _ _)
    | (with_reducible exact bitmap_Check.mono _ _ _ _)
    | (with_reducible exact bitmap_sound.mono _ _ _ _ _)
    | (with_reducible exact bitmap_wipe.mono _ _)
    | (with_reducible exact LeO.refl _)
    | (with_reducible exact LeO.none _)
    | (with_reducible refine LeO.ite ?_ ?_)
    | (with_reducible refine LeO.bind ?_ (fun _=>?_))
    | exact LeO.none _
    | refine LeO.ite ?_ ?_
    | refine LeO.bind ?_ (fun _=>?_)
  · intro y0 y1 y2 y3 y4 y5 y6
    unfold bitmap_Draw.l0
    repeat' first
    | (with_reducible exact ih0 _ _ _ _ _ _ _)
    | (with_reducible exact ih1 _ _ _ _ _ _ _)
    | (with_reducible exact ih2 _ _ _ _ _ _ _)
    | (with_reducible exact ih3 _ _ _ _ _ _ _ _ _ _ _ _ _ _)
    | (with_reducible exact ih4 _ _ _ _ _ _ _ _ _ _ _ _ _ _ _ _ _)
    | (with_reducible exact bitmap_Check.mono _ _ _ _)
    | (with_reducible exact bitmap_sound.mono _ _ _ _ _)
    | (with_reducible exact bitmap_wipe.mono _ _)
    | (with_reducible exact LeO.refl _)
    | (with_reducible exact LeO.none _)
    | (with_reducible refine LeO.ite ?_ ?_)
    | (with_reducible refine LeO.bind ?_ (fun _=>?_))
    | exact LeO.none _
    | refine LeO.ite ?_ ?_
    | refine LeO.bind ?_ (fun _=>?_)
  · intro y0 y1 y2 y3 y4 y5 y6 y7 y8 y9 y10 y11 y12 y13
    unfold bitmap_Draw.l1
    repeat' first
    | (with_reducible exact ih0 _ _ _ _ _ _ _)
    | (with_reducible exact ih1 _ _ _ _ _ _ _)
    | (with_reducible exact ih2 _ _ _ _ _ _ _)
    | (with_reducible exact ih3 _ _ _ _ _ _ _ _ _ _ _ _ _ _)
    | (with_reducible exact ih4 _ _ _ _ _ _ _ _ _ _ _ _ _ _ _ _ _)
    | (with_reducible exact bitmap_Check.mono _ _ _ _)
    | (with_reducible exact bitmap_sound.mono _ _ _ _ _)
    | (with_reducible exact bitmap_wipe.mono _ _)
    | (with_reducible exact LeO.refl _)
    | (with_reducible exact LeO.none _)
    | (with_reducible refine LeO.ite ?_ ?_)
    | (with_reducible refine LeO.bind ?_ (fun _=>?_))
    | exact LeO.none _
    | refine LeO.ite ?_ ?_
    | refine LeO.bind ?_ (fun _=>?_)
  intro y0 y1 y2 y3 y4 y5 y6 y7 y8 y9 y10 y11 y12 y13 y14 y15 y16
  unfold bitmap_Draw.l2
  repeat' first
  | (with_reducible exact ih0 _ _ _ _ _ _ _)
  | (with_reducible exact ih1 _ _ _ _ _ _ _)
  | (with_reducible exact ih2 _ _ _ _ _ _ _)
  | (with_reducible exact ih3 _ _ _ _ _ _ _ _ _ _ _ _ _ _)
  | (with_reducible exact ih4 _ _ _ _ _ _ _ _ _ _ _ _ _ _ _ _ _)
  | (with_reducible exact bitmap_Check.mono _ _ _ _)
  | (with_reducible exact bitmap_sound.mono _ _ _ _ _)
  | (with_reducible exact bitmap_wipe.mono _ _)
  | (with_reducible exact LeO.refl _)
  | (with_reducible exact LeO.none _)
  | (with_reducible refine LeO.ite ?_ ?_)
  | (with_reducible refine LeO.bind ?_ (fun _=>?_))
  | exact LeO.none _
  | refine LeO.ite ?_ ?_
  | refine LeO.bind ?_ (fun _=>?_)
theorem bitmap_Draw.mono:∀ a0 a1 a2 a3 a4 a5 a6 k,LeO (bitmap_Draw.f k a0 a1 a2 a3 a4 a5 a6) (bitmap_Draw.f (k+1) a0 a1 a2 a3 a4 a5 a6):=by
 intro a0 a1 a2 a3 a4 a5 a6 k
 obtain ⟨ih0,ih1,ih2,ih3,ih4⟩:=bitmap_Draw.mono_l k
 unfold bitmap_Draw.f
 repeat' first
  | (with_reducible exact ih0 _ _ _ _ _ _ _)
  | (with_reducible exact ih1 _ _ _ _ _ _ _)
  | (with_reducible exact ih2 _ _ _ _ _ _ _)
  | (with_reducible exact ih3 _ _ _ _ _ _ _ _ _ _ _ _ _ _)
  | (with_reducible exact ih4 _ _ _ _ _ _ _ _ _ _ _ _ _ _ _ _ _)
  | (with_reducible exact bitmap_Check.mono _ _ _ _)
  | (with_reducible exact bitmap_sound.mono _ _ _ _ _)
  | (with_reducible exact bitmap_wipe.mono _ _)
  | (with_reducible exact LeO.refl _)
  | (with_reducible exact LeO.none _)
  | (with_reducible refine LeO.ite ?_ ?_)
  | (with_reducible refine LeO.bind ?_ (fun _=>?_))
  | exact LeO.none _
  | refine LeO.ite ?_ ?_
  | refine LeO.bind ?_ (fun _=>?_)
def bitmap_Draw.T6 : Bool × List (List Nat × List Nat) := (true, [([], []), ([0], [0]), ([1], [1]), ([], []), ([3], [3]), ([4, 2], [4]), ([0, 1, 2, 3, 4], []), ([6, 2, 5, 0, 1, 2, 3, 4], [2, 6]), ([0, 1, 2, 3, 4, 5, 6, 7], []), ([8, 5, 7, 0, 1, 2, 3, 4, 5, 6, 7], [5, 8])])
def bitmap_Draw.B6 : List Nat := [0, 1, 3, 0, 8, 31, 31, 127, 255, 511]
theorem bitmap_Draw.tab6:rtab .any (opsOf Try.f30 6)=bitmap_Draw.T6:=by kernel_rfl
theorem bitmap_Draw.bits6:waitsOk bitmap_Draw.T6.2 bitmap_Draw.B6=true:=by kernel_rfl
def bitmap_Draw.T20 : Bool × List (List Nat × List Nat) := (true, [([], []), ([0], [0]), ([], []), ([2], [2]), ([], []), ([3, 4], [3, 4]), ([], []), ([6], [6]), ([5, 7], [5, 7]), ([], []), ([9], [9]), ([8, 10], [8, 10]), ([], []), ([11, 12], [11, 12]), ([], []), ([14], [14]), ([], []), ([], []), ([17], [17]), ([16, 18], [16, 18]), ([], []), ([19, 20], [19, 20]), ([15, 21], [15, 21]), ([22], [22]), ([1, 13, 0, 1, 2, 3, 4, 5, 6, 7, 8, 9, 10, 11, 12, 13, 14, 15, 16, 17, 18, 19, 20, 21, 22, 23], [1, 13]), ([24, 23, 0, 1, 2, 3, 4, 5, 6, 7, 8, 9, 10, 11, 12, 13, 14, 15, 16, 17, 18, 19, 20, 21, 22, 23], [23, 24])])
def bitmap_Draw.B20 : List Nat := [0, 1, 0, 4, 0, 28, 0, 64, 252, 0, 512, 2044, 0, 8188, 0, 16384, 0, 0, 131072, 458752, 0, 2031616, 4177920, 8372224, 16777215, 33554431]
theorem bitmap_Draw.tab20:rtab .any (opsOf Try.f30 20)=bitmap_Draw.T20:=by kernel_rfl
theorem bitmap_Draw.bits20:waitsOk bitmap_Draw.T20.2 bitmap_Draw.B20=true:=by kernel_rfl
set_option maxHeartbeats 8000000 in
set_option maxRecDepth 100000 in
theorem bitmap_Draw.calls (k:Nat) (a0_0:Int) (a0_1:Int) (A0_2:Option Addr) (c0_2:Nat) (l0_2:List Int) (A0_3:Option Addr) (c0_3:Nat) (l0_3:List Int) (a1_0:Bool) (A1_1:Option Addr) (c1_1:Nat) (l1_1:List Int) (A1_2:Option Addr) (c1_2:Nat) (l1_2:List (S91)) (r1:Int) (r2:Int) (r3:List Int) (r4:List Int) (r5:Int) (w:World) (hr0_2:Kd.C (Kd.int .i64) w A0_2 l0_2.length l0_2) (hc0_2:l0_2.length≤c0_2) (hr0_3:Kd.C (Kd.int .i64) w A0_3 l0_3.length l0_3) (hc0_3:l0_3.length≤c0_3) (hr1_1:Kd.C (Kd.int .i64) w A1_1 l1_1.length l1_1) (hc1_1:l1_1.length≤c1_1) (hr1_2:Kd.C k91 w A1_2 l1_2.length l1_2) (hc1_2:l1_2.length≤c1_2) (h:bitmap_Draw.f k a0_0 a0_1 l0_2 l0_3 a1_0 l1_1 l1_2=some (r1,r2,r3,r4,r5)) :
 Calls Try.prog 30 #[.agg #[.int .i64 a0_0,.int .i64 a0_1,.slice A0_2 l0_2.length c0_2,.slice A0_3 l0_3.length c0_3],.agg #[.bool a1_0,.slice A1_1 l1_1.length c1_1,.slice A1_2 l1_2.length c1_2]] w fun e w'=>∃ v2_ v3_:Value,e=.returned (.tuple #[.agg #[.int .i64 r1,.int .i64 r2,v2_,v3_],.int .i64 r5])∧Kd.R (Kd.int .i64) 3 w' w.heap.size (fun k_=>some k_≠(v3_:Value).ownBlock) v2_ r3∧Kd.R (Kd.int .i64) 3 w' w.heap.size (fun k_=>some k_≠(v2_:Value).ownBlock) v3_ r4∧Below w.heap.size w w':=by
 have hu38:=Try.underlying38
 have hu51:=Try.underlying51
 have hu91:=Try.underlying91
 have HR0_2:=Aside0.mk hr0_2
 have HC0_2:=Aside0.mk hc0_2;clear hr0_2 hc0_2
 have HR0_3:=Aside0.mk hr0_3
 have HC0_3:=Aside0.mk hc0_3;clear hr0_3 hc0_3
 have HR1_1:=Aside0.mk hr1_1
 have HC1_1:=Aside0.mk hc1_1;clear hr1_1 hc1_1
 have HR1_2:=Aside0.mk hr1_2
 have HC1_2:=Aside0.mk hc1_2;clear hr1_2 hc1_2;have HB:=Aside0.mk (Below.refl w.heap.size w)
 have H:((bitmap_sound.f k a0_0 a0_1 l0_2 l0_3).bind fun t235=>(if t235=true then ((bitmap_Check.f k a1_0 l1_1 l1_2).bind fun t236=>(if t236=0 then ((slices_Clone_int_int.f l0_2).bind fun t237=>((slices_Clone_int_int.f l0_3).bind fun t240=>(if a1_0=true then ((bitmap_wipe.f k t240).bind fun t243=>(bitmap_Draw.j0 k a0_0 a0_1 t237 t243 a1_0 l1_1 l1_2)) else (bitmap_Draw.j0 k a0_0 a0_1 t237 t240 a1_0 l1_1 l1_2)))) else (some (0,0,([]:List Int),([]:List Int),t236)))) else (some (0,0,([]:List Int),([]:List Int),4))))=some (r1,r2,r3,r4,r5):=h
 clear h
 replace H:=Option.bind_eq_some_iff.mp H
 obtain ⟨t235,A30,H⟩:=H
 replace H:(if t235=true then ((bitmap_Check.f k a1_0 l1_1 l1_2).bind fun t236=>(if t236=0 then ((slices_Clone_int_int.f l0_2).bind fun t237=>((slices_Clone_int_int.f l0_3).bind fun t240=>(if a1_0=true then ((bitmap_wipe.f k t240).bind fun t243=>(bitmap_Draw.j0 k a0_0 a0_1 t237 t243 a1_0 l1_1 l1_2)) else (bitmap_Draw.j0 k a0_0 a0_1 t237 t240 a1_0 l1_1 l1_2)))) else (some (0,0,([]:List Int),([]:List Int),t236)))) else (some (0,0,([]:List Int),([]:List Int),4)))=some (r1,r2,r3,r4,r5):=H
 have A3:=Aside0.mk A30;clear A30
 by_cases c4:t235=true
 · subst c4
   have H1:((bitmap_Check.f k a1_0 l1_1 l1_2).bind fun t236=>(if t236=0 then ((slices_Clone_int_int.f l0_2).bind fun t237=>((slices_Clone_int_int.f l0_3).bind fun t240=>(if a1_0=true then ((bitmap_wipe.f k t240).bind fun t243=>(bitmap_Draw.j0 k a0_0 a0_1 t237 t243 a1_0 l1_1 l1_2)) else (bitmap_Draw.j0 k a0_0 a0_1 t237 t240 a1_0 l1_1 l1_2)))) else (some (0,0,([]:List Int),([]:List Int),t236))))=some (r1,r2,r3,r4,r5):=by rw [if_pos rfl] at H;exact H
   clear H
   have H:=H1;clear H1
   replace H:=Option.bind_eq_some_iff.mp H
   obtain ⟨t236,A50,H⟩:=H
   replace H:(if t236=0 then ((slices_Clone_int_int.f l0_2).bind fun t237=>((slices_Clone_int_int.f l0_3).bind fun t240=>(if a1_0=true then ((bitmap_wipe.f k t240).bind fun t243=>(bitmap_Draw.j0 k a0_0 a0_1 t237 t243 a1_0 l1_1 l1_2)) else (bitmap_Draw.j0 k a0_0 a0_1 t237 t240 a1_0 l1_1 l1_2)))) else (some (0,0,([]:List Int),([]:List Int),t236)))=some (r1,r2,r3,r4,r5):=H
   have A5:=Aside0.mk A50;clear A50
   by_cases c6:t236=0
   · rw [if_pos c6] at H
     have c6b0:(t236 == 0)=true:=beq_iff_eq.mpr c6
     have c6b1:(t236 != 0)=false:=bne_eq_false_iff_eq.mpr c6;clear c6
     replace H:=Option.bind_eq_some_iff.mp H
     obtain ⟨t237,A70,H⟩:=H
     replace H:((slices_Clone_int_int.f l0_3).bind fun t240=>(if a1_0=true then ((bitmap_wipe.f k t240).bind fun t243=>(bitmap_Draw.j0 k a0_0 a0_1 t237 t243 a1_0 l1_1 l1_2)) else (bitmap_Draw.j0 k a0_0 a0_1 t237 t240 a1_0 l1_1 l1_2)))=some (r1,r2,r3,r4,r5):=H
     have A7:=Aside0.mk A70;clear A70
     replace H:=Option.bind_eq_some_iff.mp H
     obtain ⟨t240,A80,H⟩:=H
     replace H:(if a1_0=true then ((bitmap_wipe.f k t240).bind fun t243=>(bitmap_Draw.j0 k a0_0 a0_1 t237 t243 a1_0 l1_1 l1_2)) else (bitmap_Draw.j0 k a0_0 a0_1 t237 t240 a1_0 l1_1 l1_2))=some (r1,r2,r3,r4,r5):=H
     have A8:=Aside0.mk A80;clear A80
     have HC9:=Aside0.mk H;clear H
     go_enter Try.func30,Try.ntmps30
     try go_wp2_with (first|((with_reducible refine gate_dst (N:=2) rfl ?_);refine box_event ?hg (N:=2) ?hd (cs:=#[.int .i64 a0_0,.int .i64 a0_1,.slice A0_2 l0_2.length c0_2,.slice A0_3 l0_3.length c0_3]) (t:=38) ?hr ?_;(case hd=>rfl);(case hg=>rfl);(case hr=>first|(go_simp;done)|(go_simp;rfl));intro gb232 hg w10 hbox hb;have n0_:=Aside0.mk (below_step (belV HB.out) hb);have n1_:=Aside0.mk (hbox);have n2_:=Aside0.mk ((by rw [hg];exact (below_size (belV HB.out)):w.heap.size≤gb232));have n3_:=Aside0.mk ((by rw [hg];exact (below_size (belV HB.out)):w.heap.size≤gb232));clear HB;have HB:=n0_;have BK232:=n1_;have GW232:=n2_;have GE232:=n3_;clear n0_ n1_ n2_ n3_;clear hb hbox hg)|((with_reducible refine gate_dst (N:=3) rfl ?_);refine box_event ?hg (N:=3) ?hd (cs:=#[.bool a1_0,.slice A1_1 l1_1.length c1_1,.slice A1_2 l1_2.length c1_2]) (t:=51) ?hr ?_;(case hd=>rfl);(case hg=>rfl);(case hr=>first|(go_simp;done)|(go_simp;rfl));intro gb233 hg w11 hbox hb;have n0_:=Aside0.mk (blk_below (g:=gb232) (blkV BK232.out) hb);have n1_:=Aside0.mk (below_step (belV1 HB.out GE232.out) hb);have n2_:=Aside0.mk (hbox);have n3_:=Aside0.mk ((by rw [hg];exact (below_size (belV1 HB.out GE232.out)):w.heap.size≤gb233));have n4_:=Aside0.mk ((by rw [hg];exact (below_size (belV1 HB.out GE232.out)):w.heap.size≤gb233));have n5_:=Aside0.mk ((by rw [hg];exact Nat.ne_of_lt (blk_lt (g:=gb232) (blkV BK232.out)):gb232≠gb233));have n6_:=Aside0.mk ((by rw [hg];exact Nat.ne_of_gt (blk_lt (g:=gb232) (blkV BK232.out)):gb233≠gb232));clear BK232;clear HB;have BK232:=n0_;have HB:=n1_;have BK233:=n2_;have GW233:=n3_;have GE233:=n4_;have NB232_233:=n5_;have NB233_232:=n6_;clear n0_ n1_ n2_ n3_ n4_ n5_ n6_;clear hb hbox hg)|((with_reducible refine gate_dst (N:=4) rfl ?_);refine box_event ?hg (N:=4) ?hd (cs:=#[.int .i64 0,.int .i64 0,.slice none 0 0,.slice none 0 0]) (t:=38) ?hr ?_;(case hd=>rfl);(case hg=>rfl);(case hr=>first|(go_simp;done)|(go_simp;rfl));intro gb234 hg w12 hbox hb;have n0_:=Aside0.mk (blk_below (g:=gb232) (blkV BK232.out) hb);have n1_:=Aside0.mk (blk_below (g:=gb233) (blkV BK233.out) hb);have n2_:=Aside0.mk (below_step (belV2 HB.out GE232.out GE233.out) hb);have n3_:=Aside0.mk (hbox);have n4_:=Aside0.mk ((by rw [hg];exact (below_size (belV2 HB.out GE232.out GE233.out)):w.heap.size≤gb234));have n5_:=Aside0.mk ((by rw [hg];exact (below_size (belV2 HB.out GE232.out GE233.out)):w.heap.size≤gb234));have n6_:=Aside0.mk ((by rw [hg];exact Nat.ne_of_lt (blk_lt (g:=gb232) (blkV BK232.out)):gb232≠gb234));have n7_:=Aside0.mk ((by rw [hg];exact Nat.ne_of_gt (blk_lt (g:=gb232) (blkV BK232.out)):gb234≠gb232));have n8_:=Aside0.mk ((by rw [hg];exact Nat.ne_of_lt (blk_lt (g:=gb233) (blkV BK233.out)):gb233≠gb234));have n9_:=Aside0.mk ((by rw [hg];exact Nat.ne_of_gt (blk_lt (g:=gb233) (blkV BK233.out)):gb234≠gb233));clear BK232;clear BK233;clear HB;have BK232:=n0_;have BK233:=n1_;have HB:=n2_;have BK234:=n3_;have GW234:=n4_;have GE234:=n5_;have NB232_234:=n6_;have NB234_232:=n7_;have NB233_234:=n8_;have NB234_233:=n9_;clear n0_ n1_ n2_ n3_ n4_ n5_ n6_ n7_ n8_ n9_;clear hb hbox hg;have hnb13:=NB232_233.out;have hnc13:=NB233_232.out;have hnb14:=NB232_234.out;have hnc14:=NB234_232.out;obtain ⟨hcz15_0,hcz15_1,hcz15_2,hcz15_3,hfz15_0,hfz15_1,hfz15_2,hfz15_3⟩:=bcells4 BK232.out)|((with_reducible refine gate_callee (f:=65) rfl ?_);refine goesL_ (some 12) rfl rfl Try.func65 (by kernel_rfl) rfl #[.agg #[.int .i64 a0_0,.int .i64 a0_1,.slice A0_2 l0_2.length c0_2,.slice A0_3 l0_3.length c0_3]] rfl (by (try simp only [List.map_toArray,List.map_cons,List.map_nil]);first|done|rfl|(simp only [List.length_drop,List.length_take];rfl)) ?_;(with_reducible refine (bitmap_sound.calls k a0_0 a0_1 _ _ l0_2 _ _ l0_3 true _ ?side1 ?side2 ?side3 ?side4 A3.out).mono ?_);(case side1=>exact cV (Kd.C_below HR0_2.out HB.out));(case side2=>exact HC0_2.out);(case side3=>exact cV (Kd.C_below HR0_3.out HB.out));(case side4=>exact HC0_3.out);rintro e w16 ⟨rfl,hb⟩;refine ⟨_,rfl,?_⟩;have n0_:=Aside0.mk (blk_below (g:=gb232) (blkV BK232.out) hb);have n1_:=Aside0.mk (blk_below (g:=gb233) (blkV BK233.out) hb);have n2_:=Aside0.mk (blk_below (g:=gb234) (blkV BK234.out) hb);have n3_:=Aside0.mk (below_step (belV3 HB.out GE232.out GE233.out GE234.out) hb);clear BK232;clear BK233;clear BK234;clear HB;have BK232:=n0_;have BK233:=n1_;have BK234:=n2_;have HB:=n3_;clear n0_ n1_ n2_ n3_;(try clear hb);(try clear hb2);(try clear hk);(try clear hi);have hnb17:=NB233_234.out;have hnc17:=NB234_233.out;obtain ⟨hcz18_0,hcz18_1,hcz18_2,hfz18_0,hfz18_1,hfz18_2⟩:=bcells3 BK233.out)|((with_reducible refine gate_callee (f:=39) rfl ?_);refine goesL_ (some 16) rfl rfl Try.func39 (by kernel_rfl) rfl #[.agg #[.bool a1_0,.slice A1_1 l1_1.length c1_1,.slice A1_2 l1_2.length c1_2]] rfl (by (try simp only [List.map_toArray,List.map_cons,List.map_nil]);first|done|rfl|(simp only [List.length_drop,List.length_take];rfl)) ?_;(with_reducible refine (bitmap_Check.calls k a1_0 _ _ l1_1 _ _ l1_2 t236 _ ?side1 ?side2 ?side3 ?side4 A5.out).mono ?_);(case side1=>exact cV (Kd.C_below HR1_1.out HB.out));(case side2=>exact HC1_1.out);(case side3=>exact cV (Kd.C_below HR1_2.out HB.out));(case side4=>exact HC1_2.out);rintro e w19 ⟨rfl,hb⟩;refine ⟨_,rfl,?_⟩;have n0_:=Aside0.mk (blk_below (g:=gb232) (blkV BK232.out) hb);have n1_:=Aside0.mk (blk_below (g:=gb233) (blkV BK233.out) hb);have n2_:=Aside0.mk (blk_below (g:=gb234) (blkV BK234.out) hb);have n3_:=Aside0.mk (below_step (belV3 HB.out GE232.out GE233.out GE234.out) hb);clear BK232;clear BK233;clear BK234;clear HB;have BK232:=n0_;have BK233:=n1_;have BK234:=n2_;have HB:=n3_;clear n0_ n1_ n2_ n3_;(try clear hb);(try clear hb2);(try clear hk);(try clear hi)))
     have n0_:=Aside0.mk (blk_drew BK232.out)
     have n1_:=Aside0.mk (blk_drew BK233.out)
     have n2_:=Aside0.mk (blk_drew BK234.out)
     have n3_:=Aside0.mk (below_drew1 HB.out);clear BK232;clear BK233;clear BK234;clear HB;have BK232:=n0_;have BK233:=n1_;have BK234:=n2_;have HB:=n3_;clear n0_ n1_ n2_ n3_
     refine start_ (n:=10) (S:=fun w'=>w'.cell? ⟨gb232,0,none⟩=some (.int .i64 a0_0)∧w'.cell? ⟨gb232,1,none⟩=some (.int .i64 a0_1)∧w'.cell? ⟨gb232,2,none⟩=some (.slice A0_2 l0_2.length c0_2)∧w'.cell? ⟨gb232,3,none⟩=some (.slice A0_3 l0_3.length c0_3)) (ds:=[7,9]) ((bm false [10]).toArray) (by kernel_rfl) rfl rfl ⟨(blk_cell BK232.out 0).trans rfl,(blk_cell BK232.out 1).trans rfl,(blk_cell BK232.out 2).trans rfl,(blk_cell BK232.out 3).trans rfl⟩ (fun hHeld=>?_);refine with_tabW bitmap_Draw.tab6 bitmap_Draw.bits6 (fun HT_ HW_=>?_)
     generalize w19.drew=w20 at BK232 BK233 BK234 HB hHeld ⊢
     refine pure_ (i:=0) (N:=some 21) (v:=?_) (a':=?_) ((bm true [1,9]).toArray) rfl rfl (any_of HT_.out (by kernel_rfl)) (fun _ _ _ h=>h) (Or.inl ⟨by rfl,?_⟩) ?_ ?_;rotate_left
     · intro w';go_simp;with_reducible rfl
     rotate_left
     · simp only [Act.put,List.setIfInBounds_toArray,List.set_cons_zero,List.set_cons_succ,i64_w,i32_w];rfl
     refine pure_ (i:=3) (N:=some 24) (v:=?_) (a':=?_) ((bm true [1,2,1,6]).toArray) rfl rfl (any_of HT_.out (by kernel_rfl)) (fun _ _ _ h=>h) (Or.inl ⟨by rfl,?_⟩) ?_ ?_;rotate_left
     · intro w';go_simp;with_reducible rfl
     rotate_left
     · simp only [Act.put,List.setIfInBounds_toArray,List.set_cons_zero,List.set_cons_succ,i64_w,i32_w];rfl
     refine take_ (i:=1) (N:=some 22) (v:=?_) (a':=?_) ((bm true [2,1,1,6]).toArray) rfl rfl (take_ofW HT_.out HW_.out (by kernel_rfl)) (fun _ _ _ h=>h) (Or.inl ⟨by rfl,?_⟩) hHeld ?_ ?_;rotate_left
     · rintro w' ⟨s0,s1,s2,s3⟩
       go_simp;with_reducible rfl
     rotate_left
     · simp only [Act.put,List.setIfInBounds_toArray,List.set_cons_zero,List.set_cons_succ,i64_w,i32_w];rfl
     refine take_ (i:=4) (N:=some 25) (v:=?_) (a':=?_) ((bm true [2,1,2,5]).toArray) rfl rfl (take_ofW HT_.out HW_.out (by kernel_rfl)) (fun _ _ _ h=>h) (Or.inl ⟨by rfl,?_⟩) hHeld ?_ ?_;rotate_left
     · rintro w' ⟨s0,s1,s2,s3⟩
       go_simp;with_reducible rfl
     rotate_left
     · simp only [Act.put,List.setIfInBounds_toArray,List.set_cons_zero,List.set_cons_succ,i64_w,i32_w];rfl
     refine one_ (i:=2) (N:=some 23) ((bm true [5,5]).toArray) rfl rfl (one_of HT_.out (by kernel_rfl)) (by decide) (fun K hK=>?_)
     refine goes_ Try.func66 (by kernel_rfl) rfl #[.slice A0_2 l0_2.length c0_2] (by rfl) rfl rfl (by (try simp only [List.map_toArray,List.map_cons,List.map_nil]);first|done|rfl|(simp only [List.length_drop,List.length_take];rfl)) ?_
     with_reducible refine (slices_Clone_int_int.calls _ _ l0_2 t237 _ ?side1 ?side2 A7.out).mono ?_
     (case side1=>exact cV (Kd.C_below HR0_2.out HB.out))
     (case side2=>exact HC0_2.out)
     rintro e w21 ⟨v238,rfl,ho0,hb⟩
     refine ⟨_,rfl,?_⟩
     have n0_:=Aside0.mk (Kd.R_lower ho0 (below_size (belV3 HB.out GE232.out GE233.out GE234.out)))
     have n1_:=Aside0.mk (blk_below (g:=gb232) (blkV BK232.out) hb)
     have n2_:=Aside0.mk (blk_below (g:=gb233) (blkV BK233.out) hb)
     have n3_:=Aside0.mk (blk_below (g:=gb234) (blkV BK234.out) hb)
     have n4_:=Aside0.mk (below_step (belV3 HB.out GE232.out GE233.out GE234.out) hb);clear BK232;clear BK233;clear BK234;clear HB;have HO239:=n0_;have BK232:=n1_;have BK233:=n2_;have BK234:=n3_;have HB:=n4_;clear n0_ n1_ n2_ n3_ n4_
     (try clear hb)
     (try clear hb2)
     (try clear hk)
     (try clear hi)
     (try clear ho0)
     refine hK.out _ _ ⟨(blk_cell BK232.out 0).trans rfl,(blk_cell BK232.out 1).trans rfl,(blk_cell BK232.out 2).trans rfl,(blk_cell BK232.out 3).trans rfl⟩ (fun hHeld=>?_);clear hK K
     refine norm_ (a':=?_) ?_ ?_;rotate_left
     · show Act.put _ (some 23) _=_
       simp only [Act.put,List.setIfInBounds_toArray,List.set_cons_zero,List.set_cons_succ,i64_w,i32_w];rfl
     refine pure_ (i:=6) (N:=some 27) (v:=?_) (a':=?_) ((bm true [5,1,1,3]).toArray) rfl rfl (any_of HT_.out (by kernel_rfl)) (fun _ _ _ h=>h) (Or.inl ⟨by rfl,?_⟩) ?_ ?_;rotate_left
     · intro w';go_simp;with_reducible rfl
     rotate_left
     · simp only [Act.put,List.setIfInBounds_toArray,List.set_cons_zero,List.set_cons_succ,i64_w,i32_w];rfl
     refine one_ (i:=5) (N:=some 26) ((bm true [7,3]).toArray) rfl rfl (one_of HT_.out (by kernel_rfl)) (by decide) (fun K hK=>?_)
     refine goes_ Try.func66 (by kernel_rfl) rfl #[.slice A0_3 l0_3.length c0_3] (by rfl) rfl rfl (by (try simp only [List.map_toArray,List.map_cons,List.map_nil]);first|done|rfl|(simp only [List.length_drop,List.length_take];rfl)) ?_
     with_reducible refine (slices_Clone_int_int.calls _ _ l0_3 t240 _ ?side1 ?side2 A8.out).mono ?_
     (case side1=>exact cV (Kd.C_below HR0_3.out HB.out))
     (case side2=>exact HC0_3.out)
     rintro e w22 ⟨v241,rfl,ho0,hb⟩
     refine ⟨_,rfl,?_⟩
     have n0_:=Aside0.mk (Kd.R_elder' (rowV HO239.out) (Kd.R_base ho0) hb)
     have n1_:=Aside0.mk (Kd.R_lower (Kd.R_new' ho0 (Kd.R_lt (rowV HO239.out))) (below_size (belV3 HB.out GE232.out GE233.out GE234.out)))
     have n2_:=Aside0.mk (blk_below (g:=gb232) (blkV BK232.out) hb)
     have n3_:=Aside0.mk (blk_below (g:=gb233) (blkV BK233.out) hb)
     have n4_:=Aside0.mk (blk_below (g:=gb234) (blkV BK234.out) hb)
     have n5_:=Aside0.mk (below_step (belV3 HB.out GE232.out GE233.out GE234.out) hb);clear HO239;clear BK232;clear BK233;clear BK234;clear HB;have HO239:=n0_;have HO242:=n1_;have BK232:=n2_;have BK233:=n3_;have BK234:=n4_;have HB:=n5_;clear n0_ n1_ n2_ n3_ n4_ n5_
     (try clear hb)
     (try clear hb2)
     (try clear hk)
     (try clear hi)
     (try clear ho0)
     obtain ⟨Ao23,co23,eo23⟩:=Kd.R_slice HO239.out
     (first|subst eo23|(injection eo23 with f1_ f2_ f3_;have f4_:=f1_.symm;have f5_:=f3_.symm;clear f1_ f2_ f3_;subst f4_;subst f5_))
     obtain ⟨Ao25,co25,eo25⟩:=Kd.R_slice HO242.out
     (first|subst eo25|(injection eo25 with f1_ f2_ f3_;have f4_:=f1_.symm;have f5_:=f3_.symm;clear f1_ f2_ f3_;subst f4_;subst f5_))
     refine hK.out _ _ ⟨(blk_cell BK232.out 0).trans rfl,(blk_cell BK232.out 1).trans rfl,(blk_cell BK232.out 2).trans rfl,(blk_cell BK232.out 3).trans rfl⟩ (fun hHeld=>?_);clear hK K
     refine norm_ (a':=?_) ?_ ?_;rotate_left
     · show Act.put _ (some 26) _=_
       simp only [Act.put,List.setIfInBounds_toArray,List.set_cons_zero,List.set_cons_succ,i64_w,i32_w];rfl
     refine last_ (i:=7) (N:=none) ((bm true [8,2]).toArray) rfl rfl (one_of HT_.out (by kernel_rfl)) (by decide) (fun K hK=>?_)
     have hs24:w22.cell? ⟨gb232,2,none⟩=some (.slice A0_2 l0_2.length c0_2):=(blk_cell BK232.out 2).trans rfl
     have hfs24:=blk_frozen BK232.out 2
     have hns24_1:=NB233_232.out
     have hns24_2:=NB234_232.out
     have hms24_1:=NB232_233.out
     have hms24_2:=NB232_234.out
     refine skip_ (w1:=?_) (by rfl) rfl ?_ ?_;rotate_left
     · go_simp;rfl
     refine hK.out _ _ ?_;clear hK K
     refine pure_ (i:=8) (N:=some 28) (v:=?_) (a':=?_) ((bm true [9,1]).toArray) rfl rfl (any_of HT_.out (by kernel_rfl)) (fun _ _ _ h=>h) (Or.inl ⟨by rfl,?_⟩) ?_ ?_;rotate_left
     · intro w';go_simp;with_reducible rfl
     rotate_left
     · simp only [Act.put,List.setIfInBounds_toArray,List.set_cons_zero,List.set_cons_succ,i64_w,i32_w];rfl
     refine last_ (i:=9) (N:=none) ((bm true [10]).toArray) rfl rfl (one_of HT_.out (by kernel_rfl)) (by decide) (fun K hK=>?_)
     have hs26:w22.cell? ⟨gb232,3,none⟩=some (.slice A0_3 l0_3.length c0_3):=(blk_cell BK232.out 3).trans rfl
     have hfs26:=blk_frozen BK232.out 3
     have hns26_1:=NB233_232.out
     have hns26_2:=NB234_232.out
     have hms26_1:=NB232_233.out
     have hms26_2:=NB232_234.out
     refine skip_ (w1:=?_) (by rfl) rfl ?_ ?_;rotate_left
     · go_simp;rfl
     refine hK.out _ _ ?_;clear hK K
     refine done_ (done_of HT_.out (by kernel_rfl)) ?_
     obtain ⟨hcz27_0,hcz27_1,hcz27_2,hfz27_0,hfz27_1,hfz27_2⟩:=bcells3 BK233.out
     go_upto_if 30 with (fail)
     go_cut [] (fun wc=>∃ (kq:Nat) (x233002_8:List Int) (x233003_8:List Int) (u233002:Value) (u233003:Value),Aside0 (bitmap_Draw.j0 kq a0_0 a0_1 x233002_8 x233003_8 a1_0 l1_1 l1_2=some (r1,r2,r3,r4,r5))∧Aside0 (kq≤k)∧Aside0 (Kd.R (Kd.int .i64) 3 wc w.heap.size (fun k_=>some k_≠(u233003:Value).ownBlock) u233002 x233002_8)∧Aside0 (Kd.R (Kd.int .i64) 3 wc w.heap.size (fun k_=>some k_≠(u233002:Value).ownBlock) u233003 x233003_8)∧Aside0 (wc.heap[gb232]?=some (.cells #[.int .i64 a0_0,.int .i64 a0_1,u233002,u233003] 38 (0,0)))∧Aside0 (wc.heap[gb233]?=some (.cells #[.bool a1_0,(.slice A1_1 l1_1.length c1_1),(.slice A1_2 l1_2.length c1_2)] 51 (0,0)))∧Aside0 (wc.heap[gb234]?=some (.cells #[.int .i64 0,.int .i64 0,(.slice none 0 0),(.slice none 0 0)] 38 (0,0)))∧Aside0 (Below w.heap.size w wc))
     case first =>
      have H:=HC9.out;clear HC9
      by_cases c28:a1_0=true
      · subst c28
        have H1:((bitmap_wipe.f k t240).bind fun t243=>(bitmap_Draw.j0 k a0_0 a0_1 t237 t243 true l1_1 l1_2))=some (r1,r2,r3,r4,r5):=by rw [if_pos rfl] at H;exact H
        clear H
        have H:=H1;clear H1
        replace H:=Option.bind_eq_some_iff.mp H
        obtain ⟨t243,A290,H⟩:=H
        replace H:(bitmap_Draw.j0 k a0_0 a0_1 t237 t243 true l1_1 l1_2)=some (r1,r2,r3,r4,r5):=H
        have A29:=Aside0.mk A290;clear A290
        have H':=Aside0.mk H;clear H
        have hnb30:=NB232_233.out
        have hnc30:=NB233_232.out
        have hnb31:=NB232_234.out
        have hnc31:=NB234_232.out
        obtain ⟨hcz32_0,hcz32_1,hcz32_2,hcz32_3,hfz32_0,hfz32_1,hfz32_2,hfz32_3⟩:=bcells4 BK232.out
        try go_wp2_with fail
        have n0_:Aside0 (Kd.R (Kd.int .i64) 3 ((w22.setCell ⟨gb232,2,none⟩ (.slice Ao23 t237.length co23)).setCell ⟨gb232,3,none⟩ (.slice Ao25 t240.length co25)) w.heap.size (fun k_=>some k_≠(.slice Ao25 t240.length co25:Value).ownBlock) (.slice Ao23 t237.length co23) t237):=⟨by (with_reducible repeat (first|apply Kd.R_alloc|apply Kd.R_drewN|apply Kd.R_drew));exact Kd.R_mono (Kd.R_put2 HO239.out BK232.out (by decide)) (fun _ hk=>hk.1.2)⟩
        have n1_:Aside0 (Kd.R (Kd.int .i64) 3 ((w22.setCell ⟨gb232,2,none⟩ (.slice Ao23 t237.length co23)).setCell ⟨gb232,3,none⟩ (.slice Ao25 t240.length co25)) w.heap.size (fun k_=>some k_≠(.slice Ao23 t237.length co23:Value).ownBlock) (.slice Ao25 t240.length co25) t240):=⟨by (with_reducible repeat (first|apply Kd.R_alloc|apply Kd.R_drewN|apply Kd.R_drew));exact Kd.R_mono (Kd.R_put2 HO242.out BK232.out (by decide)) (fun _ hk=>hk.1.2)⟩
        have n2_:Aside0 (((w22.setCell ⟨gb232,2,none⟩ (.slice Ao23 t237.length co23)).setCell ⟨gb232,3,none⟩ (.slice Ao25 t240.length co25)).heap[gb232]?=some (.cells #[.int .i64 a0_0,.int .i64 a0_1,.slice Ao23 t237.length co23,.slice Ao25 t240.length co25] 38 (0,0))):=⟨by (with_reducible repeat (first|refine blk_drewN ?_ _|refine blk_drew ?_|refine blk_alloc ?_ _));refine blk_put (cs:=#[.int .i64 a0_0,.int .i64 a0_1,.slice Ao23 t237.length co23,.slice A0_3 l0_3.length c0_3]) ?_ 3 _ rfl;(with_reducible repeat (first|refine blk_drewN ?_ _|refine blk_drew ?_|refine blk_alloc ?_ _));refine blk_put (cs:=#[.int .i64 a0_0,.int .i64 a0_1,.slice A0_2 l0_2.length c0_2,.slice A0_3 l0_3.length c0_3]) ?_ 2 _ rfl;(with_reducible repeat (first|refine blk_drewN ?_ _|refine blk_drew ?_|refine blk_alloc ?_ _));exact BK232.out⟩
        have n3_:Aside0 (((w22.setCell ⟨gb232,2,none⟩ (.slice Ao23 t237.length co23)).setCell ⟨gb232,3,none⟩ (.slice Ao25 t240.length co25)).heap[gb233]?=some (.cells #[.bool true,.slice A1_1 l1_1.length c1_1,.slice A1_2 l1_2.length c1_2] 51 (0,0))):=⟨blkW BK233.out NB233_232.out⟩
        have n4_:Aside0 (((w22.setCell ⟨gb232,2,none⟩ (.slice Ao23 t237.length co23)).setCell ⟨gb232,3,none⟩ (.slice Ao25 t240.length co25)).heap[gb234]?=some (.cells #[.int .i64 0,.int .i64 0,.slice none 0 0,.slice none 0 0] 38 (0,0))):=⟨blkW BK234.out NB234_232.out⟩
        have n5_:Aside0 (Below w.heap.size w ((w22.setCell ⟨gb232,2,none⟩ (.slice Ao23 t237.length co23)).setCell ⟨gb232,3,none⟩ (.slice Ao25 t240.length co25))):=⟨belV3 HB.out GE232.out GE233.out GE234.out⟩
        (try clear HO239)
        (try clear HO242)
        (try clear BK232)
        (try clear BK233)
        (try clear BK234)
        (try clear HB)
        generalize ((w22.setCell ⟨gb232,2,none⟩ (.slice Ao23 t237.length co23)).setCell ⟨gb232,3,none⟩ (.slice Ao25 t240.length co25))=w33 at n0_ n1_ n2_ n3_ n4_ n5_ ⊢
        have HO239:=n0_;have HO242:=n1_;have BK232:=n2_;have BK233:=n3_;have BK234:=n4_;have HB:=n5_;clear n0_ n1_ n2_ n3_ n4_ n5_
        (with_reducible refine (bitmap_wipe.calls k (fun k_=>some k_=(.slice Ao25 t240.length co25:Value).ownBlock) (.slice Ao25 t240.length co25) t240 t243 w _ ?side1 ?side2 A29.out).mono ?_)
        (case side1=>exact belV3 HB.out GE232.out GE233.out GE234.out)
        (case side2=>exact Kd.R_tight rfl HO242.out)
        rintro e w34 ⟨rfl,hy0,hb,hkp⟩
        have n0_:=Aside0.mk (blk_kept (blkV BK232.out) hkp (fun hs_=>(fun e_=>(Kd.R_ne HO242.out BK232.out (by decide)) e_) hs_))
        have n1_:=Aside0.mk (blk_kept (blkV BK233.out) hkp (fun hs_=>(fun e_=>(Kd.R_ne HO242.out BK233.out (by decide)) e_) hs_))
        have n2_:=Aside0.mk (blk_kept (blkV BK234.out) hkp (fun hs_=>(fun e_=>(Kd.R_ne HO242.out BK234.out (by decide)) e_) hs_))
        have n3_:=Aside0.mk (Kd.R_mono (ok':=fun k_=>some k_≠(.slice Ao25 t240.length co25:Value).ownBlock) (Kd.R_keptB (HO239.out) hkp (fun k_ hk_ hs_=>(hk_) hs_)) (fun k_ hk_=>hk_.1))
        have n4_:=Aside0.mk (Kd.R_reok rfl hy0 (fun k_ e_=>HO242.out.1 k_ e_))
        have n5_:=Aside0.mk (hb);clear BK232;clear BK233;clear BK234;clear HO239;clear HO242;clear HB;have BK232:=n0_;have BK233:=n1_;have BK234:=n2_;have HO239:=n3_;have HO242:=n4_;have HB:=n5_;clear n0_ n1_ n2_ n3_ n4_ n5_
        (try clear hb)
        (try clear hkp)
        (try clear hy0)
        try go_wp2
        go_meet
        case rel=>exact ⟨_,(t237),(t243),(.slice Ao23 t237.length co23),(.slice Ao25 t240.length co25),H',⟨by first|omega|exact Nat.le_refl _⟩,⟨rowV HO239.out⟩,⟨rowV HO242.out⟩,⟨blkV BK232.out⟩,⟨blkV BK233.out⟩,⟨blkV BK234.out⟩,⟨belV3 HB.out GE232.out GE233.out GE234.out⟩⟩
      replace c28:=Bool.eq_false_iff.mpr c28;subst c28
      have H1:(bitmap_Draw.j0 k a0_0 a0_1 t237 t240 false l1_1 l1_2)=some (r1,r2,r3,r4,r5):=by rw [if_neg (show ¬ (false=true) by decide)] at H;exact H
      clear H
      have H:=H1;clear H1
      have H':=Aside0.mk H;clear H
      go_wp2
      go_meet
      case rel=>exact ⟨_,(t237),(t240),(.slice Ao23 t237.length co23),(.slice Ao25 t240.length co25),H',⟨by first|omega|exact Nat.le_refl _⟩,⟨by (with_reducible repeat (first|apply Kd.R_alloc|apply Kd.R_drewN|apply Kd.R_drew));exact Kd.R_mono (Kd.R_put2 HO239.out BK232.out (by decide)) (fun _ hk=>hk.1.2)⟩,⟨by (with_reducible repeat (first|apply Kd.R_alloc|apply Kd.R_drewN|apply Kd.R_drew));exact Kd.R_mono (Kd.R_put2 HO242.out BK232.out (by decide)) (fun _ hk=>hk.1.2)⟩,⟨by (with_reducible repeat (first|refine blk_drewN ?_ _|refine blk_drew ?_|refine blk_alloc ?_ _));refine blk_put (cs:=#[.int .i64 a0_0,.int .i64 a0_1,.slice Ao23 t237.length co23,.slice A0_3 l0_3.length c0_3]) ?_ 3 _ rfl;(with_reducible repeat (first|refine blk_drewN ?_ _|refine blk_drew ?_|refine blk_alloc ?_ _));refine blk_put (cs:=#[.int .i64 a0_0,.int .i64 a0_1,.slice A0_2 l0_2.length c0_2,.slice A0_3 l0_3.length c0_3]) ?_ 2 _ rfl;(with_reducible repeat (first|refine blk_drewN ?_ _|refine blk_drew ?_|refine blk_alloc ?_ _));exact BK232.out⟩,⟨blkW BK233.out NB233_232.out⟩,⟨blkW BK234.out NB234_232.out⟩,⟨belV3 HB.out GE232.out GE233.out GE234.out⟩⟩
     case rest =>
      clear HC9
      try clear c1;try clear c2;try clear p2;try clear c3;try clear c4;try clear c6;try clear c6b0;try clear c6b1;try clear c13;try clear c14;try clear c17;try clear c28;try clear c30;try clear c31;try clear hcz15_0 hcz15_1 hcz15_2 hcz15_3;try clear hcz18_0 hcz18_1 hcz18_2;try clear hcz27_0 hcz27_1 hcz27_2;try clear hcz32_0 hcz32_1 hcz32_2 hcz32_3;try clear hfz15_0 hfz15_1 hfz15_2 hfz15_3;try clear hfz18_0 hfz18_1 hfz18_2;try clear hfz27_0 hfz27_1 hfz27_2;try clear hfz32_0 hfz32_1 hfz32_2 hfz32_3
      obtain ⟨kq,x233002_8,x233003_8,u233002,u233003,HA,HJ8,HO_233002,HO_233003,BK232,BK233,BK234,HB⟩:=hcut
      cases kq with
      | zero=>exact absurd HA.out (by simp [bitmap_Draw.j0])
      | succ kj8 =>
       have H:=HA.out;clear HA
       simp only [bitmap_Draw.j0] at H
       have HC35:=Aside0.mk H;clear H
       have hnb36:=NB233_232.out
       have hnc36:=NB232_233.out
       have hnb37:=NB233_234.out
       have hnc37:=NB234_233.out
       obtain ⟨hcz38_0,hcz38_1,hcz38_2,hfz38_0,hfz38_1,hfz38_2⟩:=bcells3 BK233.out
       go_upto_if 37 with (fail)
       go_cut [] (fun wc=>∃ (kq:Nat) (x233002_34:List Int) (u233002:Value),Aside0 (bitmap_Draw.j1 kq a0_0 a0_1 x233002_34 x233003_8 a1_0 l1_1 l1_2=some (r1,r2,r3,r4,r5))∧Aside0 (kq≤kj8)∧Aside0 (Kd.R (Kd.int .i64) 3 wc w.heap.size (fun k_=>some k_≠(u233003:Value).ownBlock) u233002 x233002_34)∧Aside0 (Kd.R (Kd.int .i64) 3 wc w.heap.size (fun k_=>some k_≠(u233002:Value).ownBlock) u233003 x233003_8)∧Aside0 (wc.heap[gb232]?=some (.cells #[.int .i64 a0_0,.int .i64 a0_1,u233002,u233003] 38 (0,0)))∧Aside0 (wc.heap[gb233]?=some (.cells #[.bool a1_0,(.slice A1_1 l1_1.length c1_1),(.slice A1_2 l1_2.length c1_2)] 51 (0,0)))∧Aside0 (wc.heap[gb234]?=some (.cells #[.int .i64 0,.int .i64 0,(.slice none 0 0),(.slice none 0 0)] 38 (0,0)))∧Aside0 (Below w.heap.size w wc))
       case first =>
        have H:=HC35.out;clear HC35
        by_cases c39:(l1_1.length:Int) > 0
        · rw [if_pos c39] at H
          have c39b0:decide (0 < (l1_1.length:Int))=true:=decide_eq_true c39
          have c39b1:decide (0 < l1_1.length)=true:=decide_eq_true (by omega);clear c39
          (first|rw [c39b0]|(simp only [i64_w,i32_w];rw [c39b0])|rw [c39b1]|skip)
          replace H:=Option.bind_eq_some_iff.mp H
          obtain ⟨t244,A400,H⟩:=H
          replace H:(bitmap_Draw.j1 kj8 a0_0 a0_1 t244 x233003_8 a1_0 l1_1 l1_2)=some (r1,r2,r3,r4,r5):=H
          have A40:=Aside0.mk A400;clear A400
          have H':=Aside0.mk H;clear H
          have hnb41:=NB233_232.out
          have hnc41:=NB232_233.out
          have hnb42:=NB233_234.out
          have hnc42:=NB234_233.out
          obtain ⟨hcz43_0,hcz43_1,hcz43_2,hfz43_0,hfz43_1,hfz43_2⟩:=bcells3 BK233.out
          go_wp2_with (first|((with_reducible refine gate_callee (f:=66) rfl ?_);refine goesL_ (some 40) rfl rfl Try.func66 (by kernel_rfl) rfl #[.slice A1_1 l1_1.length c1_1] rfl (by (try simp only [List.map_toArray,List.map_cons,List.map_nil]);first|done|rfl|(simp only [List.length_drop,List.length_take];rfl)) ?_;(with_reducible refine (slices_Clone_int_int.calls _ _ l1_1 t244 _ ?side1 ?side2 A40.out).mono ?_);(case side1=>exact cV (Kd.C_below HR1_1.out HB.out));(case side2=>exact HC1_1.out);rintro e w44 ⟨v245,rfl,ho0,hb⟩;refine ⟨_,rfl,?_⟩;have n0_:=Aside0.mk (Kd.R_elder' (rowV HO_233002.out) (Kd.R_base ho0) hb);have n1_:=Aside0.mk (Kd.R_elder' (rowV HO_233003.out) (Kd.R_base ho0) hb);have n2_:=Aside0.mk (Kd.R_lower (Kd.R_new' (Kd.R_new' ho0 (Kd.R_lt (rowV HO_233002.out))) (Kd.R_lt (rowV HO_233003.out))) (below_size (belV3 HB.out GE232.out GE233.out GE234.out)));have n3_:=Aside0.mk (blk_below (g:=gb232) (blkV BK232.out) hb);have n4_:=Aside0.mk (blk_below (g:=gb233) (blkV BK233.out) hb);have n5_:=Aside0.mk (blk_below (g:=gb234) (blkV BK234.out) hb);have n6_:=Aside0.mk (below_step (belV3 HB.out GE232.out GE233.out GE234.out) hb);clear HO_233002;clear HO_233003;clear BK232;clear BK233;clear BK234;clear HB;have HO_233002:=n0_;have HO_233003:=n1_;have HO246:=n2_;have BK232:=n3_;have BK233:=n4_;have BK234:=n5_;have HB:=n6_;clear n0_ n1_ n2_ n3_ n4_ n5_ n6_;(try clear hb);(try clear hb2);(try clear hk);(try clear hi);(try clear ho0);obtain ⟨Ao45,co45,eo45⟩:=Kd.R_slice HO246.out;subst eo45;have hnb46:=NB232_234.out;have hnc46:=NB234_232.out;obtain ⟨hcz47_0,hcz47_1,hcz47_2,hcz47_3,hfz47_0,hfz47_1,hfz47_2,hfz47_3⟩:=bcells4 BK232.out))
          go_meet
          case rel=>exact ⟨_,(t244),(.slice Ao45 t244.length co45),H',⟨by have:=HJ8.out;first|omega|exact Nat.le_refl _⟩,⟨by (with_reducible repeat (first|apply Kd.R_alloc|apply Kd.R_drewN|apply Kd.R_drew));exact Kd.R_mono (Kd.R_put1 HO246.out BK232.out (by decide)) (fun _ hk=>hk.1.2)⟩,⟨by (with_reducible repeat (first|apply Kd.R_alloc|apply Kd.R_drewN|apply Kd.R_drew));exact Kd.R_mono (Kd.R_put1 HO_233003.out BK232.out (by decide)) (fun _ hk=>hk.1.2)⟩,⟨by (with_reducible repeat (first|refine blk_drewN ?_ _|refine blk_drew ?_|refine blk_alloc ?_ _));refine blk_put (cs:=#[.int .i64 a0_0,.int .i64 a0_1,u233002,u233003]) ?_ 2 _ rfl;(with_reducible repeat (first|refine blk_drewN ?_ _|refine blk_drew ?_|refine blk_alloc ?_ _));exact BK232.out⟩,⟨blkW BK233.out NB233_232.out⟩,⟨blkW BK234.out NB234_232.out⟩,⟨belV3 HB.out GE232.out GE233.out GE234.out⟩⟩
        rw [if_neg c39] at H
        have c39b0:decide (0 < (l1_1.length:Int))=false:=decide_eq_false c39
        have c39b1:decide (0 < l1_1.length)=false:=decide_eq_false (by omega);clear c39
        (first|rw [c39b0]|(simp only [i64_w,i32_w];rw [c39b0])|rw [c39b1]|skip)
        have H':=Aside0.mk H;clear H
        go_wp2
        go_meet
        case rel=>exact ⟨_,(x233002_8),(u233002),H',⟨by have:=HJ8.out;first|omega|exact Nat.le_refl _⟩,⟨rowV HO_233002.out⟩,⟨rowV HO_233003.out⟩,⟨blkV BK232.out⟩,⟨blkV BK233.out⟩,⟨blkV BK234.out⟩,⟨belV3 HB.out GE232.out GE233.out GE234.out⟩⟩
       case rest =>
        clear HC35
        try clear c1;try clear c2;try clear p2 p2;try clear c3;try clear c4;try clear c6;try clear c6b0;try clear c6b1;try clear c13;try clear c14;try clear c17;try clear c28;try clear c30;try clear c31;try clear c36;try clear c37;try clear c39;try clear c39b0;try clear c39b1;try clear c41;try clear c42;try clear c46;try clear hcz15_0 hcz15_1 hcz15_2 hcz15_3;try clear hcz18_0 hcz18_1 hcz18_2;try clear hcz27_0 hcz27_1 hcz27_2;try clear hcz32_0 hcz32_1 hcz32_2 hcz32_3;try clear hcz38_0 hcz38_1 hcz38_2;try clear hcz43_0 hcz43_1 hcz43_2;try clear hcz47_0 hcz47_1 hcz47_2 hcz47_3;try clear hfz15_0 hfz15_1 hfz15_2 hfz15_3;try clear hfz18_0 hfz18_1 hfz18_2;try clear hfz27_0 hfz27_1 hfz27_2;try clear hfz32_0 hfz32_1 hfz32_2 hfz32_3;try clear hfz38_0 hfz38_1 hfz38_2;try clear hfz43_0 hfz43_1 hfz43_2;try clear hfz47_0 hfz47_1 hfz47_2 hfz47_3
        obtain ⟨kq,x233002_34,u233002,HA,HJ34,HO_233002,HO_233003,BK232,BK233,BK234,HB⟩:=hcut
        cases kq with
        | zero=>exact absurd HA.out (by simp [bitmap_Draw.j1])
        | succ kj34 =>
         have H:=HA.out;clear HA
         simp only [bitmap_Draw.j1] at H
         have H':=Aside0.mk H;clear H
         have hnb48:=NB233_232.out
         have hnc48:=NB232_233.out
         have hnb49:=NB233_234.out
         have hnc49:=NB234_233.out
         obtain ⟨hcz50_0,hcz50_1,hcz50_2,hfz50_0,hfz50_1,hfz50_2⟩:=bcells3 BK233.out
         go_wp2
         go_loopg [45] kj34 (fun kq v45 w'=>∃ (x45_3:Int) (x233002_3:List Int) (x233003_3:List Int) (u233002:Value) (u233003:Value),v45=.int .i64 x45_3∧Aside0 (bitmap_Draw.l0 kq l1_2 (l1_2.length:Int) x45_3 a0_0 a0_1 x233002_3 x233003_3=some (r1,r2,r3,r4,r5))∧Aside0 (kq≤kj34)∧Aside0 (Kd.R (Kd.int .i64) 3 w' w.heap.size (fun k_=>some k_≠(u233003:Value).ownBlock) u233002 x233002_3)∧Aside0 (Kd.R (Kd.int .i64) 3 w' w.heap.size (fun k_=>some k_≠(u233002:Value).ownBlock) u233003 x233003_3)∧Aside0 (w'.heap[gb232]?=some (.cells #[.int .i64 a0_0,.int .i64 a0_1,u233002,u233003] 38 (0,0)))∧Aside0 (w'.heap[gb233]?=some (.cells #[.bool a1_0,(.slice A1_1 l1_1.length c1_1),(.slice A1_2 l1_2.length c1_2)] 51 (0,0)))∧Aside0 (w'.heap[gb234]?=some (.cells #[.int .i64 0,.int .i64 0,(.slice none 0 0),(.slice none 0 0)] 38 (0,0)))∧Aside0 (Below w.heap.size w w'))
         case atStart=>exact ⟨(0),(x233002_34),(x233003_8),(u233002),(u233003),okV,H',⟨Nat.le_refl _⟩,⟨rowV HO_233002.out⟩,⟨rowV HO_233003.out⟩,⟨blkV BK232.out⟩,⟨blkV BK233.out⟩,⟨blkV BK234.out⟩,⟨belV3 HB.out GE232.out GE233.out GE234.out⟩⟩
         case round =>
          clear H'
          try clear c1;try clear c2;try clear p2 p2;try clear c3;try clear c4;try clear c6;try clear c6b0;try clear c6b1;try clear c13;try clear c14;try clear c17;try clear c28;try clear c30;try clear c31;try clear c36;try clear c37;try clear c39;try clear c39b0;try clear c39b1;try clear c41;try clear c42;try clear c46;try clear c48;try clear c49;try clear hcz15_0 hcz15_1 hcz15_2 hcz15_3;try clear hcz18_0 hcz18_1 hcz18_2;try clear hcz27_0 hcz27_1 hcz27_2;try clear hcz32_0 hcz32_1 hcz32_2 hcz32_3;try clear hcz38_0 hcz38_1 hcz38_2;try clear hcz43_0 hcz43_1 hcz43_2;try clear hcz47_0 hcz47_1 hcz47_2 hcz47_3;try clear hcz50_0 hcz50_1 hcz50_2;try clear hfz15_0 hfz15_1 hfz15_2 hfz15_3;try clear hfz18_0 hfz18_1 hfz18_2;try clear hfz27_0 hfz27_1 hfz27_2;try clear hfz32_0 hfz32_1 hfz32_2 hfz32_3;try clear hfz38_0 hfz38_1 hfz38_2;try clear hfz43_0 hfz43_1 hfz43_2;try clear hfz47_0 hfz47_1 hfz47_2 hfz47_3;try clear hfz50_0 hfz50_1 hfz50_2
          obtain ⟨x45_3,x233002_3,x233003_3,u233002,u233003,rfl,HA,HK3,HO_233002,HO_233003,BK232,BK233,BK234,HB⟩:=hrel
          cases gk with
          | zero=>exact absurd HA.out (by simp [bitmap_Draw.l0])
          | succ k3 =>
           have H:=HA.out;clear HA
           simp only [bitmap_Draw.l0] at H
           by_cases c51:x45_3 < (l1_2.length:Int)
           · rw [if_pos c51] at H
             have c51b0:decide (x45_3 < (l1_2.length:Int))=true:=decide_eq_true c51;clear c51
             by_cases c52:0≤x45_3
             · rw [if_pos c52] at H
               have c52b0:decide (0≤x45_3)=true:=decide_eq_true c52;clear c52
               by_cases c53:x45_3 < (l1_2.length:Int)
               · rw [if_pos c53] at H
                 have c53b0:decide (x45_3 < (l1_2.length:Int))=true:=decide_eq_true c53;clear c53
                 obtain ⟨ji54,hji54⟩:∃ j_:Int,(mn ((rd_T91 l1_2 x45_3).f3) (wrap64 (a0_1 - ((rd_T91 l1_2 x45_3).f1))))=j_:=⟨_,rfl⟩
                 replace H:(bitmap_Draw.l1 k3 l1_2 (l1_2.length:Int) x45_3 ji54 0 a0_0 a0_1 x233002_3 x233003_3 ((rd_T91 l1_2 x45_3).f0) ((rd_T91 l1_2 x45_3).f1) ((rd_T91 l1_2 x45_3).f2) ((rd_T91 l1_2 x45_3).f3) ((rd_T91 l1_2 x45_3).f4))=some (r1,r2,r3,r4,r5):=by first|(rw [hji54] at H;exact H)|(simp only [hji54] at H ⊢;exact H)
                 have hji54_:(if (wrap64 (a0_1 - ((rd_T91 l1_2 x45_3).f1))) < ((rd_T91 l1_2 x45_3).f3) then (wrap64 (a0_1 - ((rd_T91 l1_2 x45_3).f1))) else ((rd_T91 l1_2 x45_3).f3))=ji54:=hji54
                 have H':=Aside0.mk H;clear H
                 have p247:0≤(x45_3:Int):=of_decide_eq_true asV
                 have q247:x45_3 < (l1_2.length:Int):=of_decide_eq_true asV
                 obtain ⟨ad247,A247_4,c247_4,e247,hx247_0,hx247_1,hx247_2,hx247_3,hx247_4,hl247_4,hi247_4⟩:=at_T91 HR1_2.out x45_3 p247 q247
                 cases e247
                 replace hx247_0:=(HB.out.cell (World.block_lt_of_cell? w _ hx247_0)).trans hx247_0
                 replace hx247_1:=(HB.out.cell (World.block_lt_of_cell? w _ hx247_1)).trans hx247_1
                 replace hx247_2:=(HB.out.cell (World.block_lt_of_cell? w _ hx247_2)).trans hx247_2
                 replace hx247_3:=(HB.out.cell (World.block_lt_of_cell? w _ hx247_3)).trans hx247_3
                 replace hx247_4:=(HB.out.cell (World.block_lt_of_cell? w _ hx247_4)).trans hx247_4
                 have HR247_4:=Aside0.mk hi247_4
                 have HC247_4:=Aside0.mk hl247_4;clear hi247_4 hl247_4
                 replace p247:=eq_true p247
                 replace q247:=eq_true q247
                 go_wp2_with (first|((with_reducible refine gate_dst (N:=8) rfl ?_);refine box_event ?hg (N:=8) ?hd (cs:=#[.int .i64 0,.int .i64 0,.int .i64 0,.int .i64 0,.slice none 0 0]) (t:=91) ?hr ?_;(case hd=>rfl);(case hg=>rfl);(case hr=>first|(go_simp;done)|(go_simp;rfl));intro gb248 hg w55 hbox hb;have n0_:=Aside0.mk (Kd.R_below (rowV HO_233002.out) hb);have n1_:=Aside0.mk (Kd.R_below (rowV HO_233003.out) hb);have n2_:=Aside0.mk (blk_below (g:=gb232) (blkV BK232.out) hb);have n3_:=Aside0.mk (blk_below (g:=gb233) (blkV BK233.out) hb);have n4_:=Aside0.mk (blk_below (g:=gb234) (blkV BK234.out) hb);have n5_:=Aside0.mk (below_step (belV3 HB.out GE232.out GE233.out GE234.out) hb);have n6_:=Aside0.mk (hbox);have n7_:=Aside0.mk ((by rw [hg];exact (below_size (belV3 HB.out GE232.out GE233.out GE234.out)):w.heap.size≤gb248));have n8_:=Aside0.mk ((by rw [hg];exact (below_size (belV3 HB.out GE232.out GE233.out GE234.out)):w.heap.size≤gb248));have n9_:=Aside0.mk ((by rw [hg];exact Nat.ne_of_lt (blk_lt (g:=gb232) (blkV BK232.out)):gb232≠gb248));have n10_:=Aside0.mk ((by rw [hg];exact Nat.ne_of_gt (blk_lt (g:=gb232) (blkV BK232.out)):gb248≠gb232));have n11_:=Aside0.mk ((by rw [hg];exact Nat.ne_of_lt (blk_lt (g:=gb233) (blkV BK233.out)):gb233≠gb248));have n12_:=Aside0.mk ((by rw [hg];exact Nat.ne_of_gt (blk_lt (g:=gb233) (blkV BK233.out)):gb248≠gb233));have n13_:=Aside0.mk ((by rw [hg];exact Nat.ne_of_lt (blk_lt (g:=gb234) (blkV BK234.out)):gb234≠gb248));have n14_:=Aside0.mk ((by rw [hg];exact Nat.ne_of_gt (blk_lt (g:=gb234) (blkV BK234.out)):gb248≠gb234));clear HO_233002;clear HO_233003;clear BK232;clear BK233;clear BK234;clear HB;have HO_233002:=n0_;have HO_233003:=n1_;have BK232:=n2_;have BK233:=n3_;have BK234:=n4_;have HB:=n5_;have BK248:=n6_;have GW248:=n7_;have GE248:=n8_;have NB232_248:=n9_;have NB248_232:=n10_;have NB233_248:=n11_;have NB248_233:=n12_;have NB234_248:=n13_;have NB248_234:=n14_;clear n0_ n1_ n2_ n3_ n4_ n5_ n6_ n7_ n8_ n9_ n10_ n11_ n12_ n13_ n14_;clear hb hbox hg;have hnb56:=NB248_232.out;have hnc56:=NB232_248.out;have hnb57:=NB248_233.out;have hnc57:=NB233_248.out;have hnb58:=NB248_234.out;have hnc58:=NB234_248.out;obtain ⟨hcz59_0,hcz59_1,hcz59_2,hcz59_3,hcz59_4,hfz59_0,hfz59_1,hfz59_2,hfz59_3,hfz59_4⟩:=bcells5 BK248.out;have hnb60:=NB232_233.out;have hnc60:=NB233_232.out;have hnb61:=NB232_234.out;have hnc61:=NB234_232.out;obtain ⟨hcz62_0,hcz62_1,hcz62_2,hcz62_3,hfz62_0,hfz62_1,hfz62_2,hfz62_3⟩:=bcells4 BK232.out))
                 go_loopg [57] k3 (fun kq v57 w'=>∃ (x57_4:Int) (x233002_4:List Int) (x233003_4:List Int) (u233002:Value) (u233003:Value),v57=.int .i64 x57_4∧Aside0 (bitmap_Draw.l1 kq l1_2 (l1_2.length:Int) x45_3 ji54 x57_4 a0_0 a0_1 x233002_4 x233003_4 ((rd_T91 l1_2 x45_3).f0) ((rd_T91 l1_2 x45_3).f1) ((rd_T91 l1_2 x45_3).f2) ((rd_T91 l1_2 x45_3).f3) ((rd_T91 l1_2 x45_3).f4)=some (r1,r2,r3,r4,r5))∧Aside0 (kq≤k3)∧Aside0 (Kd.R (Kd.int .i64) 3 w' w.heap.size (fun k_=>some k_≠(u233003:Value).ownBlock) u233002 x233002_4)∧Aside0 (Kd.R (Kd.int .i64) 3 w' w.heap.size (fun k_=>some k_≠(u233002:Value).ownBlock) u233003 x233003_4)∧Aside0 (w'.heap[gb232]?=some (.cells #[.int .i64 a0_0,.int .i64 a0_1,u233002,u233003] 38 (0,0)))∧Aside0 (w'.heap[gb233]?=some (.cells #[.bool a1_0,(.slice A1_1 l1_1.length c1_1),(.slice (some ad247) l1_2.length c1_2)] 51 (0,0)))∧Aside0 (w'.heap[gb234]?=some (.cells #[.int .i64 0,.int .i64 0,(.slice none 0 0),(.slice none 0 0)] 38 (0,0)))∧Aside0 (w'.heap[gb248]?=some (.cells #[.int .i64 ((rd_T91 l1_2 x45_3).f0),.int .i64 ((rd_T91 l1_2 x45_3).f1),.int .i64 ((rd_T91 l1_2 x45_3).f2),.int .i64 ((rd_T91 l1_2 x45_3).f3),(.slice A247_4 ((rd_T91 l1_2 x45_3).f4).length c247_4)] 91 (0,0)))∧Aside0 (Below w.heap.size w w'))
                 case atStart=>exact ⟨(0),(x233002_3),(x233003_3),(u233002),(u233003),okV,H',⟨Nat.le_refl _⟩,⟨by (with_reducible repeat (first|apply Kd.R_alloc|apply Kd.R_drewN|apply Kd.R_drew));exact Kd.R_mono (Kd.R_far (p:=⟨gb248,4,none⟩) (Kd.R_far (p:=⟨gb248,3,none⟩) (Kd.R_far (p:=⟨gb248,2,none⟩) (Kd.R_far (p:=⟨gb248,1,none⟩) (Kd.R_far (p:=⟨gb248,0,none⟩) (Kd.R_types HO_233002.out BK248.out (by decide)) (fun _ hk=>hk.2) (.int .i64 ((rd_T91 l1_2 x45_3).f0))) (fun _ hk=>hk.2) (.int .i64 ((rd_T91 l1_2 x45_3).f1))) (fun _ hk=>hk.2) (.int .i64 ((rd_T91 l1_2 x45_3).f2))) (fun _ hk=>hk.2) (.int .i64 ((rd_T91 l1_2 x45_3).f3))) (fun _ hk=>hk.2) (.slice A247_4 ((rd_T91 l1_2 x45_3).f4).length c247_4)) (fun _ hk=>hk.1)⟩,⟨by (with_reducible repeat (first|apply Kd.R_alloc|apply Kd.R_drewN|apply Kd.R_drew));exact Kd.R_mono (Kd.R_far (p:=⟨gb248,4,none⟩) (Kd.R_far (p:=⟨gb248,3,none⟩) (Kd.R_far (p:=⟨gb248,2,none⟩) (Kd.R_far (p:=⟨gb248,1,none⟩) (Kd.R_far (p:=⟨gb248,0,none⟩) (Kd.R_types HO_233003.out BK248.out (by decide)) (fun _ hk=>hk.2) (.int .i64 ((rd_T91 l1_2 x45_3).f0))) (fun _ hk=>hk.2) (.int .i64 ((rd_T91 l1_2 x45_3).f1))) (fun _ hk=>hk.2) (.int .i64 ((rd_T91 l1_2 x45_3).f2))) (fun _ hk=>hk.2) (.int .i64 ((rd_T91 l1_2 x45_3).f3))) (fun _ hk=>hk.2) (.slice A247_4 ((rd_T91 l1_2 x45_3).f4).length c247_4)) (fun _ hk=>hk.1)⟩,⟨blkW BK232.out NB232_248.out⟩,⟨blkW BK233.out NB233_248.out⟩,⟨blkW BK234.out NB234_248.out⟩,⟨by (with_reducible repeat (first|refine blk_drewN ?_ _|refine blk_drew ?_|refine blk_alloc ?_ _));refine blk_put (cs:=#[.int .i64 ((rd_T91 l1_2 x45_3).f0),.int .i64 ((rd_T91 l1_2 x45_3).f1),.int .i64 ((rd_T91 l1_2 x45_3).f2),.int .i64 ((rd_T91 l1_2 x45_3).f3),.slice none 0 0]) ?_ 4 _ rfl;(with_reducible repeat (first|refine blk_drewN ?_ _|refine blk_drew ?_|refine blk_alloc ?_ _));refine blk_put (cs:=#[.int .i64 ((rd_T91 l1_2 x45_3).f0),.int .i64 ((rd_T91 l1_2 x45_3).f1),.int .i64 ((rd_T91 l1_2 x45_3).f2),.int .i64 0,.slice none 0 0]) ?_ 3 _ rfl;(with_reducible repeat (first|refine blk_drewN ?_ _|refine blk_drew ?_|refine blk_alloc ?_ _));refine blk_put (cs:=#[.int .i64 ((rd_T91 l1_2 x45_3).f0),.int .i64 ((rd_T91 l1_2 x45_3).f1),.int .i64 0,.int .i64 0,.slice none 0 0]) ?_ 2 _ rfl;(with_reducible repeat (first|refine blk_drewN ?_ _|refine blk_drew ?_|refine blk_alloc ?_ _));refine blk_put (cs:=#[.int .i64 ((rd_T91 l1_2 x45_3).f0),.int .i64 0,.int .i64 0,.int .i64 0,.slice none 0 0]) ?_ 1 _ rfl;(with_reducible repeat (first|refine blk_drewN ?_ _|refine blk_drew ?_|refine blk_alloc ?_ _));refine blk_put (cs:=#[.int .i64 0,.int .i64 0,.int .i64 0,.int .i64 0,.slice none 0 0]) ?_ 0 _ rfl;(with_reducible repeat (first|refine blk_drewN ?_ _|refine blk_drew ?_|refine blk_alloc ?_ _));exact BK248.out⟩,⟨belV4 HB.out GE232.out GE233.out GE234.out GE248.out⟩⟩
                 case round =>
                  clear H'
                  try clear c1;try clear c2;try clear p2 p2;try clear q2;try clear hx2;try clear c3;try clear c4;try clear c5;try clear c6;try clear c6b0;try clear c6b1;try clear p6;try clear c13;try clear c14;try clear c17;try clear c24;try clear p24;try clear q24;try clear hx24;try clear c28;try clear c30;try clear c31;try clear c36;try clear c37;try clear c39;try clear c39b0;try clear c39b1;try clear c41;try clear c42;try clear c46;try clear c48;try clear c49;try clear c51;try clear c51b0;try clear c52;try clear c52b0;try clear c53;try clear c53b0;try clear c56;try clear c57;try clear c58;try clear c60;try clear c61;try clear hcz15_0 hcz15_1 hcz15_2 hcz15_3;try clear hcz18_0 hcz18_1 hcz18_2;try clear hcz27_0 hcz27_1 hcz27_2;try clear hcz32_0 hcz32_1 hcz32_2 hcz32_3;try clear hcz38_0 hcz38_1 hcz38_2;try clear hcz43_0 hcz43_1 hcz43_2;try clear hcz47_0 hcz47_1 hcz47_2 hcz47_3;try clear hcz50_0 hcz50_1 hcz50_2;try clear hcz59_0 hcz59_1 hcz59_2 hcz59_3 hcz59_4;try clear hcz62_0 hcz62_1 hcz62_2 hcz62_3;try clear hfz15_0 hfz15_1 hfz15_2 hfz15_3;try clear hfz18_0 hfz18_1 hfz18_2;try clear hfz27_0 hfz27_1 hfz27_2;try clear hfz32_0 hfz32_1 hfz32_2 hfz32_3;try clear hfz38_0 hfz38_1 hfz38_2;try clear hfz43_0 hfz43_1 hfz43_2;try clear hfz47_0 hfz47_1 hfz47_2 hfz47_3;try clear hfz50_0 hfz50_1 hfz50_2;try clear hfz59_0 hfz59_1 hfz59_2 hfz59_3 hfz59_4;try clear hfz62_0 hfz62_1 hfz62_2 hfz62_3;try clear hx247_0;try clear hx247_1;try clear hx247_2;try clear hx247_3;try clear hx247_4;try clear p247;try clear q247
                  obtain ⟨x57_4,x233002_4,x233003_4,u233002,u233003,rfl,HA,HK4,HO_233002,HO_233003,BK232,BK233,BK234,BK248,HB⟩:=hrel
                  cases gk with
                  | zero=>exact absurd HA.out (by simp [bitmap_Draw.l1])
                  | succ k4 =>
                   have H:=HA.out;clear HA
                   simp only [bitmap_Draw.l1] at H
                   by_cases c63:x57_4 < ji54
                   · rw [if_pos c63] at H
                     have c63b0:decide (x57_4 < ji54)=true:=decide_eq_true c63;clear c63
                     obtain ⟨ji64,hji64⟩:∃ j_:Int,(mn ((rd_T91 l1_2 x45_3).f2) (wrap64 (a0_0 - ((rd_T91 l1_2 x45_3).f0))))=j_:=⟨_,rfl⟩
                     replace H:(bitmap_Draw.l2 k4 x57_4 l1_2 (l1_2.length:Int) x45_3 ji54 x57_4 ji64 0 a0_0 a0_1 x233002_4 x233003_4 ((rd_T91 l1_2 x45_3).f0) ((rd_T91 l1_2 x45_3).f1) ((rd_T91 l1_2 x45_3).f2) ((rd_T91 l1_2 x45_3).f3) ((rd_T91 l1_2 x45_3).f4))=some (r1,r2,r3,r4,r5):=by first|(rw [hji64] at H;exact H)|(simp only [hji64] at H ⊢;exact H)
                     have hji64_:(if (wrap64 (a0_0 - ((rd_T91 l1_2 x45_3).f0))) < ((rd_T91 l1_2 x45_3).f2) then (wrap64 (a0_0 - ((rd_T91 l1_2 x45_3).f0))) else ((rd_T91 l1_2 x45_3).f2))=ji64:=hji64
                     have H':=Aside0.mk H;clear H
                     have hnb65:=NB248_232.out
                     have hnc65:=NB232_248.out
                     have hnb66:=NB248_233.out
                     have hnc66:=NB233_248.out
                     have hnb67:=NB248_234.out
                     have hnc67:=NB234_248.out
                     obtain ⟨hcz68_0,hcz68_1,hcz68_2,hcz68_3,hcz68_4,hfz68_0,hfz68_1,hfz68_2,hfz68_3,hfz68_4⟩:=bcells5 BK248.out
                     have hnb69:=NB232_233.out
                     have hnc69:=NB233_232.out
                     have hnb70:=NB232_234.out
                     have hnc70:=NB234_232.out
                     obtain ⟨hcz71_0,hcz71_1,hcz71_2,hcz71_3,hfz71_0,hfz71_1,hfz71_2,hfz71_3⟩:=bcells4 BK232.out
                     go_wp2
                     go_loopg [68] k4 (fun kq v68 w'=>∃ (x68_5:Int) (x233002_5:List Int) (x233003_5:List Int) (u233002:Value) (u233003:Value),v68=.int .i64 x68_5∧Aside0 (bitmap_Draw.l2 kq x57_4 l1_2 (l1_2.length:Int) x45_3 ji54 x57_4 ji64 x68_5 a0_0 a0_1 x233002_5 x233003_5 ((rd_T91 l1_2 x45_3).f0) ((rd_T91 l1_2 x45_3).f1) ((rd_T91 l1_2 x45_3).f2) ((rd_T91 l1_2 x45_3).f3) ((rd_T91 l1_2 x45_3).f4)=some (r1,r2,r3,r4,r5))∧Aside0 (kq≤k4)∧Aside0 (Kd.R (Kd.int .i64) 3 w' w.heap.size (fun k_=>some k_≠(u233003:Value).ownBlock) u233002 x233002_5)∧Aside0 (Kd.R (Kd.int .i64) 3 w' w.heap.size (fun k_=>some k_≠(u233002:Value).ownBlock) u233003 x233003_5)∧Aside0 (w'.heap[gb232]?=some (.cells #[.int .i64 a0_0,.int .i64 a0_1,u233002,u233003] 38 (0,0)))∧Aside0 (w'.heap[gb233]?=some (.cells #[.bool a1_0,(.slice A1_1 l1_1.length c1_1),(.slice (some ad247) l1_2.length c1_2)] 51 (0,0)))∧Aside0 (w'.heap[gb234]?=some (.cells #[.int .i64 0,.int .i64 0,(.slice none 0 0),(.slice none 0 0)] 38 (0,0)))∧Aside0 (w'.heap[gb248]?=some (.cells #[.int .i64 ((rd_T91 l1_2 x45_3).f0),.int .i64 ((rd_T91 l1_2 x45_3).f1),.int .i64 ((rd_T91 l1_2 x45_3).f2),.int .i64 ((rd_T91 l1_2 x45_3).f3),(.slice A247_4 ((rd_T91 l1_2 x45_3).f4).length c247_4)] 91 (0,0)))∧Aside0 (Below w.heap.size w w'))
                     case atStart=>exact ⟨(0),(x233002_4),(x233003_4),(u233002),(u233003),okV,H',⟨Nat.le_refl _⟩,⟨rowV HO_233002.out⟩,⟨rowV HO_233003.out⟩,⟨blkV BK232.out⟩,⟨blkV BK233.out⟩,⟨blkV BK234.out⟩,⟨blkV BK248.out⟩,⟨belV4 HB.out GE232.out GE233.out GE234.out GE248.out⟩⟩
                     case round =>
                      clear H'
                      try clear c1;try clear c2;try clear p2 p2;try clear q2 q2;try clear hx2;try clear c3;try clear c4;try clear c5;try clear c6;try clear c6b0;try clear c6b1;try clear p6 p6;try clear c7;try clear c13;try clear c14;try clear c17;try clear c24;try clear p24 p24;try clear q24 q24;try clear hx24;try clear c28;try clear c30;try clear c31;try clear c36;try clear c37;try clear c39;try clear c39b0;try clear c39b1;try clear c41;try clear c42;try clear c46;try clear c48;try clear c49;try clear c51;try clear c51b0;try clear c52;try clear c52b0;try clear c53;try clear c53b0;try clear c56;try clear c57;try clear c58;try clear c60;try clear c61;try clear c63;try clear c63b0;try clear p64;try clear c65;try clear c66;try clear c67;try clear c69;try clear c70;try clear hcz15_0 hcz15_1 hcz15_2 hcz15_3;try clear hcz18_0 hcz18_1 hcz18_2;try clear hcz27_0 hcz27_1 hcz27_2;try clear hcz32_0 hcz32_1 hcz32_2 hcz32_3;try clear hcz38_0 hcz38_1 hcz38_2;try clear hcz43_0 hcz43_1 hcz43_2;try clear hcz47_0 hcz47_1 hcz47_2 hcz47_3;try clear hcz50_0 hcz50_1 hcz50_2;try clear hcz59_0 hcz59_1 hcz59_2 hcz59_3 hcz59_4;try clear hcz62_0 hcz62_1 hcz62_2 hcz62_3;try clear hcz68_0 hcz68_1 hcz68_2 hcz68_3 hcz68_4;try clear hcz71_0 hcz71_1 hcz71_2 hcz71_3;try clear hfz15_0 hfz15_1 hfz15_2 hfz15_3;try clear hfz18_0 hfz18_1 hfz18_2;try clear hfz27_0 hfz27_1 hfz27_2;try clear hfz32_0 hfz32_1 hfz32_2 hfz32_3;try clear hfz38_0 hfz38_1 hfz38_2;try clear hfz43_0 hfz43_1 hfz43_2;try clear hfz47_0 hfz47_1 hfz47_2 hfz47_3;try clear hfz50_0 hfz50_1 hfz50_2;try clear hfz59_0 hfz59_1 hfz59_2 hfz59_3 hfz59_4;try clear hfz62_0 hfz62_1 hfz62_2 hfz62_3;try clear hfz68_0 hfz68_1 hfz68_2 hfz68_3 hfz68_4;try clear hfz71_0 hfz71_1 hfz71_2 hfz71_3;try clear hx247_0;try clear hx247_1;try clear hx247_2;try clear hx247_3;try clear hx247_4;try clear p247;try clear q247
                      obtain ⟨x68_5,x233002_5,x233003_5,u233002,u233003,rfl,HA,HK5,HO_233002,HO_233003,BK232,BK233,BK234,BK248,HB⟩:=hrel
                      cases gk with
                      | zero=>exact absurd HA.out (by simp [bitmap_Draw.l2])
                      | succ k5 =>
                       have H:=HA.out;clear HA
                       simp only [bitmap_Draw.l2] at H
                       by_cases c72:x68_5 < ji64
                       · rw [if_pos c72] at H
                         have c72b0:decide (x68_5 < ji64)=true:=decide_eq_true c72;clear c72
                         obtain ⟨ji73,hji73⟩:∃ j_:Int,(wrap64 ((wrap64 (x57_4*((rd_T91 l1_2 x45_3).f2)))+x68_5))=j_:=⟨_,rfl⟩
                         replace H:(if 0≤(ji73) then (if (ji73) < (((rd_T91 l1_2 x45_3).f4).length:Int) then (if 0≤(wrap64 ((wrap64 ((wrap64 ((wrap64 (((rd_T91 l1_2 x45_3).f1)+x57_4))*a0_0))+((rd_T91 l1_2 x45_3).f0)))+x68_5)) then (if (wrap64 ((wrap64 ((wrap64 ((wrap64 (((rd_T91 l1_2 x45_3).f1)+x57_4))*a0_0))+((rd_T91 l1_2 x45_3).f0)))+x68_5)) < (x233003_5.length:Int) then (bitmap_Draw.l2 k5 x57_4 l1_2 (l1_2.length:Int) x45_3 ji54 x57_4 ji64 (wrap64 (x68_5+1)) a0_0 a0_1 x233002_5 (x233003_5.set ((wrap64 ((wrap64 ((wrap64 ((wrap64 (((rd_T91 l1_2 x45_3).f1)+x57_4))*a0_0))+((rd_T91 l1_2 x45_3).f0)))+x68_5)):Int).toNat (rd ((rd_T91 l1_2 x45_3).f4) (ji73))) ((rd_T91 l1_2 x45_3).f0) ((rd_T91 l1_2 x45_3).f1) ((rd_T91 l1_2 x45_3).f2) ((rd_T91 l1_2 x45_3).f3) ((rd_T91 l1_2 x45_3).f4)) else (none)) else (none)) else (none)) else (none))=some (r1,r2,r3,r4,r5):=by first|(rw [hji73] at H;exact H)|(simp only [hji73] at H ⊢;exact H)
                         have hji73w:(IntKind.i64.wrap ((wrap64 (x57_4*((rd_T91 l1_2 x45_3).f2)))+x68_5))=ji73:=(i64_w _).trans hji73
                         by_cases c74:0≤(ji73)
                         · rw [if_pos c74] at H
                           have c74b0:decide (0≤(ji73))=true:=decide_eq_true c74;clear c74
                           by_cases c75:(ji73) < (((rd_T91 l1_2 x45_3).f4).length:Int)
                           · rw [if_pos c75] at H
                             have c75b0:decide ((ji73) < (((rd_T91 l1_2 x45_3).f4).length:Int))=true:=decide_eq_true c75;clear c75
                             obtain ⟨ji76,hji76⟩:∃ j_:Int,(wrap64 ((wrap64 ((wrap64 ((wrap64 (((rd_T91 l1_2 x45_3).f1)+x57_4))*a0_0))+((rd_T91 l1_2 x45_3).f0)))+x68_5))=j_:=⟨_,rfl⟩
                             replace H:(if 0≤(ji76) then (if (ji76) < (x233003_5.length:Int) then (bitmap_Draw.l2 k5 x57_4 l1_2 (l1_2.length:Int) x45_3 ji54 x57_4 ji64 (wrap64 (x68_5+1)) a0_0 a0_1 x233002_5 (x233003_5.set ((ji76):Int).toNat (rd ((rd_T91 l1_2 x45_3).f4) (ji73))) ((rd_T91 l1_2 x45_3).f0) ((rd_T91 l1_2 x45_3).f1) ((rd_T91 l1_2 x45_3).f2) ((rd_T91 l1_2 x45_3).f3) ((rd_T91 l1_2 x45_3).f4)) else (none)) else (none))=some (r1,r2,r3,r4,r5):=by first|(rw [hji76] at H;exact H)|(simp only [hji76] at H ⊢;exact H)
                             have hji76w:(IntKind.i64.wrap ((wrap64 ((wrap64 ((wrap64 (((rd_T91 l1_2 x45_3).f1)+x57_4))*a0_0))+((rd_T91 l1_2 x45_3).f0)))+x68_5))=ji76:=(i64_w _).trans hji76
                             by_cases c77:0≤(ji76)
                             · rw [if_pos c77] at H
                               have c77b0:decide (0≤(ji76))=true:=decide_eq_true c77;clear c77
                               by_cases c78:(ji76) < (x233003_5.length:Int)
                               · rw [if_pos c78] at H
                                 have c78b0:decide ((ji76) < (x233003_5.length:Int))=true:=decide_eq_true c78;clear c78
                                 obtain ⟨y250,hy250⟩:∃ y_:List Int,y_=(x233003_5.set ((ji76):Int).toNat (rd ((rd_T91 l1_2 x45_3).f4) (ji73))):=⟨_,rfl⟩
                                 replace H:(bitmap_Draw.l2 k5 x57_4 l1_2 (l1_2.length:Int) x45_3 ji54 x57_4 ji64 (wrap64 (x68_5+1)) a0_0 a0_1 x233002_5 y250 ((rd_T91 l1_2 x45_3).f0) ((rd_T91 l1_2 x45_3).f1) ((rd_T91 l1_2 x45_3).f2) ((rd_T91 l1_2 x45_3).f3) ((rd_T91 l1_2 x45_3).f4))=some (r1,r2,r3,r4,r5):=by first|(rw [hy250];with_reducible exact H)|(have H2_:=(Option.bind_some _ _).symm.trans H;rw [hy250];with_reducible exact H2_)|(have H2_:=(Option.bind_some _ _).symm.trans H;with_reducible exact H2_)|with_reducible exact H|(rw [hy250];exact H)|exact H
                                 have Ny250:=Aside0.mk hy250;clear hy250
                                 have H':=Aside0.mk H;clear H
                                 try go_wp2
                                 have n0_:=Aside0.mk (Kd.R_drew HO_233002.out)
                                 have n1_:=Aside0.mk (Kd.R_drew HO_233003.out)
                                 have n2_:=Aside0.mk (blk_drew BK232.out)
                                 have n3_:=Aside0.mk (blk_drew BK233.out)
                                 have n4_:=Aside0.mk (blk_drew BK234.out)
                                 have n5_:=Aside0.mk (blk_drew BK248.out)
                                 have n6_:=Aside0.mk (below_drew1 HB.out);clear HO_233002;clear HO_233003;clear BK232;clear BK233;clear BK234;clear BK248;clear HB;have HO_233002:=n0_;have HO_233003:=n1_;have BK232:=n2_;have BK233:=n3_;have BK234:=n4_;have BK248:=n5_;have HB:=n6_;clear n0_ n1_ n2_ n3_ n4_ n5_ n6_
                                 have p249:0≤((ji73):Int):=of_decide_eq_true asV
                                 have q249:(ji73) < (((rd_T91 l1_2 x45_3).f4).length:Int):=of_decide_eq_true asV
                                 obtain ⟨ad249,e249,hx249_0⟩:=Kd.at_int HR247_4.out (ji73) p249 q249
                                 have hw249_0:=hx249_0
                                 cases e249
                                 replace hx249_0:=(HB.out.cell (World.block_lt_of_cell? w _ hx249_0)).trans hx249_0
                                 replace p249:=eq_true p249
                                 replace q249:=eq_true q249
                                 have p79:0≤((ji76):Int):=of_decide_eq_true asV
                                 have q79:((ji76):Int) < ((x233003_5.length:Int):Int):=of_decide_eq_true asV
                                 obtain ⟨go79,co79,eo79,gb79,gl79,cl79,HG79⟩:=Kd.R_form HO_233003.out (by omega)
                                 (first|cases eo79|(injection eo79 with ea_ en_ ec_;(first|subst ea_|(injection ea_ with ea_;subst ea_));subst ec_;clear en_))
                                 have GB79:=Aside0.mk gb79
                                 have GG79:=Aside0.mk HG79;clear gb79 gl79 HG79
                                 obtain ⟨hx79_0,hf79_0⟩:=Kd.R_celln 0 HO_233003.out ((ji76):Int) p79 q79
                                 replace p79:=eq_true p79
                                 replace q79:=eq_true q79
                                 have HP81:=Kd.R_putn HO_233003.out ((ji76):Int) (rd ((rd_T91 l1_2 x45_3).f4) (ji73))
                                 rw [← Ny250.out] at HP81
                                 have HQ81:=Aside0.mk HP81;clear HP81
                                 refine start_ (n:=26) (S:=fun w'=>w'.cell? ⟨gb232,0,none⟩=some (.int .i64 a0_0)∧w'.cell? ⟨gb232,1,none⟩=some (.int .i64 a0_1)∧w'.cell? ⟨gb232,2,none⟩=some (u233002)∧w'.cell? ⟨gb232,3,none⟩=some (.slice (some ⟨go79,0,none⟩) x233003_5.length co79)∧w'.cell? ⟨gb248,0,none⟩=some (.int .i64 ((rd_T91 l1_2 x45_3).f0))∧w'.cell? ⟨gb248,1,none⟩=some (.int .i64 ((rd_T91 l1_2 x45_3).f1))∧w'.cell? ⟨gb248,2,none⟩=some (.int .i64 ((rd_T91 l1_2 x45_3).f2))∧w'.cell? ⟨gb248,3,none⟩=some (.int .i64 ((rd_T91 l1_2 x45_3).f3))∧w'.cell? ⟨gb248,4,none⟩=some (.slice (some ad249) ((rd_T91 l1_2 x45_3).f4).length c247_4)∧w'.cell? (ad249.add ((ji73)).toNat)=some (.int .i64 (rd ((rd_T91 l1_2 x45_3).f4) (ji73)))) (ds:=[25]) ((bm false [26]).toArray) (by kernel_rfl) rfl rfl ⟨(blk_cell BK232.out 0).trans rfl,(blk_cell BK232.out 1).trans rfl,(blk_cell BK232.out 2).trans rfl,(blk_cell BK232.out 3).trans rfl,(blk_cell BK248.out 0).trans rfl,(blk_cell BK248.out 1).trans rfl,(blk_cell BK248.out 2).trans rfl,(blk_cell BK248.out 3).trans rfl,(blk_cell BK248.out 4).trans rfl,((HB.out.cell (World.block_lt_of_cell? w _ hw249_0)).trans hw249_0)⟩ (fun hHeld=>?_);refine with_tabW bitmap_Draw.tab20 bitmap_Draw.bits20 (fun HT_ HW_=>?_)
                                 generalize wr.drew=w80 at HO_233002 HO_233003 BK232 BK233 BK234 BK248 HB GG79 HQ81 hf79_0 hx249_0 hx79_0 hHeld ⊢
                                 refine pure_ (i:=0) (N:=some 71) (v:=?_) (a':=?_) ((bm true [1,25]).toArray) rfl rfl (any_of HT_.out (by kernel_rfl)) (fun _ _ _ h=>h) (Or.inl ⟨by rfl,?_⟩) ?_ ?_;rotate_left
                                 · intro w';go_simp;with_reducible rfl
                                 rotate_left
                                 · simp only [Act.put,List.setIfInBounds_toArray,List.set_cons_zero,List.set_cons_succ,i64_w,i32_w];rfl
                                 refine pure_ (i:=2) (N:=some 73) (v:=?_) (a':=?_) ((bm true [1,1,1,23]).toArray) rfl rfl (any_of HT_.out (by kernel_rfl)) (fun _ _ _ h=>h) (Or.inl ⟨by rfl,?_⟩) ?_ ?_;rotate_left
                                 · intro w';go_simp;with_reducible rfl
                                 rotate_left
                                 · simp only [Act.put,List.setIfInBounds_toArray,List.set_cons_zero,List.set_cons_succ,i64_w,i32_w];rfl
                                 refine pure_ (i:=4) (N:=some 75) (v:=?_) (a':=?_) ((bm true [1,1,1,1,1,21]).toArray) rfl rfl (any_of HT_.out (by kernel_rfl)) (fun _ _ _ h=>h) (Or.inl ⟨by rfl,?_⟩) ?_ ?_;rotate_left
                                 · intro w';go_simp;with_reducible rfl
                                 rotate_left
                                 · simp only [Act.put,List.setIfInBounds_toArray,List.set_cons_zero,List.set_cons_succ,i64_w,i32_w];rfl
                                 refine pure_ (i:=6) (N:=some 77) (v:=?_) (a':=?_) ((bm true [1,1,1,1,1,1,1,19]).toArray) rfl rfl (any_of HT_.out (by kernel_rfl)) (fun _ _ _ h=>h) (Or.inl ⟨by rfl,?_⟩) ?_ ?_;rotate_left
                                 · intro w';go_simp;with_reducible rfl
                                 rotate_left
                                 · simp only [Act.put,List.setIfInBounds_toArray,List.set_cons_zero,List.set_cons_succ,i64_w,i32_w];rfl
                                 refine pure_ (i:=9) (N:=some 80) (v:=?_) (a':=?_) ((bm true [1,1,1,1,1,1,1,2,1,16]).toArray) rfl rfl (any_of HT_.out (by kernel_rfl)) (fun _ _ _ h=>h) (Or.inl ⟨by rfl,?_⟩) ?_ ?_;rotate_left
                                 · intro w';go_simp;with_reducible rfl
                                 rotate_left
                                 · simp only [Act.put,List.setIfInBounds_toArray,List.set_cons_zero,List.set_cons_succ,i64_w,i32_w];rfl
                                 refine pure_ (i:=12) (N:=some 83) (v:=?_) (a':=?_) ((bm true [1,1,1,1,1,1,1,2,1,2,1,13]).toArray) rfl rfl (any_of HT_.out (by kernel_rfl)) (fun _ _ _ h=>h) (Or.inl ⟨by rfl,?_⟩) ?_ ?_;rotate_left
                                 · intro w';go_simp;with_reducible rfl
                                 rotate_left
                                 · simp only [Act.put,List.setIfInBounds_toArray,List.set_cons_zero,List.set_cons_succ,i64_w,i32_w];rfl
                                 refine pure_ (i:=14) (N:=some 85) (v:=?_) (a':=?_) ((bm true [1,1,1,1,1,1,1,2,1,2,1,1,1,11]).toArray) rfl rfl (any_of HT_.out (by kernel_rfl)) (fun _ _ _ h=>h) (Or.inl ⟨by rfl,?_⟩) ?_ ?_;rotate_left
                                 · intro w';go_simp;with_reducible rfl
                                 rotate_left
                                 · simp only [Act.put,List.setIfInBounds_toArray,List.set_cons_zero,List.set_cons_succ,i64_w,i32_w];rfl
                                 refine pure_ (i:=16) (N:=some 87) (v:=?_) (a':=?_) ((bm true [1,1,1,1,1,1,1,2,1,2,1,1,1,1,1,9]).toArray) rfl rfl (any_of HT_.out (by kernel_rfl)) (fun _ _ _ h=>h) (Or.inl ⟨by rfl,?_⟩) ?_ ?_;rotate_left
                                 · intro w';go_simp;with_reducible rfl
                                 rotate_left
                                 · simp only [Act.put,List.setIfInBounds_toArray,List.set_cons_zero,List.set_cons_succ,i64_w,i32_w];rfl
                                 refine pure_ (i:=17) (N:=some 88) (v:=?_) (a':=?_) ((bm true [1,1,1,1,1,1,1,2,1,2,1,1,1,1,2,8]).toArray) rfl rfl (any_of HT_.out (by kernel_rfl)) (fun _ _ _ h=>h) (Or.inl ⟨by rfl,?_⟩) ?_ ?_;rotate_left
                                 · intro w';go_simp;with_reducible rfl
                                 rotate_left
                                 · simp only [Act.put,List.setIfInBounds_toArray,List.set_cons_zero,List.set_cons_succ,i64_w,i32_w];rfl
                                 refine pure_ (i:=20) (N:=some 91) (v:=?_) (a':=?_) ((bm true [1,1,1,1,1,1,1,2,1,2,1,1,1,1,2,2,1,5]).toArray) rfl rfl (any_of HT_.out (by kernel_rfl)) (fun _ _ _ h=>h) (Or.inl ⟨by rfl,?_⟩) ?_ ?_;rotate_left
                                 · intro w';go_simp;with_reducible rfl
                                 rotate_left
                                 · simp only [Act.put,List.setIfInBounds_toArray,List.set_cons_zero,List.set_cons_succ,i64_w,i32_w];rfl
                                 refine take_ (i:=1) (N:=some 72) (v:=?_) (a':=?_) ((bm true [3,1,1,1,1,2,1,2,1,1,1,1,2,2,1,5]).toArray) rfl rfl (take_ofW HT_.out HW_.out (by kernel_rfl)) (fun _ _ _ h=>h) (Or.inl ⟨by rfl,?_⟩) hHeld ?_ ?_;rotate_left
                                 · rintro w' ⟨s0,s1,s2,s3,s4,s5,s6,s7,s8,s9⟩
                                   go_simp;with_reducible rfl
                                 rotate_left
                                 · simp only [Act.put,List.setIfInBounds_toArray,List.set_cons_zero,List.set_cons_succ,i64_w,i32_w];rfl
                                 refine take_ (i:=3) (N:=some 74) (v:=?_) (a':=?_) ((bm true [5,1,1,2,1,2,1,1,1,1,2,2,1,5]).toArray) rfl rfl (take_ofW HT_.out HW_.out (by kernel_rfl)) (fun _ _ _ h=>h) (Or.inl ⟨by rfl,?_⟩) hHeld ?_ ?_;rotate_left
                                 · rintro w' ⟨s0,s1,s2,s3,s4,s5,s6,s7,s8,s9⟩
                                   go_simp;with_reducible rfl
                                 rotate_left
                                 · simp only [Act.put,List.setIfInBounds_toArray,List.set_cons_zero,List.set_cons_succ,i64_w,i32_w];rfl
                                 refine pure_ (i:=5) (N:=some 76) (v:=?_) (a':=?_) ((bm true [7,2,1,2,1,1,1,1,2,2,1,5]).toArray) rfl rfl (any_of HT_.out (by kernel_rfl)) (fun _ _ _ h=>h) (Or.inl ⟨by rfl,?_⟩) ?_ ?_;rotate_left
                                 · intro w';go_simp;with_reducible rfl
                                 rotate_left
                                 · simp only [Act.put,List.setIfInBounds_toArray,List.set_cons_zero,List.set_cons_succ,i64_w,i32_w];rfl
                                 refine take_ (i:=7) (N:=some 78) (v:=?_) (a':=?_) ((bm true [8,1,1,2,1,1,1,1,2,2,1,5]).toArray) rfl rfl (take_ofW HT_.out HW_.out (by kernel_rfl)) (fun _ _ _ h=>h) (Or.inl ⟨by rfl,?_⟩) hHeld ?_ ?_;rotate_left
                                 · rintro w' ⟨s0,s1,s2,s3,s4,s5,s6,s7,s8,s9⟩
                                   go_simp;with_reducible rfl
                                 rotate_left
                                 · simp only [Act.put,List.setIfInBounds_toArray,List.set_cons_zero,List.set_cons_succ,i64_w,i32_w];rfl
                                 refine pure_ (i:=8) (N:=some 79) (v:=?_) (a':=?_) ((bm true [10,2,1,1,1,1,2,2,1,5]).toArray) rfl rfl (any_of HT_.out (by kernel_rfl)) (fun _ _ _ h=>h) (Or.inl ⟨by rfl,?_⟩) ?_ ?_;rotate_left
                                 · intro w';go_simp;with_reducible rfl
                                 rotate_left
                                 · simp only [Act.put,List.setIfInBounds_toArray,List.set_cons_zero,List.set_cons_succ,i64_w,i32_w];rfl
                                 refine take_ (i:=10) (N:=some 81) (v:=?_) (a':=?_) ((bm true [11,1,1,1,1,1,2,2,1,5]).toArray) rfl rfl (take_ofW HT_.out HW_.out (by kernel_rfl)) (fun _ _ _ h=>h) (Or.inl ⟨by rfl,?_⟩) hHeld ?_ ?_;rotate_left
                                 · rintro w' ⟨s0,s1,s2,s3,s4,s5,s6,s7,s8,s9⟩
                                   go_simp;with_reducible rfl
                                 rotate_left
                                 · simp only [Act.put,List.setIfInBounds_toArray,List.set_cons_zero,List.set_cons_succ,i64_w,i32_w];rfl
                                 refine pure_ (i:=11) (N:=some 82) (v:=?_) (a':=?_) ((bm true [13,1,1,1,2,2,1,5]).toArray) rfl rfl (any_of HT_.out (by kernel_rfl)) (fun _ _ _ h=>h) (Or.inl ⟨by rfl,?_⟩) ?_ ?_;rotate_left
                                 · intro w';go_simp;with_reducible rfl
                                 rotate_left
                                 · simp only [Act.put,List.setIfInBounds_toArray,List.set_cons_zero,List.set_cons_succ,i64_w,i32_w];rfl
                                 refine pure_ (i:=13) (N:=some 84) (v:=?_) (a':=?_) ((bm true [15,1,2,2,1,5]).toArray) rfl rfl (any_of HT_.out (by kernel_rfl)) (fun _ _ _ h=>h) (Or.inl ⟨by rfl,?_⟩) ?_ ?_;rotate_left
                                 · intro w';go_simp;with_reducible rfl
                                 rotate_left
                                 · simp only [Act.put,List.setIfInBounds_toArray,List.set_cons_zero,List.set_cons_succ,i64_w,i32_w];rfl
                                 refine take_ (i:=15) (N:=some 86) (v:=?_) (a':=?_) ((bm true [18,2,1,5]).toArray) rfl rfl (take_ofW HT_.out HW_.out (by kernel_rfl)) (fun _ _ _ h=>h) (Or.inl ⟨by rfl,?_⟩) hHeld ?_ ?_;rotate_left
                                 · rintro w' ⟨s0,s1,s2,s3,s4,s5,s6,s7,s8,s9⟩
                                   go_simp;with_reducible rfl
                                 rotate_left
                                 · simp only [Act.put,List.setIfInBounds_toArray,List.set_cons_zero,List.set_cons_succ,i64_w,i32_w];rfl
                                 refine take_ (i:=18) (N:=some 89) (v:=?_) (a':=?_) ((bm true [19,1,1,5]).toArray) rfl rfl (take_ofW HT_.out HW_.out (by kernel_rfl)) (fun _ _ _ h=>h) (Or.inl ⟨by rfl,?_⟩) hHeld ?_ ?_;rotate_left
                                 · rintro w' ⟨s0,s1,s2,s3,s4,s5,s6,s7,s8,s9⟩
                                   go_simp;with_reducible rfl
                                 rotate_left
                                 · simp only [Act.put,List.setIfInBounds_toArray,List.set_cons_zero,List.set_cons_succ,i64_w,i32_w];rfl
                                 refine pure_ (i:=19) (N:=some 90) (v:=?_) (a':=?_) ((bm true [21,5]).toArray) rfl rfl (any_of HT_.out (by kernel_rfl)) (fun _ _ _ h=>h) (Or.inl ⟨by rfl,?_⟩) ?_ ?_;rotate_left
                                 · intro w';go_simp;with_reducible rfl
                                 rotate_left
                                 · simp only [Act.put,List.setIfInBounds_toArray,List.set_cons_zero,List.set_cons_succ,i64_w,i32_w];rfl
                                 refine pure_ (i:=21) (N:=some 92) (v:=?_) (a':=?_) ((bm true [22,4]).toArray) rfl rfl (any_of HT_.out (by kernel_rfl)) (fun _ _ _ h=>h) (Or.inl ⟨by rfl,?_⟩) ?_ ?_;rotate_left
                                 · intro w';go_simp;with_reducible rfl
                                 rotate_left
                                 · simp only [Act.put,List.setIfInBounds_toArray,List.set_cons_zero,List.set_cons_succ,i64_w,i32_w];rfl
                                 refine pure_ (i:=22) (N:=some 93) (v:=?_) (a':=?_) ((bm true [23,3]).toArray) rfl rfl (any_of HT_.out (by kernel_rfl)) (fun _ _ _ h=>h) (Or.inl ⟨by rfl,?_⟩) ?_ ?_;rotate_left
                                 · intro w';go_simp;with_reducible rfl
                                 rotate_left
                                 · simp only [Act.put,List.setIfInBounds_toArray,List.set_cons_zero,List.set_cons_succ,i64_w,i32_w];rfl
                                 refine take_ (i:=23) (N:=some 94) (v:=?_) (a':=?_) ((bm true [24,2]).toArray) rfl rfl (take_ofW HT_.out HW_.out (by kernel_rfl)) (fun _ _ _ h=>h) (Or.inl ⟨by rfl,?_⟩) hHeld ?_ ?_;rotate_left
                                 · rintro w' ⟨s0,s1,s2,s3,s4,s5,s6,s7,s8,s9⟩
                                   go_simp;with_reducible rfl
                                 rotate_left
                                 · simp only [Act.put,List.setIfInBounds_toArray,List.set_cons_zero,List.set_cons_succ,i64_w,i32_w];rfl
                                 refine pure_ (i:=24) (N:=some 95) (v:=?_) (a':=?_) ((bm true [25,1]).toArray) rfl rfl (any_of HT_.out (by kernel_rfl)) (fun _ _ _ h=>h) (Or.inl ⟨by rfl,?_⟩) ?_ ?_;rotate_left
                                 · intro w';go_simp;with_reducible rfl
                                 rotate_left
                                 · simp only [Act.put,List.setIfInBounds_toArray,List.set_cons_zero,List.set_cons_succ,i64_w,i32_w];rfl
                                 refine last_ (i:=25) (N:=none) ((bm true [26]).toArray) rfl rfl (one_of HT_.out (by kernel_rfl)) (by decide) (fun K hK=>?_)
                                 refine skip_ (w1:=?_) (by rfl) rfl ?_ ?_;rotate_left
                                 · go_simp;rfl
                                 refine hK.out _ _ ?_;clear hK K
                                 refine done_ (done_of HT_.out (by kernel_rfl)) ?_
                                 try go_wp2
                                 go_roundg k5
                                 case measure=>have:=HJ8.out;have:=HJ34.out;have:=HK3.out;have:=HK4.out;have:=HK5.out;omega
                                 case rel=>exact ⟨(wrap64 (x68_5+1)),(x233002_5),(y250),(u233002),(.slice (some ⟨go79,0,none⟩) x233003_5.length co79),okV,H',⟨by have:=HJ8.out;have:=HJ34.out;have:=HK3.out;have:=HK4.out;have:=HK5.out;omega⟩,⟨by (with_reducible repeat (first|apply Kd.R_alloc|apply Kd.R_drewN|apply Kd.R_drew));exact Kd.R_mono (Kd.R_far (p:=⟨go79,((ji76):Int).toNat,none⟩) (Kd.R_mono HO_233002.out (fun k_ hk=>(⟨hk,fun e_=>hk (by rw [e_];rfl)⟩:_∧k_≠go79))) (fun _ hk=>hk.2) (.int .i64 (rd ((rd_T91 l1_2 x45_3).f4) (ji73)))) (fun _ hk=>hk.1)⟩,⟨by (with_reducible repeat (first|apply Kd.R_alloc|apply Kd.R_drewN|apply Kd.R_drew));exact HQ81.out⟩,⟨by (with_reducible repeat (first|refine blk_drewN ?_ _|refine blk_drew ?_|refine blk_alloc ?_ _));refine blk_far ?_ (by have h_:=Kd.R_ne HO_233003.out BK232.out (by decide);intro e_;exact h_ (by rw [e_];rfl)) _;(with_reducible repeat (first|refine blk_drewN ?_ _|refine blk_drew ?_|refine blk_alloc ?_ _));exact BK232.out⟩,⟨by (with_reducible repeat (first|refine blk_drewN ?_ _|refine blk_drew ?_|refine blk_alloc ?_ _));refine blk_far ?_ (by have h_:=Kd.R_ne HO_233003.out BK233.out (by decide);intro e_;exact h_ (by rw [e_];rfl)) _;(with_reducible repeat (first|refine blk_drewN ?_ _|refine blk_drew ?_|refine blk_alloc ?_ _));exact BK233.out⟩,⟨by (with_reducible repeat (first|refine blk_drewN ?_ _|refine blk_drew ?_|refine blk_alloc ?_ _));refine blk_far ?_ (by have h_:=Kd.R_ne HO_233003.out BK234.out (by decide);intro e_;exact h_ (by rw [e_];rfl)) _;(with_reducible repeat (first|refine blk_drewN ?_ _|refine blk_drew ?_|refine blk_alloc ?_ _));exact BK234.out⟩,⟨by (with_reducible repeat (first|refine blk_drewN ?_ _|refine blk_drew ?_|refine blk_alloc ?_ _));refine blk_far ?_ (by have h_:=Kd.R_ne HO_233003.out BK248.out (by decide);intro e_;exact h_ (by rw [e_];rfl)) _;(with_reducible repeat (first|refine blk_drewN ?_ _|refine blk_drew ?_|refine blk_alloc ?_ _));exact BK248.out⟩,⟨by repeat (first|(with_reducible first|exact HB.out|apply below_alloc|apply pw_below_drewN|apply below_drew1|refine below_set ?_ GB79.out|refine below_set ?_ GE232.out|refine below_set ?_ GE233.out|refine below_set ?_ GE234.out|refine below_set ?_ GE248.out)|exact HB.out)⟩⟩
                               rw [if_neg c78] at H
                               exact absurd H (by simp)
                             rw [if_neg c77] at H
                             exact absurd H (by simp)
                           rw [if_neg c75] at H
                           exact absurd H (by simp)
                         rw [if_neg c74] at H
                         exact absurd H (by simp)
                       rw [if_neg c72] at H
                       have c72b0:decide (x68_5 < ji64)=false:=decide_eq_false c72;clear c72
                       have H':=Aside0.mk H;clear H
                       go_wp2
                       go_roundg k5
                       case measure=>have:=HJ8.out;have:=HJ34.out;have:=HK3.out;have:=HK4.out;have:=HK5.out;omega
                       case rel=>exact ⟨(wrap64 (x57_4+1)),(x233002_5),(x233003_5),(u233002),(u233003),okV,H',⟨by have:=HJ8.out;have:=HJ34.out;have:=HK3.out;have:=HK4.out;have:=HK5.out;omega⟩,⟨rowV HO_233002.out⟩,⟨rowV HO_233003.out⟩,⟨blkV BK232.out⟩,⟨blkV BK233.out⟩,⟨blkV BK234.out⟩,⟨blkV BK248.out⟩,⟨belV4 HB.out GE232.out GE233.out GE234.out GE248.out⟩⟩
                   rw [if_neg c63] at H
                   have c63b0:decide (x57_4 < ji54)=false:=decide_eq_false c63;clear c63
                   have H':=Aside0.mk H;clear H
                   go_wp2
                   go_roundg k4
                   case measure=>have:=HJ8.out;have:=HJ34.out;have:=HK3.out;have:=HK4.out;omega
                   case rel=>exact ⟨(wrap64 (x45_3+1)),(x233002_4),(x233003_4),(u233002),(u233003),okV,H',⟨by have:=HJ8.out;have:=HJ34.out;have:=HK3.out;have:=HK4.out;omega⟩,⟨rowV HO_233002.out⟩,⟨rowV HO_233003.out⟩,⟨blkV BK232.out⟩,⟨blkV BK233.out⟩,⟨blkV BK234.out⟩,⟨belV4 HB.out GE232.out GE233.out GE234.out GE248.out⟩⟩
               rw [if_neg c53] at H
               exact absurd H (by simp)
             rw [if_neg c52] at H
             exact absurd H (by simp)
           rw [if_neg c51] at H
           have c51b0:decide (x45_3 < (l1_2.length:Int))=false:=decide_eq_false c51;clear c51
           simp only [Option.some.injEq,Prod.mk.injEq] at H
           obtain ⟨rfl,rfl,rfl,rfl,rfl⟩:=H
           have hnb82:=NB232_233.out
           have hnc82:=NB233_232.out
           have hnb83:=NB232_234.out
           have hnc83:=NB234_232.out
           obtain ⟨hcz84_0,hcz84_1,hcz84_2,hcz84_3,hfz84_0,hfz84_1,hfz84_2,hfz84_3⟩:=bcells4 BK232.out
           have hnb85:=NB234_233.out
           have hnc85:=NB233_234.out
           obtain ⟨hcz86_0,hcz86_1,hcz86_2,hcz86_3,hfz86_0,hfz86_1,hfz86_2,hfz86_3⟩:=bcells4 BK234.out
           obtain ⟨Ao87,co87,eo87⟩:=Kd.R_slice HO_233002.out;subst eo87
           obtain ⟨Ao88,co88,eo88⟩:=Kd.R_slice HO_233003.out;subst eo88
           go_wp2
           refine bodyPost_ret (results_ct rfl _ _ gb234 38 #[.int .i64 a0_0,.int .i64 a0_1,.slice Ao87 x233002_3.length co87,.slice Ao88 x233003_3.length co88] (0,0) _ rfl (by (with_reducible repeat (first|refine blk_drewN ?_ _|refine blk_drew ?_|refine blk_alloc ?_ _));refine blk_put (cs:=#[.int .i64 a0_0,.int .i64 a0_1,.slice Ao87 x233002_3.length co87,.slice none 0 0]) ?_ 3 _ rfl;(with_reducible repeat (first|refine blk_drewN ?_ _|refine blk_drew ?_|refine blk_alloc ?_ _));refine blk_put (cs:=#[.int .i64 a0_0,.int .i64 a0_1,.slice none 0 0,.slice none 0 0]) ?_ 2 _ rfl;(with_reducible repeat (first|refine blk_drewN ?_ _|refine blk_drew ?_|refine blk_alloc ?_ _));refine blk_put (cs:=#[.int .i64 a0_0,.int .i64 0,.slice none 0 0,.slice none 0 0]) ?_ 1 _ rfl;(with_reducible repeat (first|refine blk_drewN ?_ _|refine blk_drew ?_|refine blk_alloc ?_ _));refine blk_put (cs:=#[.int .i64 0,.int .i64 0,.slice none 0 0,.slice none 0 0]) ?_ 0 _ rfl;(with_reducible repeat (first|refine blk_drewN ?_ _|refine blk_drew ?_|refine blk_alloc ?_ _));exact BK234.out) Try.underlying38 rfl (by kernel_rfl)) rfl ?_
           exact ⟨_,_,by first|rfl|(simp [errW_none,errW_some] <;> rfl)|(simp [*,errW_none,errW_some] <;> rfl),by (with_reducible repeat (first|apply Kd.R_alloc|apply Kd.R_drewN|apply Kd.R_drew));exact Kd.R_mono (Kd.R_put4 HO_233002.out BK234.out (by decide)) (fun _ hk=>hk.1),by (with_reducible repeat (first|apply Kd.R_alloc|apply Kd.R_drewN|apply Kd.R_drew));exact Kd.R_mono (Kd.R_put4 HO_233003.out BK234.out (by decide)) (fun _ hk=>hk.1),by repeat (first|(with_reducible first|exact HB.out|apply below_alloc|apply pw_below_drewN|apply below_drew1|refine below_set ?_ GE232.out|refine below_set ?_ GE233.out|refine below_set ?_ GE234.out)|exact HB.out)⟩
   rw [if_neg c6] at H
   have c6b0:(t236 == 0)=false:=beq_eq_false_iff_ne.mpr c6
   have c6b1:(t236 != 0)=true:=bne_iff_ne.mpr c6
   simp only [Option.some.injEq,Prod.mk.injEq] at H
   obtain ⟨rfl,rfl,rfl,rfl,rfl⟩:=H
   go_enter Try.func30,Try.ntmps30
   go_wp2_with (first|((with_reducible refine gate_dst (N:=2) rfl ?_);refine box_event ?hg (N:=2) ?hd (cs:=#[.int .i64 a0_0,.int .i64 a0_1,.slice A0_2 l0_2.length c0_2,.slice A0_3 l0_3.length c0_3]) (t:=38) ?hr ?_;(case hd=>rfl);(case hg=>rfl);(case hr=>first|(go_simp;done)|(go_simp;rfl));intro gb232 hg w89 hbox hb;have n0_:=Aside0.mk (below_step (belV HB.out) hb);have n1_:=Aside0.mk (hbox);have n2_:=Aside0.mk ((by rw [hg];exact (below_size (belV HB.out)):w.heap.size≤gb232));have n3_:=Aside0.mk ((by rw [hg];exact (below_size (belV HB.out)):w.heap.size≤gb232));clear HB;have HB:=n0_;have BK232:=n1_;have GW232:=n2_;have GE232:=n3_;clear n0_ n1_ n2_ n3_;clear hb hbox hg)|((with_reducible refine gate_dst (N:=3) rfl ?_);refine box_event ?hg (N:=3) ?hd (cs:=#[.bool a1_0,.slice A1_1 l1_1.length c1_1,.slice A1_2 l1_2.length c1_2]) (t:=51) ?hr ?_;(case hd=>rfl);(case hg=>rfl);(case hr=>first|(go_simp;done)|(go_simp;rfl));intro gb233 hg w90 hbox hb;have n0_:=Aside0.mk (blk_below (g:=gb232) (blkV BK232.out) hb);have n1_:=Aside0.mk (below_step (belV1 HB.out GE232.out) hb);have n2_:=Aside0.mk (hbox);have n3_:=Aside0.mk ((by rw [hg];exact (below_size (belV1 HB.out GE232.out)):w.heap.size≤gb233));have n4_:=Aside0.mk ((by rw [hg];exact (below_size (belV1 HB.out GE232.out)):w.heap.size≤gb233));have n5_:=Aside0.mk ((by rw [hg];exact Nat.ne_of_lt (blk_lt (g:=gb232) (blkV BK232.out)):gb232≠gb233));have n6_:=Aside0.mk ((by rw [hg];exact Nat.ne_of_gt (blk_lt (g:=gb232) (blkV BK232.out)):gb233≠gb232));clear BK232;clear HB;have BK232:=n0_;have HB:=n1_;have BK233:=n2_;have GW233:=n3_;have GE233:=n4_;have NB232_233:=n5_;have NB233_232:=n6_;clear n0_ n1_ n2_ n3_ n4_ n5_ n6_;clear hb hbox hg)|((with_reducible refine gate_dst (N:=4) rfl ?_);refine box_event ?hg (N:=4) ?hd (cs:=#[.int .i64 0,.int .i64 0,.slice none 0 0,.slice none 0 0]) (t:=38) ?hr ?_;(case hd=>rfl);(case hg=>rfl);(case hr=>first|(go_simp;done)|(go_simp;rfl));intro gb234 hg w91 hbox hb;have n0_:=Aside0.mk (blk_below (g:=gb232) (blkV BK232.out) hb);have n1_:=Aside0.mk (blk_below (g:=gb233) (blkV BK233.out) hb);have n2_:=Aside0.mk (below_step (belV2 HB.out GE232.out GE233.out) hb);have n3_:=Aside0.mk (hbox);have n4_:=Aside0.mk ((by rw [hg];exact (below_size (belV2 HB.out GE232.out GE233.out)):w.heap.size≤gb234));have n5_:=Aside0.mk ((by rw [hg];exact (below_size (belV2 HB.out GE232.out GE233.out)):w.heap.size≤gb234));have n6_:=Aside0.mk ((by rw [hg];exact Nat.ne_of_lt (blk_lt (g:=gb232) (blkV BK232.out)):gb232≠gb234));have n7_:=Aside0.mk ((by rw [hg];exact Nat.ne_of_gt (blk_lt (g:=gb232) (blkV BK232.out)):gb234≠gb232));have n8_:=Aside0.mk ((by rw [hg];exact Nat.ne_of_lt (blk_lt (g:=gb233) (blkV BK233.out)):gb233≠gb234));have n9_:=Aside0.mk ((by rw [hg];exact Nat.ne_of_gt (blk_lt (g:=gb233) (blkV BK233.out)):gb234≠gb233));clear BK232;clear BK233;clear HB;have BK232:=n0_;have BK233:=n1_;have HB:=n2_;have BK234:=n3_;have GW234:=n4_;have GE234:=n5_;have NB232_234:=n6_;have NB234_232:=n7_;have NB233_234:=n8_;have NB234_233:=n9_;clear n0_ n1_ n2_ n3_ n4_ n5_ n6_ n7_ n8_ n9_;clear hb hbox hg;have hnb92:=NB232_233.out;have hnc92:=NB233_232.out;have hnb93:=NB232_234.out;have hnc93:=NB234_232.out;obtain ⟨hcz94_0,hcz94_1,hcz94_2,hcz94_3,hfz94_0,hfz94_1,hfz94_2,hfz94_3⟩:=bcells4 BK232.out)|((with_reducible refine gate_callee (f:=65) rfl ?_);refine goesL_ (some 12) rfl rfl Try.func65 (by kernel_rfl) rfl #[.agg #[.int .i64 a0_0,.int .i64 a0_1,.slice A0_2 l0_2.length c0_2,.slice A0_3 l0_3.length c0_3]] rfl (by (try simp only [List.map_toArray,List.map_cons,List.map_nil]);first|done|rfl|(simp only [List.length_drop,List.length_take];rfl)) ?_;(with_reducible refine (bitmap_sound.calls k a0_0 a0_1 _ _ l0_2 _ _ l0_3 true _ ?side1 ?side2 ?side3 ?side4 A3.out).mono ?_);(case side1=>exact cV (Kd.C_below HR0_2.out HB.out));(case side2=>exact HC0_2.out);(case side3=>exact cV (Kd.C_below HR0_3.out HB.out));(case side4=>exact HC0_3.out);rintro e w95 ⟨rfl,hb⟩;refine ⟨_,rfl,?_⟩;have n0_:=Aside0.mk (blk_below (g:=gb232) (blkV BK232.out) hb);have n1_:=Aside0.mk (blk_below (g:=gb233) (blkV BK233.out) hb);have n2_:=Aside0.mk (blk_below (g:=gb234) (blkV BK234.out) hb);have n3_:=Aside0.mk (below_step (belV3 HB.out GE232.out GE233.out GE234.out) hb);clear BK232;clear BK233;clear BK234;clear HB;have BK232:=n0_;have BK233:=n1_;have BK234:=n2_;have HB:=n3_;clear n0_ n1_ n2_ n3_;(try clear hb);(try clear hb2);(try clear hk);(try clear hi);have hnb96:=NB233_234.out;have hnc96:=NB234_233.out;obtain ⟨hcz97_0,hcz97_1,hcz97_2,hfz97_0,hfz97_1,hfz97_2⟩:=bcells3 BK233.out)|((with_reducible refine gate_callee (f:=39) rfl ?_);refine goesL_ (some 16) rfl rfl Try.func39 (by kernel_rfl) rfl #[.agg #[.bool a1_0,.slice A1_1 l1_1.length c1_1,.slice A1_2 l1_2.length c1_2]] rfl (by (try simp only [List.map_toArray,List.map_cons,List.map_nil]);first|done|rfl|(simp only [List.length_drop,List.length_take];rfl)) ?_;(with_reducible refine (bitmap_Check.calls k a1_0 _ _ l1_1 _ _ l1_2 t236 _ ?side1 ?side2 ?side3 ?side4 A5.out).mono ?_);(case side1=>exact cV (Kd.C_below HR1_1.out HB.out));(case side2=>exact HC1_1.out);(case side3=>exact cV (Kd.C_below HR1_2.out HB.out));(case side4=>exact HC1_2.out);rintro e w98 ⟨rfl,hb⟩;refine ⟨_,rfl,?_⟩;have n0_:=Aside0.mk (blk_below (g:=gb232) (blkV BK232.out) hb);have n1_:=Aside0.mk (blk_below (g:=gb233) (blkV BK233.out) hb);have n2_:=Aside0.mk (blk_below (g:=gb234) (blkV BK234.out) hb);have n3_:=Aside0.mk (below_step (belV3 HB.out GE232.out GE233.out GE234.out) hb);clear BK232;clear BK233;clear BK234;clear HB;have BK232:=n0_;have BK233:=n1_;have BK234:=n2_;have HB:=n3_;clear n0_ n1_ n2_ n3_;(try clear hb);(try clear hb2);(try clear hk);(try clear hi);obtain ⟨hcz99_0,hcz99_1,hcz99_2,hcz99_3,hfz99_0,hfz99_1,hfz99_2,hfz99_3⟩:=bcells4 BK234.out))
   refine bodyPost_ret (results_ct rfl _ _ gb234 38 #[.int .i64 0,.int .i64 0,.slice none 0 0,.slice none 0 0] (0,0) _ rfl (by (with_reducible repeat (first|refine blk_drewN ?_ _|refine blk_drew ?_|refine blk_alloc ?_ _));refine blk_put (cs:=#[.int .i64 0,.int .i64 0,.slice none 0 0,.slice none 0 0]) ?_ 3 _ rfl;(with_reducible repeat (first|refine blk_drewN ?_ _|refine blk_drew ?_|refine blk_alloc ?_ _));refine blk_put (cs:=#[.int .i64 0,.int .i64 0,.slice none 0 0,.slice none 0 0]) ?_ 2 _ rfl;(with_reducible repeat (first|refine blk_drewN ?_ _|refine blk_drew ?_|refine blk_alloc ?_ _));refine blk_put (cs:=#[.int .i64 0,.int .i64 0,.slice none 0 0,.slice none 0 0]) ?_ 1 _ rfl;(with_reducible repeat (first|refine blk_drewN ?_ _|refine blk_drew ?_|refine blk_alloc ?_ _));refine blk_put (cs:=#[.int .i64 0,.int .i64 0,.slice none 0 0,.slice none 0 0]) ?_ 0 _ rfl;(with_reducible repeat (first|refine blk_drewN ?_ _|refine blk_drew ?_|refine blk_alloc ?_ _));exact BK234.out) Try.underlying38 rfl (by kernel_rfl)) rfl ?_
   exact ⟨_,_,by first|rfl|(simp [errW_none,errW_some] <;> rfl)|(simp [*,errW_none,errW_some] <;> rfl),by first|exact Kd.R_nil _ _ _ _ _|exact Kd.N_nil _ _ _ _ _|exact Kd.V_nil _ _ _ _ _|exact Kd.Q_nil _ _ _ _ _|exact Kd.S_nil _ _ _ _ _,by first|exact Kd.R_nil _ _ _ _ _|exact Kd.N_nil _ _ _ _ _|exact Kd.V_nil _ _ _ _ _|exact Kd.Q_nil _ _ _ _ _|exact Kd.S_nil _ _ _ _ _,by repeat (first|(with_reducible first|exact HB.out|apply below_alloc|apply pw_below_drewN|apply below_drew1|refine below_set ?_ GE232.out|refine below_set ?_ GE233.out|refine below_set ?_ GE234.out)|exact HB.out)⟩
 replace c4:=Bool.eq_false_iff.mpr c4;subst c4
 have H1:(some (0,0,([]:List Int),([]:List Int),4))=some (r1,r2,r3,r4,r5):=by rw [if_neg (show ¬ (false=true) by decide)] at H;exact H
 clear H
 have H:=H1;clear H1
 simp only [Option.some.injEq,Prod.mk.injEq] at H
 obtain ⟨rfl,rfl,rfl,rfl,rfl⟩:=H
 go_enter Try.func30,Try.ntmps30
 go_wp2_with (first|((with_reducible refine gate_dst (N:=2) rfl ?_);refine box_event ?hg (N:=2) ?hd (cs:=#[.int .i64 a0_0,.int .i64 a0_1,.slice A0_2 l0_2.length c0_2,.slice A0_3 l0_3.length c0_3]) (t:=38) ?hr ?_;(case hd=>rfl);(case hg=>rfl);(case hr=>first|(go_simp;done)|(go_simp;rfl));intro gb232 hg w100 hbox hb;have n0_:=Aside0.mk (below_step (belV HB.out) hb);have n1_:=Aside0.mk (hbox);have n2_:=Aside0.mk ((by rw [hg];exact (below_size (belV HB.out)):w.heap.size≤gb232));have n3_:=Aside0.mk ((by rw [hg];exact (below_size (belV HB.out)):w.heap.size≤gb232));clear HB;have HB:=n0_;have BK232:=n1_;have GW232:=n2_;have GE232:=n3_;clear n0_ n1_ n2_ n3_;clear hb hbox hg)|((with_reducible refine gate_dst (N:=3) rfl ?_);refine box_event ?hg (N:=3) ?hd (cs:=#[.bool a1_0,.slice A1_1 l1_1.length c1_1,.slice A1_2 l1_2.length c1_2]) (t:=51) ?hr ?_;(case hd=>rfl);(case hg=>rfl);(case hr=>first|(go_simp;done)|(go_simp;rfl));intro gb233 hg w101 hbox hb;have n0_:=Aside0.mk (blk_below (g:=gb232) (blkV BK232.out) hb);have n1_:=Aside0.mk (below_step (belV1 HB.out GE232.out) hb);have n2_:=Aside0.mk (hbox);have n3_:=Aside0.mk ((by rw [hg];exact (below_size (belV1 HB.out GE232.out)):w.heap.size≤gb233));have n4_:=Aside0.mk ((by rw [hg];exact (below_size (belV1 HB.out GE232.out)):w.heap.size≤gb233));have n5_:=Aside0.mk ((by rw [hg];exact Nat.ne_of_lt (blk_lt (g:=gb232) (blkV BK232.out)):gb232≠gb233));have n6_:=Aside0.mk ((by rw [hg];exact Nat.ne_of_gt (blk_lt (g:=gb232) (blkV BK232.out)):gb233≠gb232));clear BK232;clear HB;have BK232:=n0_;have HB:=n1_;have BK233:=n2_;have GW233:=n3_;have GE233:=n4_;have NB232_233:=n5_;have NB233_232:=n6_;clear n0_ n1_ n2_ n3_ n4_ n5_ n6_;clear hb hbox hg)|((with_reducible refine gate_dst (N:=4) rfl ?_);refine box_event ?hg (N:=4) ?hd (cs:=#[.int .i64 0,.int .i64 0,.slice none 0 0,.slice none 0 0]) (t:=38) ?hr ?_;(case hd=>rfl);(case hg=>rfl);(case hr=>first|(go_simp;done)|(go_simp;rfl));intro gb234 hg w102 hbox hb;have n0_:=Aside0.mk (blk_below (g:=gb232) (blkV BK232.out) hb);have n1_:=Aside0.mk (blk_below (g:=gb233) (blkV BK233.out) hb);have n2_:=Aside0.mk (below_step (belV2 HB.out GE232.out GE233.out) hb);have n3_:=Aside0.mk (hbox);have n4_:=Aside0.mk ((by rw [hg];exact (below_size (belV2 HB.out GE232.out GE233.out)):w.heap.size≤gb234));have n5_:=Aside0.mk ((by rw [hg];exact (below_size (belV2 HB.out GE232.out GE233.out)):w.heap.size≤gb234));have n6_:=Aside0.mk ((by rw [hg];exact Nat.ne_of_lt (blk_lt (g:=gb232) (blkV BK232.out)):gb232≠gb234));have n7_:=Aside0.mk ((by rw [hg];exact Nat.ne_of_gt (blk_lt (g:=gb232) (blkV BK232.out)):gb234≠gb232));have n8_:=Aside0.mk ((by rw [hg];exact Nat.ne_of_lt (blk_lt (g:=gb233) (blkV BK233.out)):gb233≠gb234));have n9_:=Aside0.mk ((by rw [hg];exact Nat.ne_of_gt (blk_lt (g:=gb233) (blkV BK233.out)):gb234≠gb233));clear BK232;clear BK233;clear HB;have BK232:=n0_;have BK233:=n1_;have HB:=n2_;have BK234:=n3_;have GW234:=n4_;have GE234:=n5_;have NB232_234:=n6_;have NB234_232:=n7_;have NB233_234:=n8_;have NB234_233:=n9_;clear n0_ n1_ n2_ n3_ n4_ n5_ n6_ n7_ n8_ n9_;clear hb hbox hg;have hnb103:=NB232_233.out;have hnc103:=NB233_232.out;have hnb104:=NB232_234.out;have hnc104:=NB234_232.out;obtain ⟨hcz105_0,hcz105_1,hcz105_2,hcz105_3,hfz105_0,hfz105_1,hfz105_2,hfz105_3⟩:=bcells4 BK232.out)|((with_reducible refine gate_callee (f:=65) rfl ?_);refine goesL_ (some 12) rfl rfl Try.func65 (by kernel_rfl) rfl #[.agg #[.int .i64 a0_0,.int .i64 a0_1,.slice A0_2 l0_2.length c0_2,.slice A0_3 l0_3.length c0_3]] rfl (by (try simp only [List.map_toArray,List.map_cons,List.map_nil]);first|done|rfl|(simp only [List.length_drop,List.length_take];rfl)) ?_;(with_reducible refine (bitmap_sound.calls k a0_0 a0_1 _ _ l0_2 _ _ l0_3 false _ ?side1 ?side2 ?side3 ?side4 A3.out).mono ?_);(case side1=>exact cV (Kd.C_below HR0_2.out HB.out));(case side2=>exact HC0_2.out);(case side3=>exact cV (Kd.C_below HR0_3.out HB.out));(case side4=>exact HC0_3.out);rintro e w106 ⟨rfl,hb⟩;refine ⟨_,rfl,?_⟩;have n0_:=Aside0.mk (blk_below (g:=gb232) (blkV BK232.out) hb);have n1_:=Aside0.mk (blk_below (g:=gb233) (blkV BK233.out) hb);have n2_:=Aside0.mk (blk_below (g:=gb234) (blkV BK234.out) hb);have n3_:=Aside0.mk (below_step (belV3 HB.out GE232.out GE233.out GE234.out) hb);clear BK232;clear BK233;clear BK234;clear HB;have BK232:=n0_;have BK233:=n1_;have BK234:=n2_;have HB:=n3_;clear n0_ n1_ n2_ n3_;(try clear hb);(try clear hb2);(try clear hk);(try clear hi);have hnb107:=NB234_233.out;have hnc107:=NB233_234.out;obtain ⟨hcz108_0,hcz108_1,hcz108_2,hcz108_3,hfz108_0,hfz108_1,hfz108_2,hfz108_3⟩:=bcells4 BK234.out))
 refine bodyPost_ret (results_ct rfl _ _ gb234 38 #[.int .i64 0,.int .i64 0,.slice none 0 0,.slice none 0 0] (0,0) _ rfl (by (with_reducible repeat (first|refine blk_drewN ?_ _|refine blk_drew ?_|refine blk_alloc ?_ _));refine blk_put (cs:=#[.int .i64 0,.int .i64 0,.slice none 0 0,.slice none 0 0]) ?_ 3 _ rfl;(with_reducible repeat (first|refine blk_drewN ?_ _|refine blk_drew ?_|refine blk_alloc ?_ _));refine blk_put (cs:=#[.int .i64 0,.int .i64 0,.slice none 0 0,.slice none 0 0]) ?_ 2 _ rfl;(with_reducible repeat (first|refine blk_drewN ?_ _|refine blk_drew ?_|refine blk_alloc ?_ _));refine blk_put (cs:=#[.int .i64 0,.int .i64 0,.slice none 0 0,.slice none 0 0]) ?_ 1 _ rfl;(with_reducible repeat (first|refine blk_drewN ?_ _|refine blk_drew ?_|refine blk_alloc ?_ _));refine blk_put (cs:=#[.int .i64 0,.int .i64 0,.slice none 0 0,.slice none 0 0]) ?_ 0 _ rfl;(with_reducible repeat (first|refine blk_drewN ?_ _|refine blk_drew ?_|refine blk_alloc ?_ _));exact BK234.out) Try.underlying38 rfl (by kernel_rfl)) rfl ?_
 exact ⟨_,_,by first|rfl|(simp [errW_none,errW_some] <;> rfl)|(simp [*,errW_none,errW_some] <;> rfl),by first|exact Kd.R_nil _ _ _ _ _|exact Kd.N_nil _ _ _ _ _|exact Kd.V_nil _ _ _ _ _|exact Kd.Q_nil _ _ _ _ _|exact Kd.S_nil _ _ _ _ _,by first|exact Kd.R_nil _ _ _ _ _|exact Kd.N_nil _ _ _ _ _|exact Kd.V_nil _ _ _ _ _|exact Kd.Q_nil _ _ _ _ _|exact Kd.S_nil _ _ _ _ _,by repeat (first|(with_reducible first|exact HB.out|apply below_alloc|apply pw_below_drewN|apply below_drew1|refine below_set ?_ GE232.out|refine below_set ?_ GE233.out|refine below_set ?_ GE234.out)|exact HB.out)⟩

/-! ### bitmap_Compose: function 19 -/
def bitmap_Compose.l0 : Nat → List (S51) → Int → Int → Int → Int → List Int → List Int → Option (Int × Int × List Int × List Int × Int)
 | 0,_,_,_,_,_,_,_=>none
 | k+1,x22,x23,x24,x262000,x262001,x262002,x262003=>if x24 < x23 then (if 0≤x24 then (if x24 < (x22.length:Int) then ((bitmap_Draw.f k x262000 x262001 x262002 x262003 ((rd_T51 x22 x24).f0) ((rd_T51 x22 x24).f1) ((rd_T51 x22 x24).f2)).bind fun bt264=>(if bt264.2.2.2.2=0 then (bitmap_Compose.l0 k x22 x23 (wrap64 (x24+1)) bt264.1 bt264.2.1 bt264.2.2.1 bt264.2.2.2.1) else (some (0,0,([]:List Int),([]:List Int),bt264.2.2.2.2)))) else (none)) else (none)) else (some (x262000,x262001,x262002,x262003,0))
def bitmap_Compose.f (k : Nat) (l0 : List (S51)) (a1 : Int) (a2 : Int) : Option (Int × Int × List Int × List Int × Int) := (bitmap_Empty.f k a1 a2).bind fun bt252 => (if bt252.2.2.2.2 = 0 then (bitmap_Compose.l0 k l0 (l0.length : Int) 0 bt252.1 bt252.2.1 bt252.2.2.1 bt252.2.2.2.1) else (some (0, 0, ([] : List Int), ([] : List Int), bt252.2.2.2.2)))
theorem bitmap_Compose.mono_l:∀ k,(∀ y0 y1 y2 y3 y4 y5 y6,LeO (bitmap_Compose.l0 k y0 y1 y2 y3 y4 y5 y6) (bitmap_Compose.l0 (k+1) y0 y1 y2 y3 y4 y5 y6))
 | 0=>fun _ _ _ _ _ _ _ r h=>by simp [bitmap_Compose.l0] at h
 | k+1=>by
  have ih0:=bitmap_Compose.mono_l k
  · intro y0 y1 y2 y3 y4 y5 y6
    unfold bitmap_Compose.l0
    repeat' first
    | (with_reducible exact ih0 _ _ _ _ _ _ _)
    | (with_reducible exact bitmap_Draw.mono _ _ _ _ _ _ _ _)
    | (with_reducible exact bitmap_Empty.mono _ _ _)
    | (with_reducible exact LeO.refl _)
    | (with_reducible exact LeO.none _)
    | (with_reducible refine LeO.ite ?_ ?_)
    | (with_reducible refine LeO.bind ?_ (fun _=>?_))
    | exact LeO.none _
    | refine LeO.ite ?_ ?_
    | refine LeO.bind ?_ (fun _=>?_)
theorem bitmap_Compose.mono:∀ a0 a1 a2 k,LeO (bitmap_Compose.f k a0 a1 a2) (bitmap_Compose.f (k+1) a0 a1 a2):=by
 intro a0 a1 a2 k
 have ih0:=bitmap_Compose.mono_l k
 unfold bitmap_Compose.f
 repeat' first
  | (with_reducible exact ih0 _ _ _ _ _ _ _)
  | (with_reducible exact bitmap_Draw.mono _ _ _ _ _ _ _ _)
  | (with_reducible exact bitmap_Empty.mono _ _ _)
  | (with_reducible exact LeO.refl _)
  | (with_reducible exact LeO.none _)
  | (with_reducible refine LeO.ite ?_ ?_)
  | (with_reducible refine LeO.bind ?_ (fun _=>?_))
  | exact LeO.none _
  | refine LeO.ite ?_ ?_
  | refine LeO.bind ?_ (fun _=>?_)
set_option maxHeartbeats 8000000 in
set_option maxRecDepth 100000 in
theorem bitmap_Compose.calls (k:Nat) (A0:Option Addr) (c0:Nat) (l0:List (S51)) (a1:Int) (a2:Int) (r1:Int) (r2:Int) (r3:List Int) (r4:List Int) (r5:Int) (w:World) (hr0:Kd.C k51 w A0 l0.length l0) (hc0:l0.length≤c0) (h:bitmap_Compose.f k l0 a1 a2=some (r1,r2,r3,r4,r5)) :
 Calls Try.prog 19 #[.slice A0 l0.length c0,.int .i64 a1,.int .i64 a2] w fun e w'=>∃ v2_ v3_:Value,e=.returned (.tuple #[.agg #[.int .i64 r1,.int .i64 r2,v2_,v3_],.int .i64 r5])∧Kd.R (Kd.int .i64) 3 w' w.heap.size (fun k_=>some k_≠(v3_:Value).ownBlock) v2_ r3∧Kd.R (Kd.int .i64) 3 w' w.heap.size (fun k_=>some k_≠(v2_:Value).ownBlock) v3_ r4∧Below w.heap.size w w':=by
 have hu38:=Try.underlying38
 have hu51:=Try.underlying51
 have HR0:=Aside0.mk hr0
 have HC0:=Aside0.mk hc0;clear hr0 hc0;have HB:=Aside0.mk (Below.refl w.heap.size w)
 have H:((bitmap_Empty.f k a1 a2).bind fun bt252=>(if bt252.2.2.2.2=0 then (bitmap_Compose.l0 k l0 (l0.length:Int) 0 bt252.1 bt252.2.1 bt252.2.2.1 bt252.2.2.2.1) else (some (0,0,([]:List Int),([]:List Int),bt252.2.2.2.2))))=some (r1,r2,r3,r4,r5):=h
 clear h
 replace H:=Option.bind_eq_some_iff.mp H
 obtain ⟨⟨t252,t253,t254,t257,t260⟩,A40,H⟩:=H
 replace H:(if t260=0 then (bitmap_Compose.l0 k l0 (l0.length:Int) 0 t252 t253 t254 t257) else (some (0,0,([]:List Int),([]:List Int),t260)))=some (r1,r2,r3,r4,r5):=H
 have A4:=Aside0.mk A40;clear A40
 by_cases c5:t260=0
 · rw [if_pos c5] at H
   have c5b0:(t260 == 0)=true:=beq_iff_eq.mpr c5
   have c5b1:(t260 != 0)=false:=bne_eq_false_iff_eq.mpr c5;clear c5
   have H':=Aside0.mk H;clear H
   go_enter Try.func19,Try.ntmps19
   go_wp2_with (first|((with_reducible refine gate_dst (N:=6) rfl ?_);refine box_event ?hg (N:=6) ?hd (cs:=#[.int .i64 0,.int .i64 0,.slice none 0 0,.slice none 0 0]) (t:=38) ?hr ?_;(case hd=>rfl);(case hg=>rfl);(case hr=>first|(go_simp;done)|(go_simp;rfl));intro gb251 hg w6 hbox hb;have n0_:=Aside0.mk (below_step (belV HB.out) hb);have n1_:=Aside0.mk (hbox);have n2_:=Aside0.mk ((by rw [hg];exact (below_size (belV HB.out)):w.heap.size≤gb251));have n3_:=Aside0.mk ((by rw [hg];exact (below_size (belV HB.out)):w.heap.size≤gb251));clear HB;have HB:=n0_;have BK251:=n1_;have GW251:=n2_;have GE251:=n3_;clear n0_ n1_ n2_ n3_;clear hb hbox hg)|((with_reducible refine gate_callee (f:=23) rfl ?_);refine goesL_ (some 15) rfl rfl Try.func23 (by kernel_rfl) rfl #[.int .i64 a1,.int .i64 a2] rfl (by (try simp only [List.map_toArray,List.map_cons,List.map_nil]);first|done|rfl|(simp only [List.length_drop,List.length_take];rfl)) ?_;(with_reducible refine (bitmap_Empty.calls k a1 a2 t252 t253 t254 t257 t260 _ A4.out).mono ?_);rintro e w7 ⟨v255,v258,rfl,ho0,ho1,hb⟩;refine ⟨_,rfl,?_⟩;have n0_:=Aside0.mk (Kd.R_lower ho0 (below_size (belV1 HB.out GE251.out)));have n1_:=Aside0.mk (Kd.R_lower ho1 (below_size (belV1 HB.out GE251.out)));have n2_:=Aside0.mk (blk_below (g:=gb251) (blkV BK251.out) hb);have n3_:=Aside0.mk (below_step (belV1 HB.out GE251.out) hb);clear BK251;clear HB;have HO256:=n0_;have HO259:=n1_;have BK251:=n2_;have HB:=n3_;clear n0_ n1_ n2_ n3_;(try clear hb);(try clear hb2);(try clear hk);(try clear hi);(try clear ho0);(try clear ho1))|((with_reducible refine gate_dst (N:=8) rfl ?_);refine box_event ?hg (N:=8) ?hd (cs:=#[.int .i64 0,.int .i64 0,.slice none 0 0,.slice none 0 0]) (t:=38) ?hr ?_;(case hd=>rfl);(case hg=>rfl);(case hr=>first|(go_simp;done)|(go_simp;rfl));intro gb261 hg w8 hbox hb;have n0_:=Aside0.mk (Kd.R_below (rowV HO256.out) hb);have n1_:=Aside0.mk (Kd.R_below (rowV HO259.out) hb);have n2_:=Aside0.mk (blk_below (g:=gb251) (blkV BK251.out) hb);have n3_:=Aside0.mk (below_step (belV1 HB.out GE251.out) hb);have n4_:=Aside0.mk (hbox);have n5_:=Aside0.mk ((by rw [hg];exact (below_size (belV1 HB.out GE251.out)):w.heap.size≤gb261));have n6_:=Aside0.mk ((by rw [hg];exact (below_size (belV1 HB.out GE251.out)):w.heap.size≤gb261));have n7_:=Aside0.mk ((by rw [hg];exact Nat.ne_of_lt (blk_lt (g:=gb251) (blkV BK251.out)):gb251≠gb261));have n8_:=Aside0.mk ((by rw [hg];exact Nat.ne_of_gt (blk_lt (g:=gb251) (blkV BK251.out)):gb261≠gb251));clear HO256;clear HO259;clear BK251;clear HB;have HO256:=n0_;have HO259:=n1_;have BK251:=n2_;have HB:=n3_;have BK261:=n4_;have GW261:=n5_;have GE261:=n6_;have NB251_261:=n7_;have NB261_251:=n8_;clear n0_ n1_ n2_ n3_ n4_ n5_ n6_ n7_ n8_;clear hb hbox hg;have hnb9:=NB261_251.out;have hnc9:=NB251_261.out;obtain ⟨hcz10_0,hcz10_1,hcz10_2,hcz10_3,hfz10_0,hfz10_1,hfz10_2,hfz10_3⟩:=bcells4 BK261.out;obtain ⟨Ao11,co11,eo11⟩:=Kd.R_slice HO256.out;subst eo11;obtain ⟨Ao12,co12,eo12⟩:=Kd.R_slice HO259.out;subst eo12))
   go_loopg [24] k (fun kq v24 w'=>∃ (x24_1:Int) (x252000_1:Int) (x252001_1:Int) (x262000_1:Int) (x262001_1:Int) (x262002_1:List Int) (x262003_1:List Int) (u262002:Value) (u262003:Value),v24=.int .i64 x24_1∧Aside0 (bitmap_Compose.l0 kq l0 (l0.length:Int) x24_1 x262000_1 x262001_1 x262002_1 x262003_1=some (r1,r2,r3,r4,r5))∧Aside0 (kq≤k)∧Aside0 (Kd.R (Kd.int .i64) 3 w' w.heap.size (fun k_=>some k_≠(u262003:Value).ownBlock) u262002 x262002_1)∧Aside0 (Kd.R (Kd.int .i64) 3 w' w.heap.size (fun k_=>some k_≠(u262002:Value).ownBlock) u262003 x262003_1)∧Aside0 (w'.heap[gb251]?=some (.cells #[.int .i64 x252000_1,.int .i64 x252001_1,(.slice none 0 0),(.slice none 0 0)] 38 (0,0)))∧Aside0 (w'.heap[gb261]?=some (.cells #[.int .i64 x262000_1,.int .i64 x262001_1,u262002,u262003] 38 (0,0)))∧Aside0 (Below w.heap.size w w'))
   case atStart=>exact ⟨(0),(0),(0),(t252),(t253),(t254),(t257),(.slice Ao11 t254.length co11),(.slice Ao12 t257.length co12),okV,H',⟨Nat.le_refl _⟩,⟨by (with_reducible repeat (first|apply Kd.R_alloc|apply Kd.R_drewN|apply Kd.R_drew));exact Kd.R_mono (Kd.R_put4 HO256.out BK261.out (by decide)) (fun _ hk=>hk.1)⟩,⟨by (with_reducible repeat (first|apply Kd.R_alloc|apply Kd.R_drewN|apply Kd.R_drew));exact Kd.R_mono (Kd.R_put4 HO259.out BK261.out (by decide)) (fun _ hk=>hk.1)⟩,⟨blkW BK251.out NB251_261.out⟩,⟨by (with_reducible repeat (first|refine blk_drewN ?_ _|refine blk_drew ?_|refine blk_alloc ?_ _));refine blk_put (cs:=#[.int .i64 t252,.int .i64 t253,.slice Ao11 t254.length co11,.slice none 0 0]) ?_ 3 _ rfl;(with_reducible repeat (first|refine blk_drewN ?_ _|refine blk_drew ?_|refine blk_alloc ?_ _));refine blk_put (cs:=#[.int .i64 t252,.int .i64 t253,.slice none 0 0,.slice none 0 0]) ?_ 2 _ rfl;(with_reducible repeat (first|refine blk_drewN ?_ _|refine blk_drew ?_|refine blk_alloc ?_ _));refine blk_put (cs:=#[.int .i64 t252,.int .i64 0,.slice none 0 0,.slice none 0 0]) ?_ 1 _ rfl;(with_reducible repeat (first|refine blk_drewN ?_ _|refine blk_drew ?_|refine blk_alloc ?_ _));refine blk_put (cs:=#[.int .i64 0,.int .i64 0,.slice none 0 0,.slice none 0 0]) ?_ 0 _ rfl;(with_reducible repeat (first|refine blk_drewN ?_ _|refine blk_drew ?_|refine blk_alloc ?_ _));exact BK261.out⟩,⟨belV2 HB.out GE251.out GE261.out⟩⟩
   case round =>
    clear H'
    try clear c1;try clear c2;try clear p2;try clear c5;try clear c5b0;try clear c5b1;try clear c9;try clear hcz10_0 hcz10_1 hcz10_2 hcz10_3;try clear hfz10_0 hfz10_1 hfz10_2 hfz10_3
    obtain ⟨x24_1,x252000_1,x252001_1,x262000_1,x262001_1,x262002_1,x262003_1,u262002,u262003,rfl,HA,HK1,HO_262002,HO_262003,BK251,BK261,HB⟩:=hrel
    cases gk with
    | zero=>exact absurd HA.out (by simp [bitmap_Compose.l0])
    | succ k1 =>
     have H:=HA.out;clear HA
     simp only [bitmap_Compose.l0] at H
     by_cases c13:x24_1 < (l0.length:Int)
     · rw [if_pos c13] at H
       have c13b0:decide (x24_1 < (l0.length:Int))=true:=decide_eq_true c13;clear c13
       by_cases c14:0≤x24_1
       · rw [if_pos c14] at H
         have c14b0:decide (0≤x24_1)=true:=decide_eq_true c14;clear c14
         by_cases c15:x24_1 < (l0.length:Int)
         · rw [if_pos c15] at H
           have c15b0:decide (x24_1 < (l0.length:Int))=true:=decide_eq_true c15;clear c15
           replace H:=Option.bind_eq_some_iff.mp H
           obtain ⟨⟨t264,t265,t266,t269,t272⟩,A160,H⟩:=H
           replace H:(if t272=0 then (bitmap_Compose.l0 k1 l0 (l0.length:Int) (wrap64 (x24_1+1)) t264 t265 t266 t269) else (some (0,0,([]:List Int),([]:List Int),t272)))=some (r1,r2,r3,r4,r5):=H
           have A16:=Aside0.mk A160;clear A160
           by_cases c17:t272=0
           · rw [if_pos c17] at H
             have c17b0:(t272 == 0)=true:=beq_iff_eq.mpr c17
             have c17b1:(t272 != 0)=false:=bne_eq_false_iff_eq.mpr c17;clear c17
             have H':=Aside0.mk H;clear H
             have p262:0≤(x24_1:Int):=of_decide_eq_true asV
             have q262:x24_1 < (l0.length:Int):=of_decide_eq_true asV
             obtain ⟨ad262,A262_1,c262_1,A262_2,c262_2,e262,hx262_0,hx262_1,hx262_2,hl262_1,hi262_1,hl262_2,hi262_2⟩:=at_T51 HR0.out x24_1 p262 q262
             cases e262
             replace hx262_0:=(HB.out.cell (World.block_lt_of_cell? w _ hx262_0)).trans hx262_0
             replace hx262_1:=(HB.out.cell (World.block_lt_of_cell? w _ hx262_1)).trans hx262_1
             replace hx262_2:=(HB.out.cell (World.block_lt_of_cell? w _ hx262_2)).trans hx262_2
             have HR262_1:=Aside0.mk hi262_1
             have HC262_1:=Aside0.mk hl262_1;clear hi262_1 hl262_1
             have HR262_2:=Aside0.mk hi262_2
             have HC262_2:=Aside0.mk hl262_2;clear hi262_2 hl262_2
             replace p262:=eq_true p262
             replace q262:=eq_true q262
             go_wp2_with (first|((with_reducible refine gate_dst (N:=11) rfl ?_);refine box_event ?hg (N:=11) ?hd (cs:=#[.bool false,.slice none 0 0,.slice none 0 0]) (t:=51) ?hr ?_;(case hd=>rfl);(case hg=>rfl);(case hr=>first|(go_simp;done)|(go_simp;rfl));intro gb263 hg w18 hbox hb;have n0_:=Aside0.mk (Kd.R_below (rowV HO_262002.out) hb);have n1_:=Aside0.mk (Kd.R_below (rowV HO_262003.out) hb);have n2_:=Aside0.mk (blk_below (g:=gb251) (blkV BK251.out) hb);have n3_:=Aside0.mk (blk_below (g:=gb261) (blkV BK261.out) hb);have n4_:=Aside0.mk (below_step (belV2 HB.out GE251.out GE261.out) hb);have n5_:=Aside0.mk (hbox);have n6_:=Aside0.mk ((by rw [hg];exact (below_size (belV2 HB.out GE251.out GE261.out)):w.heap.size≤gb263));have n7_:=Aside0.mk ((by rw [hg];exact (below_size (belV2 HB.out GE251.out GE261.out)):w.heap.size≤gb263));have n8_:=Aside0.mk ((by rw [hg];exact Nat.ne_of_lt (blk_lt (g:=gb251) (blkV BK251.out)):gb251≠gb263));have n9_:=Aside0.mk ((by rw [hg];exact Nat.ne_of_gt (blk_lt (g:=gb251) (blkV BK251.out)):gb263≠gb251));have n10_:=Aside0.mk ((by rw [hg];exact Nat.ne_of_lt (blk_lt (g:=gb261) (blkV BK261.out)):gb261≠gb263));have n11_:=Aside0.mk ((by rw [hg];exact Nat.ne_of_gt (blk_lt (g:=gb261) (blkV BK261.out)):gb263≠gb261));clear HO_262002;clear HO_262003;clear BK251;clear BK261;clear HB;have HO_262002:=n0_;have HO_262003:=n1_;have BK251:=n2_;have BK261:=n3_;have HB:=n4_;have BK263:=n5_;have GW263:=n6_;have GE263:=n7_;have NB251_263:=n8_;have NB263_251:=n9_;have NB261_263:=n10_;have NB263_261:=n11_;clear n0_ n1_ n2_ n3_ n4_ n5_ n6_ n7_ n8_ n9_ n10_ n11_;clear hb hbox hg;have hnb19:=NB263_251.out;have hnc19:=NB251_263.out;have hnb20:=NB263_261.out;have hnc20:=NB261_263.out;obtain ⟨hcz21_0,hcz21_1,hcz21_2,hfz21_0,hfz21_1,hfz21_2⟩:=bcells3 BK263.out;have hnb22:=NB261_251.out;have hnc22:=NB251_261.out;obtain ⟨hcz23_0,hcz23_1,hcz23_2,hcz23_3,hfz23_0,hfz23_1,hfz23_2,hfz23_3⟩:=bcells4 BK261.out;obtain ⟨Ao24,co24,eo24⟩:=Kd.R_slice HO_262002.out;subst eo24;obtain ⟨Ao25,co25,eo25⟩:=Kd.R_slice HO_262003.out;subst eo25)|((with_reducible refine gate_callee (f:=30) rfl ?_);refine goesL_ (some 31) rfl rfl Try.func30 (by kernel_rfl) rfl #[.agg #[.int .i64 x262000_1,.int .i64 x262001_1,.slice Ao24 x262002_1.length co24,.slice Ao25 x262003_1.length co25],.agg #[.bool ((rd_T51 l0 x24_1).f0),.slice A262_1 ((rd_T51 l0 x24_1).f1).length c262_1,.slice A262_2 ((rd_T51 l0 x24_1).f2).length c262_2]] rfl (by (try simp only [List.map_toArray,List.map_cons,List.map_nil]);first|done|rfl|(simp only [List.length_drop,List.length_take];rfl)) ?_;(with_reducible refine (bitmap_Draw.calls k1 x262000_1 x262001_1 _ _ x262002_1 _ _ x262003_1 ((rd_T51 l0 x24_1).f0) _ _ ((rd_T51 l0 x24_1).f1) _ _ ((rd_T51 l0 x24_1).f2) t264 t265 t266 t269 t272 _ ?side1 ?side2 ?side3 ?side4 ?side5 ?side6 ?side7 ?side8 A16.out).mono ?_);(case side1=>refine (Kd.R_reads' (e:=3) (base:=w.heap.size) (ok:=fun k_=>some k_≠(.slice Ao25 x262003_1.length co25:Value).ownBlock) (n:=x262002_1.length) (c:=co24) ?_).2.2;exact (by (with_reducible repeat (first|apply Kd.R_alloc|apply Kd.R_drewN|apply Kd.R_drew));exact (Kd.R_mono (Kd.R_far (p:=⟨gb263,2,none⟩) (Kd.R_far (p:=⟨gb263,1,none⟩) (Kd.R_far (p:=⟨gb263,0,none⟩) (Kd.R_types HO_262002.out BK263.out (by decide)) (fun _ hk=>hk.2) (.bool ((rd_T51 l0 x24_1).f0))) (fun _ hk=>hk.2) (.slice A262_1 ((rd_T51 l0 x24_1).f1).length c262_1)) (fun _ hk=>hk.2) (.slice A262_2 ((rd_T51 l0 x24_1).f2).length c262_2)) (fun _ h_=>h_.1))));(case side2=>exact (Kd.R_reads' HO_262002.out).2.1);(case side3=>refine (Kd.R_reads' (e:=3) (base:=w.heap.size) (ok:=fun k_=>some k_≠(.slice Ao24 x262002_1.length co24:Value).ownBlock) (n:=x262003_1.length) (c:=co25) ?_).2.2;exact (by (with_reducible repeat (first|apply Kd.R_alloc|apply Kd.R_drewN|apply Kd.R_drew));exact (Kd.R_mono (Kd.R_far (p:=⟨gb263,2,none⟩) (Kd.R_far (p:=⟨gb263,1,none⟩) (Kd.R_far (p:=⟨gb263,0,none⟩) (Kd.R_types HO_262003.out BK263.out (by decide)) (fun _ hk=>hk.2) (.bool ((rd_T51 l0 x24_1).f0))) (fun _ hk=>hk.2) (.slice A262_1 ((rd_T51 l0 x24_1).f1).length c262_1)) (fun _ hk=>hk.2) (.slice A262_2 ((rd_T51 l0 x24_1).f2).length c262_2)) (fun _ h_=>h_.1))));(case side4=>exact (Kd.R_reads' HO_262003.out).2.1);(case side5=>exact Kd.C_below HR262_1.out (belV3 HB.out GE251.out GE261.out GE263.out));(case side6=>exact HC262_1.out);(case side7=>exact Kd.C_below HR262_2.out (belV3 HB.out GE251.out GE261.out GE263.out));(case side8=>exact HC262_2.out);rintro e w26 ⟨v267,v270,rfl,ho0,ho1,hb⟩;refine ⟨_,rfl,?_⟩;have n0_:=Aside0.mk (Kd.R_mono (Kd.R_told (Kd.R_told (Kd.R_old (by (with_reducible repeat (first|apply Kd.R_alloc|apply Kd.R_drewN|apply Kd.R_drew));exact (Kd.R_mono (Kd.R_far (p:=⟨gb263,2,none⟩) (Kd.R_far (p:=⟨gb263,1,none⟩) (Kd.R_far (p:=⟨gb263,0,none⟩) (Kd.R_types HO_262002.out BK263.out (by decide)) (fun _ hk=>hk.2) (.bool ((rd_T51 l0 x24_1).f0))) (fun _ hk=>hk.2) (.slice A262_1 ((rd_T51 l0 x24_1).f1).length c262_1)) (fun _ hk=>hk.2) (.slice A262_2 ((rd_T51 l0 x24_1).f2).length c262_2)) (fun _ h_=>h_.1))) hb) (Kd.R_base ho0)) (Kd.R_base ho1)) (fun _ h_=>h_.1));have n1_:=Aside0.mk (Kd.R_mono (Kd.R_told (Kd.R_told (Kd.R_old (by (with_reducible repeat (first|apply Kd.R_alloc|apply Kd.R_drewN|apply Kd.R_drew));exact (Kd.R_mono (Kd.R_far (p:=⟨gb263,2,none⟩) (Kd.R_far (p:=⟨gb263,1,none⟩) (Kd.R_far (p:=⟨gb263,0,none⟩) (Kd.R_types HO_262003.out BK263.out (by decide)) (fun _ hk=>hk.2) (.bool ((rd_T51 l0 x24_1).f0))) (fun _ hk=>hk.2) (.slice A262_1 ((rd_T51 l0 x24_1).f1).length c262_1)) (fun _ hk=>hk.2) (.slice A262_2 ((rd_T51 l0 x24_1).f2).length c262_2)) (fun _ h_=>h_.1))) hb) (Kd.R_base ho0)) (Kd.R_base ho1)) (fun _ h_=>h_.1));have n2_:=Aside0.mk (Kd.R_lower (Kd.R_new' (Kd.R_new' ho0 (Kd.R_lt (by (with_reducible repeat (first|apply Kd.R_alloc|apply Kd.R_drewN|apply Kd.R_drew));exact (Kd.R_mono (Kd.R_far (p:=⟨gb263,2,none⟩) (Kd.R_far (p:=⟨gb263,1,none⟩) (Kd.R_far (p:=⟨gb263,0,none⟩) (Kd.R_types HO_262002.out BK263.out (by decide)) (fun _ hk=>hk.2) (.bool ((rd_T51 l0 x24_1).f0))) (fun _ hk=>hk.2) (.slice A262_1 ((rd_T51 l0 x24_1).f1).length c262_1)) (fun _ hk=>hk.2) (.slice A262_2 ((rd_T51 l0 x24_1).f2).length c262_2)) (fun _ h_=>h_.1))))) (Kd.R_lt (by (with_reducible repeat (first|apply Kd.R_alloc|apply Kd.R_drewN|apply Kd.R_drew));exact (Kd.R_mono (Kd.R_far (p:=⟨gb263,2,none⟩) (Kd.R_far (p:=⟨gb263,1,none⟩) (Kd.R_far (p:=⟨gb263,0,none⟩) (Kd.R_types HO_262003.out BK263.out (by decide)) (fun _ hk=>hk.2) (.bool ((rd_T51 l0 x24_1).f0))) (fun _ hk=>hk.2) (.slice A262_1 ((rd_T51 l0 x24_1).f1).length c262_1)) (fun _ hk=>hk.2) (.slice A262_2 ((rd_T51 l0 x24_1).f2).length c262_2)) (fun _ h_=>h_.1))))) (below_size (belV3 HB.out GE251.out GE261.out GE263.out)));have n3_:=Aside0.mk (Kd.R_lower (Kd.R_new' (Kd.R_new' ho1 (Kd.R_lt (by (with_reducible repeat (first|apply Kd.R_alloc|apply Kd.R_drewN|apply Kd.R_drew));exact (Kd.R_mono (Kd.R_far (p:=⟨gb263,2,none⟩) (Kd.R_far (p:=⟨gb263,1,none⟩) (Kd.R_far (p:=⟨gb263,0,none⟩) (Kd.R_types HO_262002.out BK263.out (by decide)) (fun _ hk=>hk.2) (.bool ((rd_T51 l0 x24_1).f0))) (fun _ hk=>hk.2) (.slice A262_1 ((rd_T51 l0 x24_1).f1).length c262_1)) (fun _ hk=>hk.2) (.slice A262_2 ((rd_T51 l0 x24_1).f2).length c262_2)) (fun _ h_=>h_.1))))) (Kd.R_lt (by (with_reducible repeat (first|apply Kd.R_alloc|apply Kd.R_drewN|apply Kd.R_drew));exact (Kd.R_mono (Kd.R_far (p:=⟨gb263,2,none⟩) (Kd.R_far (p:=⟨gb263,1,none⟩) (Kd.R_far (p:=⟨gb263,0,none⟩) (Kd.R_types HO_262003.out BK263.out (by decide)) (fun _ hk=>hk.2) (.bool ((rd_T51 l0 x24_1).f0))) (fun _ hk=>hk.2) (.slice A262_1 ((rd_T51 l0 x24_1).f1).length c262_1)) (fun _ hk=>hk.2) (.slice A262_2 ((rd_T51 l0 x24_1).f2).length c262_2)) (fun _ h_=>h_.1))))) (below_size (belV3 HB.out GE251.out GE261.out GE263.out)));have n4_:=Aside0.mk (blk_below (g:=gb251) (o:=.cells #[.int .i64 x252000_1,.int .i64 x252001_1,.slice none 0 0,.slice none 0 0] 38 (0,0)) (blkW BK251.out NB251_263.out) hb);have n5_:=Aside0.mk (blk_below (g:=gb261) (o:=.cells #[.int .i64 x262000_1,.int .i64 x262001_1,.slice Ao24 x262002_1.length co24,.slice Ao25 x262003_1.length co25] 38 (0,0)) (blkW BK261.out NB261_263.out) hb);have n6_:=Aside0.mk (blk_below (g:=gb263) (o:=.cells #[.bool ((rd_T51 l0 x24_1).f0),.slice A262_1 ((rd_T51 l0 x24_1).f1).length c262_1,.slice A262_2 ((rd_T51 l0 x24_1).f2).length c262_2] 51 (0,0)) (by (with_reducible repeat (first|refine blk_drewN ?_ _|refine blk_drew ?_|refine blk_alloc ?_ _));refine blk_put (cs:=#[.bool ((rd_T51 l0 x24_1).f0),.slice A262_1 ((rd_T51 l0 x24_1).f1).length c262_1,.slice none 0 0]) ?_ 2 _ rfl;(with_reducible repeat (first|refine blk_drewN ?_ _|refine blk_drew ?_|refine blk_alloc ?_ _));refine blk_put (cs:=#[.bool ((rd_T51 l0 x24_1).f0),.slice none 0 0,.slice none 0 0]) ?_ 1 _ rfl;(with_reducible repeat (first|refine blk_drewN ?_ _|refine blk_drew ?_|refine blk_alloc ?_ _));refine blk_put (cs:=#[.bool false,.slice none 0 0,.slice none 0 0]) ?_ 0 _ rfl;(with_reducible repeat (first|refine blk_drewN ?_ _|refine blk_drew ?_|refine blk_alloc ?_ _));exact BK263.out) hb);have n7_:=Aside0.mk (below_step (belV3 HB.out GE251.out GE261.out GE263.out) hb);clear HO_262002;clear HO_262003;clear BK251;clear BK261;clear BK263;clear HB;have HO_262002:=n0_;have HO_262003:=n1_;have HO268:=n2_;have HO271:=n3_;have BK251:=n4_;have BK261:=n5_;have BK263:=n6_;have HB:=n7_;clear n0_ n1_ n2_ n3_ n4_ n5_ n6_ n7_;(try clear hb);(try clear hb2);(try clear hk);(try clear hi);(try clear ho0);(try clear ho1);obtain ⟨hcz27_0,hcz27_1,hcz27_2,hcz27_3,hfz27_0,hfz27_1,hfz27_2,hfz27_3⟩:=bcells4 BK261.out;obtain ⟨Ao28,co28,eo28⟩:=Kd.R_slice HO268.out;subst eo28;obtain ⟨Ao29,co29,eo29⟩:=Kd.R_slice HO271.out;subst eo29))
             go_roundg k1
             case measure=>have:=HK1.out;omega
             case rel=>exact ⟨(wrap64 (x24_1+1)),(x252000_1),(x252001_1),(t264),(t265),(t266),(t269),(.slice Ao28 t266.length co28),(.slice Ao29 t269.length co29),okV,H',⟨by have:=HK1.out;omega⟩,⟨by (with_reducible repeat (first|apply Kd.R_alloc|apply Kd.R_drewN|apply Kd.R_drew));exact Kd.R_mono (Kd.R_put4 HO268.out BK261.out (by decide)) (fun _ hk=>hk.1.1.1)⟩,⟨by (with_reducible repeat (first|apply Kd.R_alloc|apply Kd.R_drewN|apply Kd.R_drew));exact Kd.R_mono (Kd.R_put4 HO271.out BK261.out (by decide)) (fun _ hk=>hk.1.1.1)⟩,⟨blkW BK251.out NB251_261.out⟩,⟨by (with_reducible repeat (first|refine blk_drewN ?_ _|refine blk_drew ?_|refine blk_alloc ?_ _));refine blk_put (cs:=#[.int .i64 t264,.int .i64 t265,.slice Ao28 t266.length co28,.slice Ao25 x262003_1.length co25]) ?_ 3 _ rfl;(with_reducible repeat (first|refine blk_drewN ?_ _|refine blk_drew ?_|refine blk_alloc ?_ _));refine blk_put (cs:=#[.int .i64 t264,.int .i64 t265,.slice Ao24 x262002_1.length co24,.slice Ao25 x262003_1.length co25]) ?_ 2 _ rfl;(with_reducible repeat (first|refine blk_drewN ?_ _|refine blk_drew ?_|refine blk_alloc ?_ _));refine blk_put (cs:=#[.int .i64 t264,.int .i64 x262001_1,.slice Ao24 x262002_1.length co24,.slice Ao25 x262003_1.length co25]) ?_ 1 _ rfl;(with_reducible repeat (first|refine blk_drewN ?_ _|refine blk_drew ?_|refine blk_alloc ?_ _));refine blk_put (cs:=#[.int .i64 x262000_1,.int .i64 x262001_1,.slice Ao24 x262002_1.length co24,.slice Ao25 x262003_1.length co25]) ?_ 0 _ rfl;(with_reducible repeat (first|refine blk_drewN ?_ _|refine blk_drew ?_|refine blk_alloc ?_ _));exact BK261.out⟩,⟨belV3 HB.out GE251.out GE261.out GE263.out⟩⟩
           rw [if_neg c17] at H
           have c17b0:(t272 == 0)=false:=beq_eq_false_iff_ne.mpr c17
           have c17b1:(t272 != 0)=true:=bne_iff_ne.mpr c17
           simp only [Option.some.injEq,Prod.mk.injEq] at H
           obtain ⟨rfl,rfl,rfl,rfl,rfl⟩:=H
           have p262:0≤(x24_1:Int):=of_decide_eq_true asV
           have q262:x24_1 < (l0.length:Int):=of_decide_eq_true asV
           obtain ⟨ad262,A262_1,c262_1,A262_2,c262_2,e262,hx262_0,hx262_1,hx262_2,hl262_1,hi262_1,hl262_2,hi262_2⟩:=at_T51 HR0.out x24_1 p262 q262
           cases e262
           replace hx262_0:=(HB.out.cell (World.block_lt_of_cell? w _ hx262_0)).trans hx262_0
           replace hx262_1:=(HB.out.cell (World.block_lt_of_cell? w _ hx262_1)).trans hx262_1
           replace hx262_2:=(HB.out.cell (World.block_lt_of_cell? w _ hx262_2)).trans hx262_2
           have HR262_1:=Aside0.mk hi262_1
           have HC262_1:=Aside0.mk hl262_1;clear hi262_1 hl262_1
           have HR262_2:=Aside0.mk hi262_2
           have HC262_2:=Aside0.mk hl262_2;clear hi262_2 hl262_2
           replace p262:=eq_true p262
           replace q262:=eq_true q262
           go_wp2_with (first|((with_reducible refine gate_dst (N:=11) rfl ?_);refine box_event ?hg (N:=11) ?hd (cs:=#[.bool false,.slice none 0 0,.slice none 0 0]) (t:=51) ?hr ?_;(case hd=>rfl);(case hg=>rfl);(case hr=>first|(go_simp;done)|(go_simp;rfl));intro gb263 hg w30 hbox hb;have n0_:=Aside0.mk (Kd.R_below (rowV HO_262002.out) hb);have n1_:=Aside0.mk (Kd.R_below (rowV HO_262003.out) hb);have n2_:=Aside0.mk (blk_below (g:=gb251) (blkV BK251.out) hb);have n3_:=Aside0.mk (blk_below (g:=gb261) (blkV BK261.out) hb);have n4_:=Aside0.mk (below_step (belV2 HB.out GE251.out GE261.out) hb);have n5_:=Aside0.mk (hbox);have n6_:=Aside0.mk ((by rw [hg];exact (below_size (belV2 HB.out GE251.out GE261.out)):w.heap.size≤gb263));have n7_:=Aside0.mk ((by rw [hg];exact (below_size (belV2 HB.out GE251.out GE261.out)):w.heap.size≤gb263));have n8_:=Aside0.mk ((by rw [hg];exact Nat.ne_of_lt (blk_lt (g:=gb251) (blkV BK251.out)):gb251≠gb263));have n9_:=Aside0.mk ((by rw [hg];exact Nat.ne_of_gt (blk_lt (g:=gb251) (blkV BK251.out)):gb263≠gb251));have n10_:=Aside0.mk ((by rw [hg];exact Nat.ne_of_lt (blk_lt (g:=gb261) (blkV BK261.out)):gb261≠gb263));have n11_:=Aside0.mk ((by rw [hg];exact Nat.ne_of_gt (blk_lt (g:=gb261) (blkV BK261.out)):gb263≠gb261));clear HO_262002;clear HO_262003;clear BK251;clear BK261;clear HB;have HO_262002:=n0_;have HO_262003:=n1_;have BK251:=n2_;have BK261:=n3_;have HB:=n4_;have BK263:=n5_;have GW263:=n6_;have GE263:=n7_;have NB251_263:=n8_;have NB263_251:=n9_;have NB261_263:=n10_;have NB263_261:=n11_;clear n0_ n1_ n2_ n3_ n4_ n5_ n6_ n7_ n8_ n9_ n10_ n11_;clear hb hbox hg;have hnb31:=NB263_251.out;have hnc31:=NB251_263.out;have hnb32:=NB263_261.out;have hnc32:=NB261_263.out;obtain ⟨hcz33_0,hcz33_1,hcz33_2,hfz33_0,hfz33_1,hfz33_2⟩:=bcells3 BK263.out;have hnb34:=NB261_251.out;have hnc34:=NB251_261.out;obtain ⟨hcz35_0,hcz35_1,hcz35_2,hcz35_3,hfz35_0,hfz35_1,hfz35_2,hfz35_3⟩:=bcells4 BK261.out;obtain ⟨Ao36,co36,eo36⟩:=Kd.R_slice HO_262002.out;subst eo36;obtain ⟨Ao37,co37,eo37⟩:=Kd.R_slice HO_262003.out;subst eo37)|((with_reducible refine gate_callee (f:=30) rfl ?_);refine goesL_ (some 31) rfl rfl Try.func30 (by kernel_rfl) rfl #[.agg #[.int .i64 x262000_1,.int .i64 x262001_1,.slice Ao36 x262002_1.length co36,.slice Ao37 x262003_1.length co37],.agg #[.bool ((rd_T51 l0 x24_1).f0),.slice A262_1 ((rd_T51 l0 x24_1).f1).length c262_1,.slice A262_2 ((rd_T51 l0 x24_1).f2).length c262_2]] rfl (by (try simp only [List.map_toArray,List.map_cons,List.map_nil]);first|done|rfl|(simp only [List.length_drop,List.length_take];rfl)) ?_;(with_reducible refine (bitmap_Draw.calls k1 x262000_1 x262001_1 _ _ x262002_1 _ _ x262003_1 ((rd_T51 l0 x24_1).f0) _ _ ((rd_T51 l0 x24_1).f1) _ _ ((rd_T51 l0 x24_1).f2) t264 t265 t266 t269 t272 _ ?side1 ?side2 ?side3 ?side4 ?side5 ?side6 ?side7 ?side8 A16.out).mono ?_);(case side1=>refine (Kd.R_reads' (e:=3) (base:=w.heap.size) (ok:=fun k_=>some k_≠(.slice Ao37 x262003_1.length co37:Value).ownBlock) (n:=x262002_1.length) (c:=co36) ?_).2.2;exact (by (with_reducible repeat (first|apply Kd.R_alloc|apply Kd.R_drewN|apply Kd.R_drew));exact (Kd.R_mono (Kd.R_far (p:=⟨gb263,2,none⟩) (Kd.R_far (p:=⟨gb263,1,none⟩) (Kd.R_far (p:=⟨gb263,0,none⟩) (Kd.R_types HO_262002.out BK263.out (by decide)) (fun _ hk=>hk.2) (.bool ((rd_T51 l0 x24_1).f0))) (fun _ hk=>hk.2) (.slice A262_1 ((rd_T51 l0 x24_1).f1).length c262_1)) (fun _ hk=>hk.2) (.slice A262_2 ((rd_T51 l0 x24_1).f2).length c262_2)) (fun _ h_=>h_.1))));(case side2=>exact (Kd.R_reads' HO_262002.out).2.1);(case side3=>refine (Kd.R_reads' (e:=3) (base:=w.heap.size) (ok:=fun k_=>some k_≠(.slice Ao36 x262002_1.length co36:Value).ownBlock) (n:=x262003_1.length) (c:=co37) ?_).2.2;exact (by (with_reducible repeat (first|apply Kd.R_alloc|apply Kd.R_drewN|apply Kd.R_drew));exact (Kd.R_mono (Kd.R_far (p:=⟨gb263,2,none⟩) (Kd.R_far (p:=⟨gb263,1,none⟩) (Kd.R_far (p:=⟨gb263,0,none⟩) (Kd.R_types HO_262003.out BK263.out (by decide)) (fun _ hk=>hk.2) (.bool ((rd_T51 l0 x24_1).f0))) (fun _ hk=>hk.2) (.slice A262_1 ((rd_T51 l0 x24_1).f1).length c262_1)) (fun _ hk=>hk.2) (.slice A262_2 ((rd_T51 l0 x24_1).f2).length c262_2)) (fun _ h_=>h_.1))));(case side4=>exact (Kd.R_reads' HO_262003.out).2.1);(case side5=>exact Kd.C_below HR262_1.out (belV3 HB.out GE251.out GE261.out GE263.out));(case side6=>exact HC262_1.out);(case side7=>exact Kd.C_below HR262_2.out (belV3 HB.out GE251.out GE261.out GE263.out));(case side8=>exact HC262_2.out);rintro e w38 ⟨v267,v270,rfl,ho0,ho1,hb⟩;refine ⟨_,rfl,?_⟩;have n0_:=Aside0.mk (Kd.R_mono (Kd.R_told (Kd.R_told (Kd.R_old (by (with_reducible repeat (first|apply Kd.R_alloc|apply Kd.R_drewN|apply Kd.R_drew));exact (Kd.R_mono (Kd.R_far (p:=⟨gb263,2,none⟩) (Kd.R_far (p:=⟨gb263,1,none⟩) (Kd.R_far (p:=⟨gb263,0,none⟩) (Kd.R_types HO_262002.out BK263.out (by decide)) (fun _ hk=>hk.2) (.bool ((rd_T51 l0 x24_1).f0))) (fun _ hk=>hk.2) (.slice A262_1 ((rd_T51 l0 x24_1).f1).length c262_1)) (fun _ hk=>hk.2) (.slice A262_2 ((rd_T51 l0 x24_1).f2).length c262_2)) (fun _ h_=>h_.1))) hb) (Kd.R_base ho0)) (Kd.R_base ho1)) (fun _ h_=>h_.1));have n1_:=Aside0.mk (Kd.R_mono (Kd.R_told (Kd.R_told (Kd.R_old (by (with_reducible repeat (first|apply Kd.R_alloc|apply Kd.R_drewN|apply Kd.R_drew));exact (Kd.R_mono (Kd.R_far (p:=⟨gb263,2,none⟩) (Kd.R_far (p:=⟨gb263,1,none⟩) (Kd.R_far (p:=⟨gb263,0,none⟩) (Kd.R_types HO_262003.out BK263.out (by decide)) (fun _ hk=>hk.2) (.bool ((rd_T51 l0 x24_1).f0))) (fun _ hk=>hk.2) (.slice A262_1 ((rd_T51 l0 x24_1).f1).length c262_1)) (fun _ hk=>hk.2) (.slice A262_2 ((rd_T51 l0 x24_1).f2).length c262_2)) (fun _ h_=>h_.1))) hb) (Kd.R_base ho0)) (Kd.R_base ho1)) (fun _ h_=>h_.1));have n2_:=Aside0.mk (Kd.R_lower (Kd.R_new' (Kd.R_new' ho0 (Kd.R_lt (by (with_reducible repeat (first|apply Kd.R_alloc|apply Kd.R_drewN|apply Kd.R_drew));exact (Kd.R_mono (Kd.R_far (p:=⟨gb263,2,none⟩) (Kd.R_far (p:=⟨gb263,1,none⟩) (Kd.R_far (p:=⟨gb263,0,none⟩) (Kd.R_types HO_262002.out BK263.out (by decide)) (fun _ hk=>hk.2) (.bool ((rd_T51 l0 x24_1).f0))) (fun _ hk=>hk.2) (.slice A262_1 ((rd_T51 l0 x24_1).f1).length c262_1)) (fun _ hk=>hk.2) (.slice A262_2 ((rd_T51 l0 x24_1).f2).length c262_2)) (fun _ h_=>h_.1))))) (Kd.R_lt (by (with_reducible repeat (first|apply Kd.R_alloc|apply Kd.R_drewN|apply Kd.R_drew));exact (Kd.R_mono (Kd.R_far (p:=⟨gb263,2,none⟩) (Kd.R_far (p:=⟨gb263,1,none⟩) (Kd.R_far (p:=⟨gb263,0,none⟩) (Kd.R_types HO_262003.out BK263.out (by decide)) (fun _ hk=>hk.2) (.bool ((rd_T51 l0 x24_1).f0))) (fun _ hk=>hk.2) (.slice A262_1 ((rd_T51 l0 x24_1).f1).length c262_1)) (fun _ hk=>hk.2) (.slice A262_2 ((rd_T51 l0 x24_1).f2).length c262_2)) (fun _ h_=>h_.1))))) (below_size (belV3 HB.out GE251.out GE261.out GE263.out)));have n3_:=Aside0.mk (Kd.R_lower (Kd.R_new' (Kd.R_new' ho1 (Kd.R_lt (by (with_reducible repeat (first|apply Kd.R_alloc|apply Kd.R_drewN|apply Kd.R_drew));exact (Kd.R_mono (Kd.R_far (p:=⟨gb263,2,none⟩) (Kd.R_far (p:=⟨gb263,1,none⟩) (Kd.R_far (p:=⟨gb263,0,none⟩) (Kd.R_types HO_262002.out BK263.out (by decide)) (fun _ hk=>hk.2) (.bool ((rd_T51 l0 x24_1).f0))) (fun _ hk=>hk.2) (.slice A262_1 ((rd_T51 l0 x24_1).f1).length c262_1)) (fun _ hk=>hk.2) (.slice A262_2 ((rd_T51 l0 x24_1).f2).length c262_2)) (fun _ h_=>h_.1))))) (Kd.R_lt (by (with_reducible repeat (first|apply Kd.R_alloc|apply Kd.R_drewN|apply Kd.R_drew));exact (Kd.R_mono (Kd.R_far (p:=⟨gb263,2,none⟩) (Kd.R_far (p:=⟨gb263,1,none⟩) (Kd.R_far (p:=⟨gb263,0,none⟩) (Kd.R_types HO_262003.out BK263.out (by decide)) (fun _ hk=>hk.2) (.bool ((rd_T51 l0 x24_1).f0))) (fun _ hk=>hk.2) (.slice A262_1 ((rd_T51 l0 x24_1).f1).length c262_1)) (fun _ hk=>hk.2) (.slice A262_2 ((rd_T51 l0 x24_1).f2).length c262_2)) (fun _ h_=>h_.1))))) (below_size (belV3 HB.out GE251.out GE261.out GE263.out)));have n4_:=Aside0.mk (blk_below (g:=gb251) (o:=.cells #[.int .i64 x252000_1,.int .i64 x252001_1,.slice none 0 0,.slice none 0 0] 38 (0,0)) (blkW BK251.out NB251_263.out) hb);have n5_:=Aside0.mk (blk_below (g:=gb261) (o:=.cells #[.int .i64 x262000_1,.int .i64 x262001_1,.slice Ao36 x262002_1.length co36,.slice Ao37 x262003_1.length co37] 38 (0,0)) (blkW BK261.out NB261_263.out) hb);have n6_:=Aside0.mk (blk_below (g:=gb263) (o:=.cells #[.bool ((rd_T51 l0 x24_1).f0),.slice A262_1 ((rd_T51 l0 x24_1).f1).length c262_1,.slice A262_2 ((rd_T51 l0 x24_1).f2).length c262_2] 51 (0,0)) (by (with_reducible repeat (first|refine blk_drewN ?_ _|refine blk_drew ?_|refine blk_alloc ?_ _));refine blk_put (cs:=#[.bool ((rd_T51 l0 x24_1).f0),.slice A262_1 ((rd_T51 l0 x24_1).f1).length c262_1,.slice none 0 0]) ?_ 2 _ rfl;(with_reducible repeat (first|refine blk_drewN ?_ _|refine blk_drew ?_|refine blk_alloc ?_ _));refine blk_put (cs:=#[.bool ((rd_T51 l0 x24_1).f0),.slice none 0 0,.slice none 0 0]) ?_ 1 _ rfl;(with_reducible repeat (first|refine blk_drewN ?_ _|refine blk_drew ?_|refine blk_alloc ?_ _));refine blk_put (cs:=#[.bool false,.slice none 0 0,.slice none 0 0]) ?_ 0 _ rfl;(with_reducible repeat (first|refine blk_drewN ?_ _|refine blk_drew ?_|refine blk_alloc ?_ _));exact BK263.out) hb);have n7_:=Aside0.mk (below_step (belV3 HB.out GE251.out GE261.out GE263.out) hb);clear HO_262002;clear HO_262003;clear BK251;clear BK261;clear BK263;clear HB;have HO_262002:=n0_;have HO_262003:=n1_;have HO268:=n2_;have HO271:=n3_;have BK251:=n4_;have BK261:=n5_;have BK263:=n6_;have HB:=n7_;clear n0_ n1_ n2_ n3_ n4_ n5_ n6_ n7_;(try clear hb);(try clear hb2);(try clear hk);(try clear hi);(try clear ho0);(try clear ho1);obtain ⟨hcz39_0,hcz39_1,hcz39_2,hcz39_3,hfz39_0,hfz39_1,hfz39_2,hfz39_3⟩:=bcells4 BK261.out;obtain ⟨Ao40,co40,eo40⟩:=Kd.R_slice HO268.out;subst eo40;obtain ⟨Ao41,co41,eo41⟩:=Kd.R_slice HO271.out;subst eo41;obtain ⟨hcz42_0,hcz42_1,hcz42_2,hcz42_3,hfz42_0,hfz42_1,hfz42_2,hfz42_3⟩:=bcells4 BK251.out))
           refine bodyPost_ret (results_ct rfl _ _ gb251 38 #[.int .i64 0,.int .i64 0,.slice none 0 0,.slice none 0 0] (0,0) _ rfl (by (with_reducible repeat (first|refine blk_drewN ?_ _|refine blk_drew ?_|refine blk_alloc ?_ _));refine blk_put (cs:=#[.int .i64 0,.int .i64 0,.slice none 0 0,.slice none 0 0]) ?_ 3 _ rfl;(with_reducible repeat (first|refine blk_drewN ?_ _|refine blk_drew ?_|refine blk_alloc ?_ _));refine blk_put (cs:=#[.int .i64 0,.int .i64 0,.slice none 0 0,.slice none 0 0]) ?_ 2 _ rfl;(with_reducible repeat (first|refine blk_drewN ?_ _|refine blk_drew ?_|refine blk_alloc ?_ _));refine blk_put (cs:=#[.int .i64 0,.int .i64 x252001_1,.slice none 0 0,.slice none 0 0]) ?_ 1 _ rfl;(with_reducible repeat (first|refine blk_drewN ?_ _|refine blk_drew ?_|refine blk_alloc ?_ _));refine blk_put (cs:=#[.int .i64 x252000_1,.int .i64 x252001_1,.slice none 0 0,.slice none 0 0]) ?_ 0 _ rfl;(with_reducible repeat (first|refine blk_drewN ?_ _|refine blk_drew ?_|refine blk_alloc ?_ _));refine blk_far ?_ NB251_261.out _;(with_reducible repeat (first|refine blk_drewN ?_ _|refine blk_drew ?_|refine blk_alloc ?_ _));refine blk_far ?_ NB251_261.out _;(with_reducible repeat (first|refine blk_drewN ?_ _|refine blk_drew ?_|refine blk_alloc ?_ _));refine blk_far ?_ NB251_261.out _;(with_reducible repeat (first|refine blk_drewN ?_ _|refine blk_drew ?_|refine blk_alloc ?_ _));refine blk_far ?_ NB251_261.out _;(with_reducible repeat (first|refine blk_drewN ?_ _|refine blk_drew ?_|refine blk_alloc ?_ _));exact BK251.out) Try.underlying38 rfl (by kernel_rfl)) rfl ?_
           exact ⟨_,_,by first|rfl|(simp [errW_none,errW_some] <;> rfl)|(simp [*,errW_none,errW_some] <;> rfl),by first|exact Kd.R_nil _ _ _ _ _|exact Kd.N_nil _ _ _ _ _|exact Kd.V_nil _ _ _ _ _|exact Kd.Q_nil _ _ _ _ _|exact Kd.S_nil _ _ _ _ _,by first|exact Kd.R_nil _ _ _ _ _|exact Kd.N_nil _ _ _ _ _|exact Kd.V_nil _ _ _ _ _|exact Kd.Q_nil _ _ _ _ _|exact Kd.S_nil _ _ _ _ _,by repeat (first|(with_reducible first|exact HB.out|apply below_alloc|apply pw_below_drewN|apply below_drew1|refine below_set ?_ GE251.out|refine below_set ?_ GE261.out|refine below_set ?_ GE263.out)|exact HB.out)⟩
         rw [if_neg c15] at H
         exact absurd H (by simp)
       rw [if_neg c14] at H
       exact absurd H (by simp)
     rw [if_neg c13] at H
     have c13b0:decide (x24_1 < (l0.length:Int))=false:=decide_eq_false c13;clear c13
     simp only [Option.some.injEq,Prod.mk.injEq] at H
     obtain ⟨rfl,rfl,rfl,rfl,rfl⟩:=H
     have hnb43:=NB261_251.out
     have hnc43:=NB251_261.out
     obtain ⟨hcz44_0,hcz44_1,hcz44_2,hcz44_3,hfz44_0,hfz44_1,hfz44_2,hfz44_3⟩:=bcells4 BK261.out
     obtain ⟨hcz45_0,hcz45_1,hcz45_2,hcz45_3,hfz45_0,hfz45_1,hfz45_2,hfz45_3⟩:=bcells4 BK251.out
     obtain ⟨Ao46,co46,eo46⟩:=Kd.R_slice HO_262002.out;subst eo46
     obtain ⟨Ao47,co47,eo47⟩:=Kd.R_slice HO_262003.out;subst eo47
     go_wp2
     refine bodyPost_ret (results_ct rfl _ _ gb251 38 #[.int .i64 x262000_1,.int .i64 x262001_1,.slice Ao46 x262002_1.length co46,.slice Ao47 x262003_1.length co47] (0,0) _ rfl (by (with_reducible repeat (first|refine blk_drewN ?_ _|refine blk_drew ?_|refine blk_alloc ?_ _));refine blk_put (cs:=#[.int .i64 x262000_1,.int .i64 x262001_1,.slice Ao46 x262002_1.length co46,.slice none 0 0]) ?_ 3 _ rfl;(with_reducible repeat (first|refine blk_drewN ?_ _|refine blk_drew ?_|refine blk_alloc ?_ _));refine blk_put (cs:=#[.int .i64 x262000_1,.int .i64 x262001_1,.slice none 0 0,.slice none 0 0]) ?_ 2 _ rfl;(with_reducible repeat (first|refine blk_drewN ?_ _|refine blk_drew ?_|refine blk_alloc ?_ _));refine blk_put (cs:=#[.int .i64 x262000_1,.int .i64 x252001_1,.slice none 0 0,.slice none 0 0]) ?_ 1 _ rfl;(with_reducible repeat (first|refine blk_drewN ?_ _|refine blk_drew ?_|refine blk_alloc ?_ _));refine blk_put (cs:=#[.int .i64 x252000_1,.int .i64 x252001_1,.slice none 0 0,.slice none 0 0]) ?_ 0 _ rfl;(with_reducible repeat (first|refine blk_drewN ?_ _|refine blk_drew ?_|refine blk_alloc ?_ _));exact BK251.out) Try.underlying38 rfl (by kernel_rfl)) rfl ?_
     exact ⟨_,_,by first|rfl|(simp [errW_none,errW_some] <;> rfl)|(simp [*,errW_none,errW_some] <;> rfl),by (with_reducible repeat (first|apply Kd.R_alloc|apply Kd.R_drewN|apply Kd.R_drew));exact Kd.R_mono (Kd.R_put4 HO_262002.out BK251.out (by decide)) (fun _ hk=>hk.1),by (with_reducible repeat (first|apply Kd.R_alloc|apply Kd.R_drewN|apply Kd.R_drew));exact Kd.R_mono (Kd.R_put4 HO_262003.out BK251.out (by decide)) (fun _ hk=>hk.1),by repeat (first|(with_reducible first|exact HB.out|apply below_alloc|apply pw_below_drewN|apply below_drew1|refine below_set ?_ GE251.out|refine below_set ?_ GE261.out)|exact HB.out)⟩
 rw [if_neg c5] at H
 have c5b0:(t260 == 0)=false:=beq_eq_false_iff_ne.mpr c5
 have c5b1:(t260 != 0)=true:=bne_iff_ne.mpr c5
 simp only [Option.some.injEq,Prod.mk.injEq] at H
 obtain ⟨rfl,rfl,rfl,rfl,rfl⟩:=H
 go_enter Try.func19,Try.ntmps19
 go_wp2_with (first|((with_reducible refine gate_dst (N:=6) rfl ?_);refine box_event ?hg (N:=6) ?hd (cs:=#[.int .i64 0,.int .i64 0,.slice none 0 0,.slice none 0 0]) (t:=38) ?hr ?_;(case hd=>rfl);(case hg=>rfl);(case hr=>first|(go_simp;done)|(go_simp;rfl));intro gb251 hg w48 hbox hb;have n0_:=Aside0.mk (below_step (belV HB.out) hb);have n1_:=Aside0.mk (hbox);have n2_:=Aside0.mk ((by rw [hg];exact (below_size (belV HB.out)):w.heap.size≤gb251));have n3_:=Aside0.mk ((by rw [hg];exact (below_size (belV HB.out)):w.heap.size≤gb251));clear HB;have HB:=n0_;have BK251:=n1_;have GW251:=n2_;have GE251:=n3_;clear n0_ n1_ n2_ n3_;clear hb hbox hg)|((with_reducible refine gate_callee (f:=23) rfl ?_);refine goesL_ (some 15) rfl rfl Try.func23 (by kernel_rfl) rfl #[.int .i64 a1,.int .i64 a2] rfl (by (try simp only [List.map_toArray,List.map_cons,List.map_nil]);first|done|rfl|(simp only [List.length_drop,List.length_take];rfl)) ?_;(with_reducible refine (bitmap_Empty.calls k a1 a2 t252 t253 t254 t257 t260 _ A4.out).mono ?_);rintro e w49 ⟨v255,v258,rfl,ho0,ho1,hb⟩;refine ⟨_,rfl,?_⟩;have n0_:=Aside0.mk (Kd.R_lower ho0 (below_size (belV1 HB.out GE251.out)));have n1_:=Aside0.mk (Kd.R_lower ho1 (below_size (belV1 HB.out GE251.out)));have n2_:=Aside0.mk (blk_below (g:=gb251) (blkV BK251.out) hb);have n3_:=Aside0.mk (below_step (belV1 HB.out GE251.out) hb);clear BK251;clear HB;have HO256:=n0_;have HO259:=n1_;have BK251:=n2_;have HB:=n3_;clear n0_ n1_ n2_ n3_;(try clear hb);(try clear hb2);(try clear hk);(try clear hi);(try clear ho0);(try clear ho1))|((with_reducible refine gate_dst (N:=8) rfl ?_);refine box_event ?hg (N:=8) ?hd (cs:=#[.int .i64 0,.int .i64 0,.slice none 0 0,.slice none 0 0]) (t:=38) ?hr ?_;(case hd=>rfl);(case hg=>rfl);(case hr=>first|(go_simp;done)|(go_simp;rfl));intro gb261 hg w50 hbox hb;have n0_:=Aside0.mk (Kd.R_below (rowV HO256.out) hb);have n1_:=Aside0.mk (Kd.R_below (rowV HO259.out) hb);have n2_:=Aside0.mk (blk_below (g:=gb251) (blkV BK251.out) hb);have n3_:=Aside0.mk (below_step (belV1 HB.out GE251.out) hb);have n4_:=Aside0.mk (hbox);have n5_:=Aside0.mk ((by rw [hg];exact (below_size (belV1 HB.out GE251.out)):w.heap.size≤gb261));have n6_:=Aside0.mk ((by rw [hg];exact (below_size (belV1 HB.out GE251.out)):w.heap.size≤gb261));have n7_:=Aside0.mk ((by rw [hg];exact Nat.ne_of_lt (blk_lt (g:=gb251) (blkV BK251.out)):gb251≠gb261));have n8_:=Aside0.mk ((by rw [hg];exact Nat.ne_of_gt (blk_lt (g:=gb251) (blkV BK251.out)):gb261≠gb251));clear HO256;clear HO259;clear BK251;clear HB;have HO256:=n0_;have HO259:=n1_;have BK251:=n2_;have HB:=n3_;have BK261:=n4_;have GW261:=n5_;have GE261:=n6_;have NB251_261:=n7_;have NB261_251:=n8_;clear n0_ n1_ n2_ n3_ n4_ n5_ n6_ n7_ n8_;clear hb hbox hg;have hnb51:=NB261_251.out;have hnc51:=NB251_261.out;obtain ⟨hcz52_0,hcz52_1,hcz52_2,hcz52_3,hfz52_0,hfz52_1,hfz52_2,hfz52_3⟩:=bcells4 BK261.out;obtain ⟨Ao53,co53,eo53⟩:=Kd.R_slice HO256.out;subst eo53;obtain ⟨Ao54,co54,eo54⟩:=Kd.R_slice HO259.out;subst eo54;obtain ⟨hcz55_0,hcz55_1,hcz55_2,hcz55_3,hfz55_0,hfz55_1,hfz55_2,hfz55_3⟩:=bcells4 BK251.out))
 refine bodyPost_ret (results_ct rfl _ _ gb251 38 #[.int .i64 0,.int .i64 0,.slice none 0 0,.slice none 0 0] (0,0) _ rfl (by (with_reducible repeat (first|refine blk_drewN ?_ _|refine blk_drew ?_|refine blk_alloc ?_ _));refine blk_put (cs:=#[.int .i64 0,.int .i64 0,.slice none 0 0,.slice none 0 0]) ?_ 3 _ rfl;(with_reducible repeat (first|refine blk_drewN ?_ _|refine blk_drew ?_|refine blk_alloc ?_ _));refine blk_put (cs:=#[.int .i64 0,.int .i64 0,.slice none 0 0,.slice none 0 0]) ?_ 2 _ rfl;(with_reducible repeat (first|refine blk_drewN ?_ _|refine blk_drew ?_|refine blk_alloc ?_ _));refine blk_put (cs:=#[.int .i64 0,.int .i64 0,.slice none 0 0,.slice none 0 0]) ?_ 1 _ rfl;(with_reducible repeat (first|refine blk_drewN ?_ _|refine blk_drew ?_|refine blk_alloc ?_ _));refine blk_put (cs:=#[.int .i64 0,.int .i64 0,.slice none 0 0,.slice none 0 0]) ?_ 0 _ rfl;(with_reducible repeat (first|refine blk_drewN ?_ _|refine blk_drew ?_|refine blk_alloc ?_ _));refine blk_far ?_ NB251_261.out _;(with_reducible repeat (first|refine blk_drewN ?_ _|refine blk_drew ?_|refine blk_alloc ?_ _));refine blk_far ?_ NB251_261.out _;(with_reducible repeat (first|refine blk_drewN ?_ _|refine blk_drew ?_|refine blk_alloc ?_ _));refine blk_far ?_ NB251_261.out _;(with_reducible repeat (first|refine blk_drewN ?_ _|refine blk_drew ?_|refine blk_alloc ?_ _));refine blk_far ?_ NB251_261.out _;(with_reducible repeat (first|refine blk_drewN ?_ _|refine blk_drew ?_|refine blk_alloc ?_ _));exact BK251.out) Try.underlying38 rfl (by kernel_rfl)) rfl ?_
 exact ⟨_,_,by first|rfl|(simp [errW_none,errW_some] <;> rfl)|(simp [*,errW_none,errW_some] <;> rfl),by first|exact Kd.R_nil _ _ _ _ _|exact Kd.N_nil _ _ _ _ _|exact Kd.V_nil _ _ _ _ _|exact Kd.Q_nil _ _ _ _ _|exact Kd.S_nil _ _ _ _ _,by first|exact Kd.R_nil _ _ _ _ _|exact Kd.N_nil _ _ _ _ _|exact Kd.V_nil _ _ _ _ _|exact Kd.Q_nil _ _ _ _ _|exact Kd.S_nil _ _ _ _ _,by repeat (first|(with_reducible first|exact HB.out|apply below_alloc|apply pw_below_drewN|apply below_drew1|refine below_set ?_ GE251.out|refine below_set ?_ GE261.out)|exact HB.out)⟩

/-! ### dioramalaw19_same: function 21 -/
def dioramalaw19_same.f (k : Nat) (a0_0 : Int) (a0_1 : Int) (l0_2 : List Int) (l0_3 : List Int) (a1_0 : Int) (a1_1 : Int) (l1_2 : List Int) (l1_3 : List Int) : Option (Bool) := if a0_0 = a1_0 then (if a0_1 = a1_1 then ((dioramaref00_EqInts.f k l0_2 l1_2).bind fun t275 => (if t275 = true then ((dioramaref00_EqInts.f k l0_3 l1_3).bind fun t276 => (some t276)) else (some false))) else (some false)) else (some false)
theorem dioramalaw19_same.mono:∀ a0 a1 a2 a3 a4 a5 a6 a7 k,LeO (dioramalaw19_same.f k a0 a1 a2 a3 a4 a5 a6 a7) (dioramalaw19_same.f (k+1) a0 a1 a2 a3 a4 a5 a6 a7):=by
 intro a0 a1 a2 a3 a4 a5 a6 a7 k
 unfold dioramalaw19_same.f
 repeat' first
  | (with_reducible exact dioramaref00_EqInts.mono _ _ _)
  | (with_reducible exact LeO.refl _)
  | (with_reducible exact LeO.none _)
  | (with_reducible refine LeO.ite ?_ ?_)
  | (with_reducible refine LeO.bind ?_ (fun _=>?_))
  | exact LeO.none _
  | refine LeO.ite ?_ ?_
  | refine LeO.bind ?_ (fun _=>?_)
set_option maxHeartbeats 8000000 in
set_option maxRecDepth 100000 in
theorem dioramalaw19_same.calls (k:Nat) (a0_0:Int) (a0_1:Int) (A0_2:Option Addr) (c0_2:Nat) (l0_2:List Int) (A0_3:Option Addr) (c0_3:Nat) (l0_3:List Int) (a1_0:Int) (a1_1:Int) (A1_2:Option Addr) (c1_2:Nat) (l1_2:List Int) (A1_3:Option Addr) (c1_3:Nat) (l1_3:List Int) (r:Bool) (w:World) (hr0_2:Kd.C (Kd.int .i64) w A0_2 l0_2.length l0_2) (hc0_2:l0_2.length≤c0_2) (hr0_3:Kd.C (Kd.int .i64) w A0_3 l0_3.length l0_3) (hc0_3:l0_3.length≤c0_3) (hr1_2:Kd.C (Kd.int .i64) w A1_2 l1_2.length l1_2) (hc1_2:l1_2.length≤c1_2) (hr1_3:Kd.C (Kd.int .i64) w A1_3 l1_3.length l1_3) (hc1_3:l1_3.length≤c1_3) (h:dioramalaw19_same.f k a0_0 a0_1 l0_2 l0_3 a1_0 a1_1 l1_2 l1_3=some r) :
 Calls Try.prog 21 #[.agg #[.int .i64 a0_0,.int .i64 a0_1,.slice A0_2 l0_2.length c0_2,.slice A0_3 l0_3.length c0_3],.agg #[.int .i64 a1_0,.int .i64 a1_1,.slice A1_2 l1_2.length c1_2,.slice A1_3 l1_3.length c1_3]] w fun e w'=>e=.returned (.bool r)∧Below w.heap.size w w':=by
 have hu41:=Try.underlying41
 have HR0_2:=Aside0.mk hr0_2
 have HC0_2:=Aside0.mk hc0_2;clear hr0_2 hc0_2
 have HR0_3:=Aside0.mk hr0_3
 have HC0_3:=Aside0.mk hc0_3;clear hr0_3 hc0_3
 have HR1_2:=Aside0.mk hr1_2
 have HC1_2:=Aside0.mk hc1_2;clear hr1_2 hc1_2
 have HR1_3:=Aside0.mk hr1_3
 have HC1_3:=Aside0.mk hc1_3;clear hr1_3 hc1_3;have HB:=Aside0.mk (Below.refl w.heap.size w)
 have H:(if a0_0=a1_0 then (if a0_1=a1_1 then ((dioramaref00_EqInts.f k l0_2 l1_2).bind fun t275=>(if t275=true then ((dioramaref00_EqInts.f k l0_3 l1_3).bind fun t276=>(some t276)) else (some false))) else (some false)) else (some false))=some r:=h;clear h
 by_cases c3:a0_0=a1_0
 · rw [if_pos c3] at H
   have c3b0:(a0_0 == a1_0)=true:=beq_iff_eq.mpr c3
   have c3b1:(a0_0 != a1_0)=false:=bne_eq_false_iff_eq.mpr c3;clear c3
   by_cases c4:a0_1=a1_1
   · rw [if_pos c4] at H
     have c4b0:(a0_1 == a1_1)=true:=beq_iff_eq.mpr c4
     have c4b1:(a0_1 != a1_1)=false:=bne_eq_false_iff_eq.mpr c4;clear c4
     replace H:=Option.bind_eq_some_iff.mp H
     obtain ⟨t275,A50,H⟩:=H
     replace H:(if t275=true then ((dioramaref00_EqInts.f k l0_3 l1_3).bind fun t276=>(some t276)) else (some false))=some r:=H
     have A5:=Aside0.mk A50;clear A50
     by_cases c6:t275=true
     · subst c6
       have H1:((dioramaref00_EqInts.f k l0_3 l1_3).bind fun t276=>(some t276))=some r:=by rw [if_pos rfl] at H;exact H
       clear H
       have H:=H1;clear H1
       replace H:=Option.bind_eq_some_iff.mp H
       obtain ⟨t276,A70,H⟩:=H
       replace H:(some t276)=some r:=H
       have A7:=Aside0.mk A70;clear A70
       obtain rfl:=Option.some.inj H
       go_enter Try.func21,Try.ntmps21
       go_wp2_with (first|((with_reducible refine gate_dst (N:=2) rfl ?_);refine box_event ?hg (N:=2) ?hd (cs:=#[.int .i64 a0_0,.int .i64 a0_1,.slice A0_2 l0_2.length c0_2,.slice A0_3 l0_3.length c0_3]) (t:=41) ?hr ?_;(case hd=>rfl);(case hg=>rfl);(case hr=>first|(go_simp;done)|(go_simp;rfl));intro gb273 hg w8 hbox hb;have n0_:=Aside0.mk (below_step (belV HB.out) hb);have n1_:=Aside0.mk (hbox);have n2_:=Aside0.mk ((by rw [hg];exact (below_size (belV HB.out)):w.heap.size≤gb273));have n3_:=Aside0.mk ((by rw [hg];exact (below_size (belV HB.out)):w.heap.size≤gb273));clear HB;have HB:=n0_;have BK273:=n1_;have GW273:=n2_;have GE273:=n3_;clear n0_ n1_ n2_ n3_;clear hb hbox hg)|((with_reducible refine gate_dst (N:=3) rfl ?_);refine box_event ?hg (N:=3) ?hd (cs:=#[.int .i64 a1_0,.int .i64 a1_1,.slice A1_2 l1_2.length c1_2,.slice A1_3 l1_3.length c1_3]) (t:=41) ?hr ?_;(case hd=>rfl);(case hg=>rfl);(case hr=>first|(go_simp;done)|(go_simp;rfl));intro gb274 hg w9 hbox hb;have n0_:=Aside0.mk (blk_below (g:=gb273) (blkV BK273.out) hb);have n1_:=Aside0.mk (below_step (belV1 HB.out GE273.out) hb);have n2_:=Aside0.mk (hbox);have n3_:=Aside0.mk ((by rw [hg];exact (below_size (belV1 HB.out GE273.out)):w.heap.size≤gb274));have n4_:=Aside0.mk ((by rw [hg];exact (below_size (belV1 HB.out GE273.out)):w.heap.size≤gb274));have n5_:=Aside0.mk ((by rw [hg];exact Nat.ne_of_lt (blk_lt (g:=gb273) (blkV BK273.out)):gb273≠gb274));have n6_:=Aside0.mk ((by rw [hg];exact Nat.ne_of_gt (blk_lt (g:=gb273) (blkV BK273.out)):gb274≠gb273));clear BK273;clear HB;have BK273:=n0_;have HB:=n1_;have BK274:=n2_;have GW274:=n3_;have GE274:=n4_;have NB273_274:=n5_;have NB274_273:=n6_;clear n0_ n1_ n2_ n3_ n4_ n5_ n6_;clear hb hbox hg;have hnb10:=NB273_274.out;have hnc10:=NB274_273.out;obtain ⟨hcz11_0,hcz11_1,hcz11_2,hcz11_3,hfz11_0,hfz11_1,hfz11_2,hfz11_3⟩:=bcells4 BK273.out;obtain ⟨hcz12_0,hcz12_1,hcz12_2,hcz12_3,hfz12_0,hfz12_1,hfz12_2,hfz12_3⟩:=bcells4 BK274.out)|(go_at_call 15;(with_reducible refine (dioramaref00_EqInts.calls k _ _ l0_2 _ _ l1_2 true _ ?side1 ?side2 ?side3 ?side4 A5.out).mono ?_);(case side1=>exact cV (Kd.C_below HR0_2.out HB.out));(case side2=>exact HC0_2.out);(case side3=>exact cV (Kd.C_below HR1_2.out HB.out));(case side4=>exact HC1_2.out);rintro e w' ⟨rfl,⟨nd,rfl⟩⟩)|(go_at_call 15;(with_reducible refine (dioramaref00_EqInts.calls k _ _ l0_3 _ _ l1_3 t276 _ ?side1 ?side2 ?side3 ?side4 A7.out).mono ?_);(case side1=>repeat (first|exact (Kd.C_below HR0_3.out (belV2 HB.out GE273.out GE274.out))|(with_reducible refine Kd.C_alloc ?_ _)|(with_reducible refine Kd.C_drewN ?_ _)|(with_reducible refine Kd.C_drew ?_)));(case side2=>exact HC0_3.out);(case side3=>repeat (first|exact (Kd.C_below HR1_3.out (belV2 HB.out GE273.out GE274.out))|(with_reducible refine Kd.C_alloc ?_ _)|(with_reducible refine Kd.C_drewN ?_ _)|(with_reducible refine Kd.C_drew ?_)));(case side4=>exact HC1_3.out);rintro e w' ⟨rfl,⟨nd,rfl⟩⟩))
       go_ret
       exact ⟨by first|rfl|(simp [errW_none,errW_some] <;> rfl)|(simp [*,errW_none,errW_some] <;> rfl),by repeat (first|(with_reducible first|exact HB.out|apply below_alloc|apply pw_below_drewN|apply below_drew1|refine below_set ?_ GE273.out|refine below_set ?_ GE274.out)|exact HB.out)⟩
     replace c6:=Bool.eq_false_iff.mpr c6;subst c6
     have H1:(some false)=some r:=by rw [if_neg (show ¬ (false=true) by decide)] at H;exact H
     clear H
     have H:=H1;clear H1
     obtain rfl:=Option.some.inj H
     go_enter Try.func21,Try.ntmps21
     go_wp2_with (first|((with_reducible refine gate_dst (N:=2) rfl ?_);refine box_event ?hg (N:=2) ?hd (cs:=#[.int .i64 a0_0,.int .i64 a0_1,.slice A0_2 l0_2.length c0_2,.slice A0_3 l0_3.length c0_3]) (t:=41) ?hr ?_;(case hd=>rfl);(case hg=>rfl);(case hr=>first|(go_simp;done)|(go_simp;rfl));intro gb273 hg w13 hbox hb;have n0_:=Aside0.mk (below_step (belV HB.out) hb);have n1_:=Aside0.mk (hbox);have n2_:=Aside0.mk ((by rw [hg];exact (below_size (belV HB.out)):w.heap.size≤gb273));have n3_:=Aside0.mk ((by rw [hg];exact (below_size (belV HB.out)):w.heap.size≤gb273));clear HB;have HB:=n0_;have BK273:=n1_;have GW273:=n2_;have GE273:=n3_;clear n0_ n1_ n2_ n3_;clear hb hbox hg)|((with_reducible refine gate_dst (N:=3) rfl ?_);refine box_event ?hg (N:=3) ?hd (cs:=#[.int .i64 a1_0,.int .i64 a1_1,.slice A1_2 l1_2.length c1_2,.slice A1_3 l1_3.length c1_3]) (t:=41) ?hr ?_;(case hd=>rfl);(case hg=>rfl);(case hr=>first|(go_simp;done)|(go_simp;rfl));intro gb274 hg w14 hbox hb;have n0_:=Aside0.mk (blk_below (g:=gb273) (blkV BK273.out) hb);have n1_:=Aside0.mk (below_step (belV1 HB.out GE273.out) hb);have n2_:=Aside0.mk (hbox);have n3_:=Aside0.mk ((by rw [hg];exact (below_size (belV1 HB.out GE273.out)):w.heap.size≤gb274));have n4_:=Aside0.mk ((by rw [hg];exact (below_size (belV1 HB.out GE273.out)):w.heap.size≤gb274));have n5_:=Aside0.mk ((by rw [hg];exact Nat.ne_of_lt (blk_lt (g:=gb273) (blkV BK273.out)):gb273≠gb274));have n6_:=Aside0.mk ((by rw [hg];exact Nat.ne_of_gt (blk_lt (g:=gb273) (blkV BK273.out)):gb274≠gb273));clear BK273;clear HB;have BK273:=n0_;have HB:=n1_;have BK274:=n2_;have GW274:=n3_;have GE274:=n4_;have NB273_274:=n5_;have NB274_273:=n6_;clear n0_ n1_ n2_ n3_ n4_ n5_ n6_;clear hb hbox hg;have hnb15:=NB273_274.out;have hnc15:=NB274_273.out;obtain ⟨hcz16_0,hcz16_1,hcz16_2,hcz16_3,hfz16_0,hfz16_1,hfz16_2,hfz16_3⟩:=bcells4 BK273.out;obtain ⟨hcz17_0,hcz17_1,hcz17_2,hcz17_3,hfz17_0,hfz17_1,hfz17_2,hfz17_3⟩:=bcells4 BK274.out)|(go_at_call 15;(with_reducible refine (dioramaref00_EqInts.calls k _ _ l0_2 _ _ l1_2 false _ ?side1 ?side2 ?side3 ?side4 A5.out).mono ?_);(case side1=>exact cV (Kd.C_below HR0_2.out HB.out));(case side2=>exact HC0_2.out);(case side3=>exact cV (Kd.C_below HR1_2.out HB.out));(case side4=>exact HC1_2.out);rintro e w' ⟨rfl,⟨nd,rfl⟩⟩))
     go_ret
     exact ⟨by first|rfl|(simp [errW_none,errW_some] <;> rfl)|(simp [*,errW_none,errW_some] <;> rfl),by repeat (first|(with_reducible first|exact HB.out|apply below_alloc|apply pw_below_drewN|apply below_drew1|refine below_set ?_ GE273.out|refine below_set ?_ GE274.out)|exact HB.out)⟩
   rw [if_neg c4] at H
   have c4b0:(a0_1 == a1_1)=false:=beq_eq_false_iff_ne.mpr c4
   have c4b1:(a0_1 != a1_1)=true:=bne_iff_ne.mpr c4
   obtain rfl:=Option.some.inj H
   go_enter Try.func21,Try.ntmps21
   go_wp2_with (first|((with_reducible refine gate_dst (N:=2) rfl ?_);refine box_event ?hg (N:=2) ?hd (cs:=#[.int .i64 a0_0,.int .i64 a0_1,.slice A0_2 l0_2.length c0_2,.slice A0_3 l0_3.length c0_3]) (t:=41) ?hr ?_;(case hd=>rfl);(case hg=>rfl);(case hr=>first|(go_simp;done)|(go_simp;rfl));intro gb273 hg w18 hbox hb;have n0_:=Aside0.mk (below_step (belV HB.out) hb);have n1_:=Aside0.mk (hbox);have n2_:=Aside0.mk ((by rw [hg];exact (below_size (belV HB.out)):w.heap.size≤gb273));have n3_:=Aside0.mk ((by rw [hg];exact (below_size (belV HB.out)):w.heap.size≤gb273));clear HB;have HB:=n0_;have BK273:=n1_;have GW273:=n2_;have GE273:=n3_;clear n0_ n1_ n2_ n3_;clear hb hbox hg)|((with_reducible refine gate_dst (N:=3) rfl ?_);refine box_event ?hg (N:=3) ?hd (cs:=#[.int .i64 a1_0,.int .i64 a1_1,.slice A1_2 l1_2.length c1_2,.slice A1_3 l1_3.length c1_3]) (t:=41) ?hr ?_;(case hd=>rfl);(case hg=>rfl);(case hr=>first|(go_simp;done)|(go_simp;rfl));intro gb274 hg w19 hbox hb;have n0_:=Aside0.mk (blk_below (g:=gb273) (blkV BK273.out) hb);have n1_:=Aside0.mk (below_step (belV1 HB.out GE273.out) hb);have n2_:=Aside0.mk (hbox);have n3_:=Aside0.mk ((by rw [hg];exact (below_size (belV1 HB.out GE273.out)):w.heap.size≤gb274));have n4_:=Aside0.mk ((by rw [hg];exact (below_size (belV1 HB.out GE273.out)):w.heap.size≤gb274));have n5_:=Aside0.mk ((by rw [hg];exact Nat.ne_of_lt (blk_lt (g:=gb273) (blkV BK273.out)):gb273≠gb274));have n6_:=Aside0.mk ((by rw [hg];exact Nat.ne_of_gt (blk_lt (g:=gb273) (blkV BK273.out)):gb274≠gb273));clear BK273;clear HB;have BK273:=n0_;have HB:=n1_;have BK274:=n2_;have GW274:=n3_;have GE274:=n4_;have NB273_274:=n5_;have NB274_273:=n6_;clear n0_ n1_ n2_ n3_ n4_ n5_ n6_;clear hb hbox hg;have hnb20:=NB273_274.out;have hnc20:=NB274_273.out;obtain ⟨hcz21_0,hcz21_1,hcz21_2,hcz21_3,hfz21_0,hfz21_1,hfz21_2,hfz21_3⟩:=bcells4 BK273.out;obtain ⟨hcz22_0,hcz22_1,hcz22_2,hcz22_3,hfz22_0,hfz22_1,hfz22_2,hfz22_3⟩:=bcells4 BK274.out))
   go_ret
   exact ⟨by first|rfl|(simp [errW_none,errW_some] <;> rfl)|(simp [*,errW_none,errW_some] <;> rfl),by repeat (first|(with_reducible first|exact HB.out|apply below_alloc|apply pw_below_drewN|apply below_drew1|refine below_set ?_ GE273.out|refine below_set ?_ GE274.out)|exact HB.out)⟩
 rw [if_neg c3] at H
 have c3b0:(a0_0 == a1_0)=false:=beq_eq_false_iff_ne.mpr c3
 have c3b1:(a0_0 != a1_0)=true:=bne_iff_ne.mpr c3
 obtain rfl:=Option.some.inj H
 go_enter Try.func21,Try.ntmps21
 go_wp2_with (first|((with_reducible refine gate_dst (N:=2) rfl ?_);refine box_event ?hg (N:=2) ?hd (cs:=#[.int .i64 a0_0,.int .i64 a0_1,.slice A0_2 l0_2.length c0_2,.slice A0_3 l0_3.length c0_3]) (t:=41) ?hr ?_;(case hd=>rfl);(case hg=>rfl);(case hr=>first|(go_simp;done)|(go_simp;rfl));intro gb273 hg w23 hbox hb;have n0_:=Aside0.mk (below_step (belV HB.out) hb);have n1_:=Aside0.mk (hbox);have n2_:=Aside0.mk ((by rw [hg];exact (below_size (belV HB.out)):w.heap.size≤gb273));have n3_:=Aside0.mk ((by rw [hg];exact (below_size (belV HB.out)):w.heap.size≤gb273));clear HB;have HB:=n0_;have BK273:=n1_;have GW273:=n2_;have GE273:=n3_;clear n0_ n1_ n2_ n3_;clear hb hbox hg)|((with_reducible refine gate_dst (N:=3) rfl ?_);refine box_event ?hg (N:=3) ?hd (cs:=#[.int .i64 a1_0,.int .i64 a1_1,.slice A1_2 l1_2.length c1_2,.slice A1_3 l1_3.length c1_3]) (t:=41) ?hr ?_;(case hd=>rfl);(case hg=>rfl);(case hr=>first|(go_simp;done)|(go_simp;rfl));intro gb274 hg w24 hbox hb;have n0_:=Aside0.mk (blk_below (g:=gb273) (blkV BK273.out) hb);have n1_:=Aside0.mk (below_step (belV1 HB.out GE273.out) hb);have n2_:=Aside0.mk (hbox);have n3_:=Aside0.mk ((by rw [hg];exact (below_size (belV1 HB.out GE273.out)):w.heap.size≤gb274));have n4_:=Aside0.mk ((by rw [hg];exact (below_size (belV1 HB.out GE273.out)):w.heap.size≤gb274));have n5_:=Aside0.mk ((by rw [hg];exact Nat.ne_of_lt (blk_lt (g:=gb273) (blkV BK273.out)):gb273≠gb274));have n6_:=Aside0.mk ((by rw [hg];exact Nat.ne_of_gt (blk_lt (g:=gb273) (blkV BK273.out)):gb274≠gb273));clear BK273;clear HB;have BK273:=n0_;have HB:=n1_;have BK274:=n2_;have GW274:=n3_;have GE274:=n4_;have NB273_274:=n5_;have NB274_273:=n6_;clear n0_ n1_ n2_ n3_ n4_ n5_ n6_;clear hb hbox hg;have hnb25:=NB273_274.out;have hnc25:=NB274_273.out;obtain ⟨hcz26_0,hcz26_1,hcz26_2,hcz26_3,hfz26_0,hfz26_1,hfz26_2,hfz26_3⟩:=bcells4 BK273.out;obtain ⟨hcz27_0,hcz27_1,hcz27_2,hcz27_3,hfz27_0,hfz27_1,hfz27_2,hfz27_3⟩:=bcells4 BK274.out))
 go_ret
 exact ⟨by first|rfl|(simp [errW_none,errW_some] <;> rfl)|(simp [*,errW_none,errW_some] <;> rfl),by repeat (first|(with_reducible first|exact HB.out|apply below_alloc|apply pw_below_drewN|apply below_drew1|refine below_set ?_ GE273.out|refine below_set ?_ GE274.out)|exact HB.out)⟩

/-! ### dioramalaw19_ours: function 22 -/
def dioramalaw19_ours.f (a0_0 : Int) (a0_1 : Int) (l0_2 : List Int) (l0_3 : List Int) : Option (Int) := some 0
theorem dioramalaw19_ours.calls (a0_0 : Int) (a0_1 : Int) (A0_2 : Option Addr) (c0_2 : Nat) (l0_2 : List Int) (A0_3 : Option Addr) (c0_3 : Nat) (l0_3 : List Int) (r : Int) (w : World) (hr0_2 : Kd.C (Kd.int .i64) w A0_2 l0_2.length l0_2) (hc0_2 : l0_2.length ≤ c0_2) (hr0_3 : Kd.C (Kd.int .i64) w A0_3 l0_3.length l0_3) (hc0_3 : l0_3.length ≤ c0_3) (h : dioramalaw19_ours.f a0_0 a0_1 l0_2 l0_3 = some r) :
    Calls Try.prog 22 #[.agg #[.int .i64 a0_0, .int .i64 a0_1, .slice A0_2 l0_2.length c0_2, .slice A0_3 l0_3.length c0_3]] w fun e w' => e = .returned (.agg #[.int .i64 a0_0, .int .i64 a0_1, .slice A0_2 l0_2.length c0_2, .slice A0_3 l0_3.length c0_3]) ∧ Below w.heap.size w w' := by
  clear hr0_2 hc0_2 hr0_3 hc0_3 h
  generalize l0_2.length = n2
  generalize l0_3.length = n3
  go_enter Try.func22, Try.ntmps22
  go_wp2
  exact bodyPost_ret (v := .agg #[.int .i64 a0_0, .int .i64 a0_1, .slice A0_2 n2 c0_2, .slice A0_3 n3 c0_3]) (by simp [results, Try.results22, go_sem]) rfl ⟨rfl, by repeat (first | exact Below.refl _ _ | (with_reducible apply below_alloc) | (with_reducible apply below_drew1))⟩

-- NOT PRINTED: function 5 (dioramalaw19_BitmapForgets)

end Go.Proofs.Ytaebgjdaoloceaa.QBmpF
