/- Part of a proof: functions of the program as Lean functions, and that the machine's calls come to them. Made by a program of this session (wip/mp). -/
import Derived.Test.YtaebgjdaoloceaaQBmpPx0
import Derived.Test.YtaebgjdaoloceaaQBmpPx1
import Derived.Test.YtaebgjdaoloceaaQBmpPx2
namespace Go.Proofs.Ytaebgjdaoloceaa.QBmpP
open Go.RowKit Go.Proofs.YtaebgjdaoloceaaV Go.Proofs.YtaebgjdaoloceaaW.PrintWords Go.Proofs.YtaebgjdaoloceaaW.PrintLast Go.Proofs.YtaebgjdaoloceaaW.PrintMore
attribute [local go_sem] max2_int min2_int max_two min_two max_three min_three max_four min_four   -- for this text's walks alone
set_option linter.unusedVariables false
set_option linter.unusedSimpArgs false

/-! ### bits_Sum: function 56 -/
mutual
def bits_Sum.l0 : Nat → Int → List Int → Int → Int → Option (Int)
 | 0,_,_,_,_=>none
 | k+1,x3,x7,x8,x9=>if x9 < x8 then (if 0≤x9 then (if x9 < (x7.length:Int) then (bits_Sum.l1 k (Go.bits .xor .u32 x3 ((rd x7 x9) % 4294967296)) x7 x8 x9 0) else (none)) else (none)) else (some (Go.bits .xor .u32 4294967295 x3))
def bits_Sum.l1 : Nat → Int → List Int → Int → Int → Int → Option (Int)
 | 0,_,_,_,_,_=>none
 | k+1,x3,x7,x8,x9,x17=>if x17 < 8 then (if (Go.bits .and .u32 x3 1)=1 then (bits_Sum.l1 k (Go.bits .xor .u32 (x3 / 2) 3558460437) x7 x8 x9 (wrap64 (x17+1))) else (bits_Sum.l1 k (x3 / 2) x7 x8 x9 (wrap64 (x17+1)))) else (bits_Sum.l0 k x3 x7 x8 (wrap64 (x9+1)))
end
def bits_Sum.f (k : Nat) (l0 : List Int) : Option (Int) := bits_Sum.l0 k 4294967295 l0 (l0.length : Int) 0
theorem bits_Sum.mono_l:∀ k,(∀ y0 y1 y2 y3,LeO (bits_Sum.l0 k y0 y1 y2 y3) (bits_Sum.l0 (k+1) y0 y1 y2 y3))∧(∀ y0 y1 y2 y3 y4,LeO (bits_Sum.l1 k y0 y1 y2 y3 y4) (bits_Sum.l1 (k+1) y0 y1 y2 y3 y4))
 | 0=>⟨fun _ _ _ _ r h=>by simp [bits_Sum.l0] at h,fun _ _ _ _ _ r h=>by simp [bits_Sum.l1] at h⟩
 | k+1=>by
  obtain ⟨ih0,ih1⟩:=bits_Sum.mono_l k
  refine ⟨?_,?_⟩
  · intro y0 y1 y2 y3
    unfold bits_Sum.l0
    repeat' first
    | (with_reducible exact ih0 _ _ _ _)
    | (with_reducible exact ih1 _ _ _ _ _)
    | (with_reducible exact LeO.refl _)
    | (with_reducible exact LeO.none _)
    | (with_reducible refine LeO.ite ?_ ?_)
    | (with_reducible refine LeO.bind ?_ (fun _=>?_))
    | exact LeO.none _
    | refine LeO.ite ?_ ?_
    | refine LeO.bind ?_ (fun _=>?_)
  intro y0 y1 y2 y3 y4
  unfold bits_Sum.l1
  repeat' first
  | (with_reducible exact ih0 _ _ _ _)
  | (with_reducible exact ih1 _ _ _ _ _)
  | (with_reducible exact LeO.refl _)
  | (with_reducible exact LeO.none _)
  | (with_reducible refine LeO.ite ?_ ?_)
  | (with_reducible refine LeO.bind ?_ (fun _=>?_))
  | exact LeO.none _
  | refine LeO.ite ?_ ?_
  | refine LeO.bind ?_ (fun _=>?_)
theorem bits_Sum.mono:∀ a0 k,LeO (bits_Sum.f k a0) (bits_Sum.f (k+1) a0):=by
 intro a0 k
 obtain ⟨ih0,ih1⟩:=bits_Sum.mono_l k
 unfold bits_Sum.f
 repeat' first
  | (with_reducible exact ih0 _ _ _ _)
  | (with_reducible exact ih1 _ _ _ _ _)
  | (with_reducible exact LeO.refl _)
  | (with_reducible exact LeO.none _)
  | (with_reducible refine LeO.ite ?_ ?_)
  | (with_reducible refine LeO.bind ?_ (fun _=>?_))
  | exact LeO.none _
  | refine LeO.ite ?_ ?_
  | refine LeO.bind ?_ (fun _=>?_)
set_option maxHeartbeats 8000000 in
set_option maxRecDepth 100000 in
theorem bits_Sum.calls (k:Nat) (A0:Option Addr) (c0:Nat) (l0:List Int) (r:Int) (w:World) (hr0:Kd.C (Kd.int .u8) w A0 l0.length l0) (hc0:l0.length≤c0) (h:bits_Sum.f k l0=some r) :
 Calls Try.prog 56 #[.slice A0 l0.length c0] w fun e w'=>e=.returned (.int .u32 r)∧Drawn0 w w':=by
 have HR0:=Aside0.mk hr0
 have HC0:=Aside0.mk hc0;clear hr0 hc0
 have H:(bits_Sum.l0 k 4294967295 l0 (l0.length:Int) 0)=some r:=h;clear h
 have H':=Aside0.mk H;clear H
 go_enter Try.func56,Try.ntmps56
 go_wp2
 go_loopg [3,9] k (fun kq v3 v9 w'=>∃ (x3_1:Int) (x9_1:Int),v3=.int .u32 x3_1∧v9=.int .i64 x9_1∧Aside0 (bits_Sum.l0 kq x3_1 l0 (l0.length:Int) x9_1=some r)∧Aside0 (kq≤k)∧Drawn0 w w')
 case atStart=>exact ⟨(4294967295),(0),okV,okV,H',⟨Nat.le_refl _⟩,by repeat (first|exact Drawn0.refl _|apply Drawn0.step)⟩
 case round =>
  clear H'
  obtain ⟨x3_1,x9_1,rfl,rfl,HA,HK1,⟨m1,rfl⟩⟩:=hrel
  cases gk with
  | zero=>exact absurd HA.out (by simp [bits_Sum.l0])
  | succ k1 =>
   have H:=HA.out;clear HA
   simp only [bits_Sum.l0] at H
   by_cases c2:x9_1 < (l0.length:Int)
   · rw [if_pos c2] at H
     have c2b0:decide (x9_1 < (l0.length:Int))=true:=decide_eq_true c2;clear c2
     by_cases c3:0≤x9_1
     · rw [if_pos c3] at H
       have c3b0:decide (0≤x9_1)=true:=decide_eq_true c3;clear c3
       by_cases c4:x9_1 < (l0.length:Int)
       · rw [if_pos c4] at H
         have c4b0:decide (x9_1 < (l0.length:Int))=true:=decide_eq_true c4;clear c4
         have H':=Aside0.mk H;clear H
         have p195:0≤(x9_1:Int):=of_decide_eq_true asV
         have q195:x9_1 < (l0.length:Int):=of_decide_eq_true asV
         obtain ⟨ad195,e195,hx195_0⟩:=Kd.at_int HR0.out x9_1 p195 q195
         cases e195
         replace p195:=eq_true p195
         replace q195:=eq_true q195
         go_wp2
         go_loopg [3,17] k1 (fun kq v3 v17 w'=>∃ (x3_2:Int) (x17_2:Int),v3=.int .u32 x3_2∧v17=.int .i64 x17_2∧Aside0 (bits_Sum.l1 kq x3_2 l0 (l0.length:Int) x9_1 x17_2=some r)∧Aside0 (kq≤k1)∧Drawn0 w w')
         case atStart=>exact ⟨(Go.bits .xor .u32 x3_1 ((rd l0 x9_1) % 4294967296)),(0),okV,okV,H',⟨Nat.le_refl _⟩,by repeat (first|exact Drawn0.refl _|apply Drawn0.step)⟩
         case round =>
          clear H'
          try clear p1;try clear q1;try clear hx1;try clear c2;try clear c2b0;try clear p2;try clear c3;try clear c3b0;try clear c4;try clear c4b0;try clear hx195_0;try clear p195;try clear q195
          obtain ⟨x3_2,x17_2,rfl,rfl,HA,HK2,⟨m2,rfl⟩⟩:=hrel
          cases gk with
          | zero=>exact absurd HA.out (by simp [bits_Sum.l1])
          | succ k2 =>
           have H:=HA.out;clear HA
           simp only [bits_Sum.l1] at H
           by_cases c5:x17_2 < 8
           · rw [if_pos c5] at H
             have c5b0:decide (x17_2 < 8)=true:=decide_eq_true c5;clear c5
             by_cases c6:(Go.bits .and .u32 x3_2 1)=1
             · rw [if_pos c6] at H
               have c6b0:((Go.bits .and .u32 x3_2 1) == 1)=true:=beq_iff_eq.mpr c6
               have c6b1:((Go.bits .and .u32 x3_2 1) != 1)=false:=bne_eq_false_iff_eq.mpr c6;clear c6
               have H':=Aside0.mk H;clear H
               go_wp2
               go_roundg k2
               case measure=>have:=HK1.out;have:=HK2.out;omega
               case rel=>exact ⟨(Go.bits .xor .u32 (x3_2 / 2) 3558460437),(wrap64 (x17_2+1)),okV,okV,H',⟨by have:=HK1.out;have:=HK2.out;omega⟩,by repeat (first|exact Drawn0.refl _|apply Drawn0.step)⟩
             rw [if_neg c6] at H
             have c6b0:((Go.bits .and .u32 x3_2 1) == 1)=false:=beq_eq_false_iff_ne.mpr c6
             have c6b1:((Go.bits .and .u32 x3_2 1) != 1)=true:=bne_iff_ne.mpr c6
             have H':=Aside0.mk H;clear H
             go_wp2
             go_roundg k2
             case measure=>have:=HK1.out;have:=HK2.out;omega
             case rel=>exact ⟨(x3_2 / 2),(wrap64 (x17_2+1)),okV,okV,H',⟨by have:=HK1.out;have:=HK2.out;omega⟩,by repeat (first|exact Drawn0.refl _|apply Drawn0.step)⟩
           rw [if_neg c5] at H
           have c5b0:decide (x17_2 < 8)=false:=decide_eq_false c5;clear c5
           have H':=Aside0.mk H;clear H
           go_wp2
           go_roundg k2
           case measure=>have:=HK1.out;have:=HK2.out;omega
           case rel=>exact ⟨(x3_2),(wrap64 (x9_1+1)),okV,okV,H',⟨by have:=HK1.out;have:=HK2.out;omega⟩,by repeat (first|exact Drawn0.refl _|apply Drawn0.step)⟩
       rw [if_neg c4] at H
       exact absurd H (by simp)
     rw [if_neg c3] at H
     exact absurd H (by simp)
   rw [if_neg c2] at H
   have c2b0:decide (x9_1 < (l0.length:Int))=false:=decide_eq_false c2;clear c2
   obtain rfl:=Option.some.inj H
   go_wp2
   go_ret
   exact ⟨by first|rfl|(simp;done)|(simp [*];done),by repeat (first|exact Drawn0.refl _|apply Drawn0.step)⟩

-- NOT PRINTED: function 59 (bitmap_reader_take)

-- NOT PRINTED: function 57 (bitmap_reader_n)

/-! ### bitmap_place: function 58 -/
def bitmap_place.f (a0_0 : Int) (a0_1 : Int) (a0_2 : Int) (a0_3 : Int) (l0_4 : List Int) : Option (Bool) := (bitmap_within.f a0_0 0 999).bind fun t197 => (if t197 = true then ((bitmap_within.f a0_1 0 999).bind fun t198 => (if t198 = true then ((bitmap_within.f a0_2 1 64).bind fun t199 => (if t199 = true then ((bitmap_within.f a0_3 1 64).bind fun t200 => (some t200)) else (some false))) else (some false))) else (some false))
set_option maxHeartbeats 8000000 in
set_option maxRecDepth 100000 in
theorem bitmap_place.calls (a0_0:Int) (a0_1:Int) (a0_2:Int) (a0_3:Int) (A0_4:Option Addr) (c0_4:Nat) (l0_4:List Int) (r:Bool) (w:World) (hr0_4:Kd.C (Kd.int .i64) w A0_4 l0_4.length l0_4) (hc0_4:l0_4.length≤c0_4) (h:bitmap_place.f a0_0 a0_1 a0_2 a0_3 l0_4=some r) :
 Calls Try.prog 58 #[.agg #[.int .i64 a0_0,.int .i64 a0_1,.int .i64 a0_2,.int .i64 a0_3,.slice A0_4 l0_4.length c0_4]] w fun e w'=>e=.returned (.bool r)∧Below w.heap.size w w':=by
 have hu91:=Try.underlying91
 have HR0_4:=Aside0.mk hr0_4
 have HC0_4:=Aside0.mk hc0_4;clear hr0_4 hc0_4;have HB:=Aside0.mk (Below.refl w.heap.size w)
 have H:((bitmap_within.f a0_0 0 999).bind fun t197=>(if t197=true then ((bitmap_within.f a0_1 0 999).bind fun t198=>(if t198=true then ((bitmap_within.f a0_2 1 64).bind fun t199=>(if t199=true then ((bitmap_within.f a0_3 1 64).bind fun t200=>(some t200)) else (some false))) else (some false))) else (some false)))=some r:=h
 clear h
 replace H:=Option.bind_eq_some_iff.mp H
 obtain ⟨t197,A20,H⟩:=H
 replace H:(if t197=true then ((bitmap_within.f a0_1 0 999).bind fun t198=>(if t198=true then ((bitmap_within.f a0_2 1 64).bind fun t199=>(if t199=true then ((bitmap_within.f a0_3 1 64).bind fun t200=>(some t200)) else (some false))) else (some false))) else (some false))=some r:=H
 have A2:=Aside0.mk A20;clear A20
 by_cases c3:t197=true
 · subst c3
   have H1:((bitmap_within.f a0_1 0 999).bind fun t198=>(if t198=true then ((bitmap_within.f a0_2 1 64).bind fun t199=>(if t199=true then ((bitmap_within.f a0_3 1 64).bind fun t200=>(some t200)) else (some false))) else (some false)))=some r:=by rw [if_pos rfl] at H;exact H
   clear H
   have H:=H1;clear H1
   replace H:=Option.bind_eq_some_iff.mp H
   obtain ⟨t198,A40,H⟩:=H
   replace H:(if t198=true then ((bitmap_within.f a0_2 1 64).bind fun t199=>(if t199=true then ((bitmap_within.f a0_3 1 64).bind fun t200=>(some t200)) else (some false))) else (some false))=some r:=H
   have A4:=Aside0.mk A40;clear A40
   by_cases c5:t198=true
   · subst c5
     have H1:((bitmap_within.f a0_2 1 64).bind fun t199=>(if t199=true then ((bitmap_within.f a0_3 1 64).bind fun t200=>(some t200)) else (some false)))=some r:=by rw [if_pos rfl] at H;exact H
     clear H
     have H:=H1;clear H1
     replace H:=Option.bind_eq_some_iff.mp H
     obtain ⟨t199,A60,H⟩:=H
     replace H:(if t199=true then ((bitmap_within.f a0_3 1 64).bind fun t200=>(some t200)) else (some false))=some r:=H
     have A6:=Aside0.mk A60;clear A60
     by_cases c7:t199=true
     · subst c7
       have H1:((bitmap_within.f a0_3 1 64).bind fun t200=>(some t200))=some r:=by rw [if_pos rfl] at H;exact H
       clear H
       have H:=H1;clear H1
       replace H:=Option.bind_eq_some_iff.mp H
       obtain ⟨t200,A80,H⟩:=H
       replace H:(some t200)=some r:=H
       have A8:=Aside0.mk A80;clear A80
       obtain rfl:=Option.some.inj H
       go_enter Try.func58,Try.ntmps58
       go_wp2_with (first|((with_reducible refine gate_dst (N:=1) rfl ?_);refine box_event ?hg (N:=1) ?hd (cs:=#[.int .i64 a0_0,.int .i64 a0_1,.int .i64 a0_2,.int .i64 a0_3,.slice A0_4 l0_4.length c0_4]) (t:=91) ?hr ?_;(case hd=>rfl);(case hg=>rfl);(case hr=>first|(go_simp;done)|(go_simp;rfl));intro gb196 hg w9 hbox hb;have n0_:=Aside0.mk (below_step (belV HB.out) hb);have n1_:=Aside0.mk (hbox);have n2_:=Aside0.mk ((by rw [hg];exact (below_size (belV HB.out)):w.heap.size≤gb196));have n3_:=Aside0.mk ((by rw [hg];exact (below_size (belV HB.out)):w.heap.size≤gb196));clear HB;have HB:=n0_;have BK196:=n1_;have GW196:=n2_;have GE196:=n3_;clear n0_ n1_ n2_ n3_;clear hb hbox hg;obtain ⟨hcz10_0,hcz10_1,hcz10_2,hcz10_3,hcz10_4,hfz10_0,hfz10_1,hfz10_2,hfz10_3,hfz10_4⟩:=bcells5 BK196.out)|((with_reducible refine gate_callee (f:=47) rfl ?_);refine goesL_ (some 5) rfl rfl Try.func47 (by kernel_rfl) rfl #[.int .i64 a0_0,.int .i64 0,.int .i64 999] rfl (by (try simp only [List.map_toArray,List.map_cons,List.map_nil]);first|done|rfl|(simp only [List.length_drop,List.length_take];rfl)) ?_;(with_reducible refine (bitmap_within.calls a0_0 0 999 true _ A2.out).mono ?_);rintro e w' ⟨rfl,⟨nd,rfl⟩⟩;refine ⟨_,rfl,?_⟩)|(go_at_call 47;(with_reducible refine (bitmap_within.calls a0_1 0 999 true _ A4.out).mono ?_);rintro e w' ⟨rfl,⟨nd,rfl⟩⟩)|(go_at_call 47;(with_reducible refine (bitmap_within.calls a0_2 1 64 true _ A6.out).mono ?_);rintro e w' ⟨rfl,⟨nd,rfl⟩⟩)|(go_at_call 47;(with_reducible refine (bitmap_within.calls a0_3 1 64 t200 _ A8.out).mono ?_);rintro e w' ⟨rfl,⟨nd,rfl⟩⟩))
       go_ret
       exact ⟨by first|rfl|(simp [errW_none,errW_some] <;> rfl)|(simp [*,errW_none,errW_some] <;> rfl),by repeat (first|(with_reducible first|exact HB.out|apply below_alloc|apply pw_below_drewN|apply below_drew1|refine below_set ?_ GE196.out)|exact HB.out)⟩
     replace c7:=Bool.eq_false_iff.mpr c7;subst c7
     have H1:(some false)=some r:=by rw [if_neg (show ¬ (false=true) by decide)] at H;exact H
     clear H
     have H:=H1;clear H1
     obtain rfl:=Option.some.inj H
     go_enter Try.func58,Try.ntmps58
     go_wp2_with (first|((with_reducible refine gate_dst (N:=1) rfl ?_);refine box_event ?hg (N:=1) ?hd (cs:=#[.int .i64 a0_0,.int .i64 a0_1,.int .i64 a0_2,.int .i64 a0_3,.slice A0_4 l0_4.length c0_4]) (t:=91) ?hr ?_;(case hd=>rfl);(case hg=>rfl);(case hr=>first|(go_simp;done)|(go_simp;rfl));intro gb196 hg w11 hbox hb;have n0_:=Aside0.mk (below_step (belV HB.out) hb);have n1_:=Aside0.mk (hbox);have n2_:=Aside0.mk ((by rw [hg];exact (below_size (belV HB.out)):w.heap.size≤gb196));have n3_:=Aside0.mk ((by rw [hg];exact (below_size (belV HB.out)):w.heap.size≤gb196));clear HB;have HB:=n0_;have BK196:=n1_;have GW196:=n2_;have GE196:=n3_;clear n0_ n1_ n2_ n3_;clear hb hbox hg;obtain ⟨hcz12_0,hcz12_1,hcz12_2,hcz12_3,hcz12_4,hfz12_0,hfz12_1,hfz12_2,hfz12_3,hfz12_4⟩:=bcells5 BK196.out)|((with_reducible refine gate_callee (f:=47) rfl ?_);refine goesL_ (some 5) rfl rfl Try.func47 (by kernel_rfl) rfl #[.int .i64 a0_0,.int .i64 0,.int .i64 999] rfl (by (try simp only [List.map_toArray,List.map_cons,List.map_nil]);first|done|rfl|(simp only [List.length_drop,List.length_take];rfl)) ?_;(with_reducible refine (bitmap_within.calls a0_0 0 999 true _ A2.out).mono ?_);rintro e w' ⟨rfl,⟨nd,rfl⟩⟩;refine ⟨_,rfl,?_⟩)|(go_at_call 47;(with_reducible refine (bitmap_within.calls a0_1 0 999 true _ A4.out).mono ?_);rintro e w' ⟨rfl,⟨nd,rfl⟩⟩)|(go_at_call 47;(with_reducible refine (bitmap_within.calls a0_2 1 64 false _ A6.out).mono ?_);rintro e w' ⟨rfl,⟨nd,rfl⟩⟩))
     go_ret
     exact ⟨by first|rfl|(simp [errW_none,errW_some] <;> rfl)|(simp [*,errW_none,errW_some] <;> rfl),by repeat (first|(with_reducible first|exact HB.out|apply below_alloc|apply pw_below_drewN|apply below_drew1|refine below_set ?_ GE196.out)|exact HB.out)⟩
   replace c5:=Bool.eq_false_iff.mpr c5;subst c5
   have H1:(some false)=some r:=by rw [if_neg (show ¬ (false=true) by decide)] at H;exact H
   clear H
   have H:=H1;clear H1
   obtain rfl:=Option.some.inj H
   go_enter Try.func58,Try.ntmps58
   go_wp2_with (first|((with_reducible refine gate_dst (N:=1) rfl ?_);refine box_event ?hg (N:=1) ?hd (cs:=#[.int .i64 a0_0,.int .i64 a0_1,.int .i64 a0_2,.int .i64 a0_3,.slice A0_4 l0_4.length c0_4]) (t:=91) ?hr ?_;(case hd=>rfl);(case hg=>rfl);(case hr=>first|(go_simp;done)|(go_simp;rfl));intro gb196 hg w13 hbox hb;have n0_:=Aside0.mk (below_step (belV HB.out) hb);have n1_:=Aside0.mk (hbox);have n2_:=Aside0.mk ((by rw [hg];exact (below_size (belV HB.out)):w.heap.size≤gb196));have n3_:=Aside0.mk ((by rw [hg];exact (below_size (belV HB.out)):w.heap.size≤gb196));clear HB;have HB:=n0_;have BK196:=n1_;have GW196:=n2_;have GE196:=n3_;clear n0_ n1_ n2_ n3_;clear hb hbox hg;obtain ⟨hcz14_0,hcz14_1,hcz14_2,hcz14_3,hcz14_4,hfz14_0,hfz14_1,hfz14_2,hfz14_3,hfz14_4⟩:=bcells5 BK196.out)|((with_reducible refine gate_callee (f:=47) rfl ?_);refine goesL_ (some 5) rfl rfl Try.func47 (by kernel_rfl) rfl #[.int .i64 a0_0,.int .i64 0,.int .i64 999] rfl (by (try simp only [List.map_toArray,List.map_cons,List.map_nil]);first|done|rfl|(simp only [List.length_drop,List.length_take];rfl)) ?_;(with_reducible refine (bitmap_within.calls a0_0 0 999 true _ A2.out).mono ?_);rintro e w' ⟨rfl,⟨nd,rfl⟩⟩;refine ⟨_,rfl,?_⟩)|(go_at_call 47;(with_reducible refine (bitmap_within.calls a0_1 0 999 false _ A4.out).mono ?_);rintro e w' ⟨rfl,⟨nd,rfl⟩⟩))
   go_ret
   exact ⟨by first|rfl|(simp [errW_none,errW_some] <;> rfl)|(simp [*,errW_none,errW_some] <;> rfl),by repeat (first|(with_reducible first|exact HB.out|apply below_alloc|apply pw_below_drewN|apply below_drew1|refine below_set ?_ GE196.out)|exact HB.out)⟩
 replace c3:=Bool.eq_false_iff.mpr c3;subst c3
 have H1:(some false)=some r:=by rw [if_neg (show ¬ (false=true) by decide)] at H;exact H
 clear H
 have H:=H1;clear H1
 obtain rfl:=Option.some.inj H
 go_enter Try.func58,Try.ntmps58
 go_wp2_with (first|((with_reducible refine gate_dst (N:=1) rfl ?_);refine box_event ?hg (N:=1) ?hd (cs:=#[.int .i64 a0_0,.int .i64 a0_1,.int .i64 a0_2,.int .i64 a0_3,.slice A0_4 l0_4.length c0_4]) (t:=91) ?hr ?_;(case hd=>rfl);(case hg=>rfl);(case hr=>first|(go_simp;done)|(go_simp;rfl));intro gb196 hg w15 hbox hb;have n0_:=Aside0.mk (below_step (belV HB.out) hb);have n1_:=Aside0.mk (hbox);have n2_:=Aside0.mk ((by rw [hg];exact (below_size (belV HB.out)):w.heap.size≤gb196));have n3_:=Aside0.mk ((by rw [hg];exact (below_size (belV HB.out)):w.heap.size≤gb196));clear HB;have HB:=n0_;have BK196:=n1_;have GW196:=n2_;have GE196:=n3_;clear n0_ n1_ n2_ n3_;clear hb hbox hg;obtain ⟨hcz16_0,hcz16_1,hcz16_2,hcz16_3,hcz16_4,hfz16_0,hfz16_1,hfz16_2,hfz16_3,hfz16_4⟩:=bcells5 BK196.out)|((with_reducible refine gate_callee (f:=47) rfl ?_);refine goesL_ (some 5) rfl rfl Try.func47 (by kernel_rfl) rfl #[.int .i64 a0_0,.int .i64 0,.int .i64 999] rfl (by (try simp only [List.map_toArray,List.map_cons,List.map_nil]);first|done|rfl|(simp only [List.length_drop,List.length_take];rfl)) ?_;(with_reducible refine (bitmap_within.calls a0_0 0 999 false _ A2.out).mono ?_);rintro e w' ⟨rfl,⟨nd,rfl⟩⟩;refine ⟨_,rfl,?_⟩))
 go_ret
 exact ⟨by first|rfl|(simp [errW_none,errW_some] <;> rfl)|(simp [*,errW_none,errW_some] <;> rfl),by repeat (first|(with_reducible first|exact HB.out|apply below_alloc|apply pw_below_drewN|apply below_drew1|refine below_set ?_ GE196.out)|exact HB.out)⟩

/-! ### bitmap_Decode: function 26 -/
/-- What a reader takes of bytes, what it has left, its error. -/
def tkL (l : List Int) (n : Nat) : List Int := if l.length < n then List.replicate n 0 else l.take n
def tkR (l : List Int) (n : Nat) : List Int := if l.length < n then [] else l.drop n
def tkE (l : List Int) (n : Nat) (e : Int) : Int := if l.length < n then 3 else e
theorem tkL_length (l : List Int) (n : Nat) : (tkL l n).length = n := by unfold tkL; split <;> simp; omega
/-- A reader at block g: the bytes came in by w0. -/
structure Rdr (w0 w : World) (g : Nat) (l : List Int) (e : Int) : Prop where
  b : Below w0.heap.size w0 w
  ge : w0.heap.size ≤ g
  ex : ∃ A c, w.heap[g]? = some (.cells #[.slice A l.length c, .int .i64 e] 97 (0, 0)) ∧ l.length ≤ c ∧ Kd.C (Kd.int .u8) w0 A l.length l
theorem Rdr.below {w0 w w' : World} {g : Nat} {l : List Int} {e : Int} (h : Rdr w0 w g l e) (hb : Below w.heap.size w w') : Rdr w0 w' g l e := by
  obtain ⟨hb0, hge, A, c, hg, hc, hr⟩ := h
  exact ⟨below_step hb0 hb, hge, A, c, blk_below hg hb, hc, hr⟩
theorem Rdr.at_ {w0 w w' : World} {g : Nat} {l : List Int} {e : Int} (h : Rdr w0 w g l e) (hb : Below w0.heap.size w0 w') (hk : w'.heap[g]? = w.heap[g]?) : Rdr w0 w' g l e := by
  obtain ⟨_, hge, A, c, hg, hc, hr⟩ := h
  exact ⟨hb, hge, A, c, hk.trans hg, hc, hr⟩
set_option maxRecDepth 100000 in
set_option maxHeartbeats 1000000 in
theorem take_calls {w0 w : World} {g : Nat} {l : List Int} {e : Int} (h : Rdr w0 w g l e) (n : Nat) (hn : n ≤ 65535) :
    Calls Try.prog 59 #[.pointer (some ⟨g, 0, none⟩), .int .i64 (n : Int)] w fun r w' => ∃ A c, r = .returned (.slice A (tkL l n).length c) ∧ (tkL l n).length ≤ c ∧ Kd.C (Kd.int .u8) w' A (tkL l n).length (tkL l n) ∧ Rdr w0 w' g (tkR l n) (tkE l n e) ∧ KeepBut w w' g none := by
  have hu := Try.underlying97
  have info5 : (Try.prog.info? 5).map (fun i => (i.zero, i.size, i.bytes)) = some (some (.int .u8 0), 1, 1) := by kernel_rfl
  obtain ⟨hb, hge, A, c, hg, hc, hr⟩ := h
  have HB := Aside0.mk hb
  have HGE := Aside0.mk hge
  have HG := Aside0.mk hg
  have HC := Aside0.mk hc
  have HR := Aside0.mk hr
  have HN := Aside0.mk hn
  obtain ⟨c0, c1, f0, f1⟩ := bcells2 hg
  by_cases hlt : l.length < n
  · have h1 : decide ((l.length : Int) < (n : Int)) = true := decide_eq_true (by omega)
    have h2 : decide (l.length < n) = true := decide_eq_true hlt
    have HL := Aside0.mk hlt
    have hmk := print_make (P := Try.prog) 23 5 .u8 1 Try.underlying23 info5 (by omega) n (by omega)
    clear hb hge hg hc hr hlt hn info5
    go_enter Try.func59, Try.ntmps59
    go_wp2_with fail
    go_ret
    have e1 : tkL l n = List.replicate n 0 := if_pos HL.out
    have e2 : tkR l n = [] := if_pos HL.out
    have e3 : tkE l n e = 3 := if_pos HL.out
    rw [e1, e2, e3, List.length_replicate]
    refine ⟨some ⟨w.heap.size, 0, none⟩, n, rfl, Nat.le_refl _, ?_, ⟨?_, HGE.out, none, 0, ?_, Nat.le_refl _, Kd.C_nil _ _⟩, ?_⟩
    · obtain ⟨W1, hW1⟩ : ∃ W1, (w.setCell ⟨g, 1, none⟩ (.int .i64 3)).setCell ⟨g, 0, none⟩ (.slice none 0 0) = W1 := ⟨_, rfl⟩
      have hs : w.heap.size = W1.heap.size := by rw [← hW1]; simp [World.setCell]
      rw [hW1, hs]
      exact Kd.C_of_reads (own_reads' (own_made W1 0 5 .u8 n (Nat.zero_le _) (by have := HN.out; omega)))
    · exact below_alloc (below_set (below_set HB.out HGE.out) HGE.out) _
    · exact blk_alloc (blk_put (blk_put HG.out 1 _ rfl) 0 _ rfl) _
    · exact keep_alloc (KeepBut.set_ (KeepBut.set_ (KeepBut.refl w g none) 1 _) 0 _) _
  · have h1 : decide ((l.length : Int) < (n : Int)) = false := decide_eq_false (by omega)
    have h2 : decide (l.length < n) = false := decide_eq_false hlt
    have HL := Aside0.mk hlt
    obtain ⟨i0, hi0, _, hsz, _⟩ := info_parts info5
    have hle : n ≤ l.length := by omega
    have hlc : n ≤ c := by omega
    have hcut := cut_from (P := Try.prog) 23 5 .i64 Try.underlying23 hi0 1 hsz A l.length c (n : Int) (by omega) (by omega)
    have hq := Kd.C_drop (m := n) (c := c) hr (by omega) hc
    obtain ⟨A1, hA1⟩ : ∃ A1, A1 = (if c = n then A else A.map (·.add (n * 1))) := ⟨_, rfl⟩
    rw [Int.toNat_natCast, ← hA1] at hcut
    have HQ : Aside0 (Kd.C (Kd.int .u8) w0 A1 (l.drop n).length (l.drop n)) := ⟨by rw [hA1]; exact hq⟩
    rw [← List.length_drop] at hcut
    have e1 := eq_true hle
    have e2 := eq_true hlc
    clear hb hge hg hc hr hlt hn info5 hi0 hsz hA1 hq hle hlc
    go_enter Try.func59, Try.ntmps59
    go_wp2_with fail
    go_ret
    have e1 : tkL l n = l.take n := if_neg HL.out
    have e2 : tkR l n = l.drop n := if_neg HL.out
    have e3 : tkE l n e = e := if_neg HL.out
    have hln : (l.take n).length = n := by rw [List.length_take]; have := HL.out; omega
    rw [e1, e2, e3, ← List.length_drop]
    have hB : Below w0.heap.size w0 (w.setCell ⟨g, 0, none⟩ (.slice A1 (l.drop n).length (c - n))) := below_set HB.out HGE.out
    refine ⟨A, n, by rw [hln]; rfl, Nat.le_of_eq hln, Kd.C_below (Kd.C_take HR.out (by have := HL.out; omega)) hB, ⟨hB, HGE.out, A1, c - n, blk_put HG.out 0 _ rfl, ?_, HQ.out⟩, KeepBut.set_ (KeepBut.refl w g none) 0 _⟩
    rw [List.length_drop]; have := HC.out; omega
/-- A number of n bytes that a reader reads. -/
def rdN (k : Nat) (l : List Int) (e : Int) (n : Nat) : Option (Int × List Int × Int) := (bits_Int.f k (tkL l n) 0 (n : Int)).bind fun v => some (v.1, tkR l n, tkE l n e)
theorem n_calls (k : Nat) {w0 w : World} {g : Nat} {l : List Int} {e : Int} (h : Rdr w0 w g l e) (n : Nat) (hn : n ≤ 65535) {v : Int} {l' : List Int} {e' : Int} (hf : rdN k l e n = some (v, l', e')) :
    Calls Try.prog 57 #[.pointer (some ⟨g, 0, none⟩), .int .i64 (n : Int)] w fun r w' => r = .returned (.int .i64 v) ∧ Rdr w0 w' g l' e' ∧ KeepBut w w' g none := by
  obtain ⟨⟨v1, v2⟩, h1, h2⟩ := Option.bind_eq_some_iff.mp hf
  obtain ⟨rfl, rfl, rfl⟩ : v1 = v ∧ tkR l n = l' ∧ tkE l n e = e' := by simpa using h2
  have H := Aside0.mk h
  have H1 := Aside0.mk h1
  have HN := Aside0.mk hn
  clear h h1 h2 hn hf
  go_enter Try.func57, Try.ntmps57
  go_wp2_with fail
  refine (take_calls H.out n HN.out).mono ?_
  rintro r w1 ⟨A, c, rfl, hc, hr, hR, hk⟩
  have HR := Aside0.mk hR
  have HK := Aside0.mk hk
  have HC := Aside0.mk hc
  have HA := Aside0.mk hr
  clear hc hr hR hk
  go_wp2_with fail
  refine (bits_Int.calls k A c (tkL l n) 0 (n : Int) v1 v2 _ HA.out HC.out H1.out).mono ?_
  rintro r w2 ⟨rfl, ⟨n2, rfl⟩⟩
  go_wp2_with fail
  go_ret
  exact ⟨rfl, HR.out.at_ (pw_below_drewN HR.out.b _) rfl, keep_drewN HK.out _⟩
/-- The palette's numbers, read one after the other. -/
def palF (k : Nat) : Nat → List Int → Int → List Int → Option (List Int × List Int × Int)
  | 0, l, e, acc => some (acc, l, e)
  | m + 1, l, e, acc => (rdN k l e 3).bind fun v => palF k m v.2.1 v.2.2 (acc ++ [v.1])
/-- A patch's head: four numbers and the size of its runs. -/
def hdF (k : Nat) (l : List Int) (e : Int) : Option (Int × Int × Int × Int × Int × List Int × Int) :=
  (rdN k l e 2).bind fun x => (rdN k x.2.1 x.2.2 2).bind fun y => (rdN k y.2.1 y.2.2 1).bind fun w => (rdN k w.2.1 w.2.2 1).bind fun h => (rdN k h.2.1 h.2.2 2).bind fun n => some (x.1, y.1, w.1, h.1, n.1, n.2.1, n.2.2)
/-- The patches, read one after the other; the error, if there is one. -/
def patF (k : Nat) : Nat → List Int → Int → List S91 → Option (List S91 × List Int × Int)
  | 0, l, e, acc => some (acc, l, e)
  | m + 1, l, e, acc => (hdF k l e).bind fun x => if x.2.2.2.2.2.2 = 0 then (bitmap_place.f x.1 x.2.1 x.2.2.1 x.2.2.2.1 []).bind fun b => if b = true then (if ¬ (0 ≤ x.2.2.2.2.1 ∧ x.2.2.2.2.1 ≤ 65535) then none else if tkE x.2.2.2.2.2.1 x.2.2.2.2.1.toNat 0 = 0 then (bitmap_Pixels.f k (tkL x.2.2.2.2.2.1 x.2.2.2.2.1.toNat) x.2.2.1 x.2.2.2.1).bind fun p => if p.2 = 0 then patF k m (tkR x.2.2.2.2.2.1 x.2.2.2.2.1.toNat) 0 (acc ++ [⟨x.1, x.2.1, x.2.2.1, x.2.2.2.1, p.1⟩]) else some ([], [], p.2) else some ([], [], 3)) else some ([], [], 1) else some ([], [], x.2.2.2.2.2.2)
def bitmap_Decode.f (k : Nat) (l0 : List Int) : Option (Bool × List Int × List S91 × Int) :=
  if l0.length < 7 then some (false, [], [], 3) else (bits_Int.f k l0 ((l0.length - 4 : Nat) : Int) 4).bind fun s => (bits_Sum.f k (l0.take (l0.length - 4))).bind fun t =>
  if s.1 = wrap64 t then (rdN k (l0.take (l0.length - 4)) 0 1).bind fun a => if a.1 > 1 then some (false, [], [], 4) else (rdN k a.2.1 a.2.2 1).bind fun b => if b.1 > 16 then some (false, [], [], 2) else
  (palF k b.1.toNat b.2.1 b.2.2 []).bind fun p => (rdN k p.2.1 p.2.2 1).bind fun c => if c.2.2 = 0 then (if c.1 > 8 then some (false, [], [], 2) else (patF k c.1.toNat c.2.1 c.2.2 []).bind fun q => if q.2.2 = 0 then (if q.2.1.length > 0 then some (false, [], [], 4) else some (a.1 == 1, p.1, q.1, 0)) else some (false, [], [], q.2.2)) else some (false, [], [], c.2.2) else some (false, [], [], 6)
theorem rdN_mono (k : Nat) (l : List Int) (e : Int) (n : Nat) : LeO (rdN k l e n) (rdN (k + 1) l e n) := LeO.bind (bits_Int.mono _ _ _ _) (fun _ => LeO.refl _)
theorem palF_mono (k : Nat) : ∀ (m : Nat) (l : List Int) (e : Int) (acc : List Int), LeO (palF k m l e acc) (palF (k + 1) m l e acc)
  | 0, _, _, _ => LeO.refl _
  | m + 1, l, e, acc => LeO.bind (rdN_mono _ _ _ _) (fun _ => palF_mono k m _ _ _)
theorem hdF_mono (k : Nat) (l : List Int) (e : Int) : LeO (hdF k l e) (hdF (k + 1) l e) :=
  LeO.bind (rdN_mono _ _ _ _) (fun _ => LeO.bind (rdN_mono _ _ _ _) (fun _ => LeO.bind (rdN_mono _ _ _ _) (fun _ => LeO.bind (rdN_mono _ _ _ _) (fun _ => LeO.bind (rdN_mono _ _ _ _) (fun _ => LeO.refl _)))))
theorem patF_mono (k : Nat) : ∀ (m : Nat) (l : List Int) (e : Int) (acc : List S91), LeO (patF k m l e acc) (patF (k + 1) m l e acc)
  | 0, _, _, _ => LeO.refl _
  | m + 1, l, e, acc => LeO.bind (hdF_mono _ _ _) (fun _ => LeO.ite (LeO.bind (LeO.refl _) (fun _ => LeO.ite (LeO.ite (LeO.refl _) (LeO.ite (LeO.bind (bitmap_Pixels.mono _ _ _ _) (fun _ => LeO.ite (patF_mono k m _ _ _) (LeO.refl _))) (LeO.refl _))) (LeO.refl _))) (LeO.refl _))
theorem bitmap_Decode.mono : ∀ a0 k, LeO (bitmap_Decode.f k a0) (bitmap_Decode.f (k + 1) a0) := by
  intro a0 k
  unfold bitmap_Decode.f
  repeat' first
    | (with_reducible exact rdN_mono _ _ _ _)
    | (with_reducible exact palF_mono _ _ _ _ _)
    | (with_reducible exact patF_mono _ _ _ _ _)
    | (with_reducible exact bits_Int.mono _ _ _ _)
    | (with_reducible exact bits_Sum.mono _ _)
    | (with_reducible exact LeO.refl _)
    | (with_reducible refine LeO.ite ?_ ?_)
    | (with_reducible refine LeO.bind ?_ (fun _ => ?_))
/-- What Decode has in memory: the page that it returns, its reader, its page. -/
structure DS (w0 w : World) (g2 g7 g9 : Nat) (l : List Int) (e : Int) (cl : Bool) (vp vq : Value) : Prop where
  r : Rdr w0 w g7 l e
  k2 : w.heap[g2]? = some (.cells #[.bool false, .slice none 0 0, .slice none 0 0] 51 (0, 0))
  k9 : w.heap[g9]? = some (.cells #[.bool cl, vp, vq] 51 (0, 0))
  n27 : g2 ≠ g7
  n29 : g2 ≠ g9
  n79 : g7 ≠ g9
  ge2 : w0.heap.size ≤ g2
  ge9 : w0.heap.size ≤ g9
theorem DS.call {w0 w w' : World} {g2 g7 g9 : Nat} {l l' : List Int} {e e' : Int} {cl : Bool} {vp vq : Value} (h : DS w0 w g2 g7 g9 l e cl vp vq) (hR : Rdr w0 w' g7 l' e') (hk : KeepBut w w' g7 none) : DS w0 w' g2 g7 g9 l' e' cl vp vq :=
  ⟨hR, hk.blk h.k2 h.n27 (by simp), hk.blk h.k9 (Ne.symm h.n79) (by simp), h.n27, h.n29, h.n79, h.ge2, h.ge9⟩
theorem DS.below {w0 w w' : World} {g2 g7 g9 : Nat} {l : List Int} {e : Int} {cl : Bool} {vp vq : Value} (h : DS w0 w g2 g7 g9 l e cl vp vq) (hb : Below w.heap.size w w') : DS w0 w' g2 g7 g9 l e cl vp vq :=
  ⟨h.r.below hb, blk_below h.k2 hb, blk_below h.k9 hb, h.n27, h.n29, h.n79, h.ge2, h.ge9⟩
theorem DS.drew {w0 w : World} {g2 g7 g9 : Nat} {l : List Int} {e : Int} {cl : Bool} {vp vq : Value} (h : DS w0 w g2 g7 g9 l e cl vp vq) : DS w0 w.drew g2 g7 g9 l e cl vp vq := h.below (below_drew (Below.refl _ _))
theorem Rdr.k7 {w0 w : World} {g : Nat} {l : List Int} {e : Int} (h : Rdr w0 w g l e) : ∃ cells, w.heap[g]? = some (.cells cells 97 (0, 0)) := by
  obtain ⟨_, _, A, c, h1, _⟩ := h
  exact ⟨_, h1⟩
/-- A row of its own stays, whatever the reader's methods turn. -/
theorem R_rdr {α : Type} {d : Kd α} {ty base : Nat} {ok : Nat → Prop} {v : Value} {xs : List α} {w0 w w' : World} {g : Nat} {l : List Int} {e : Int} (hr : d.R ty w base ok v xs) (h : Rdr w0 w g l e) (hk : KeepBut w w' g none) (ht : ∀ q, q ∈ ty :: d.E → q ≠ 97) : d.R ty w' base ok v xs := by
  obtain ⟨c, hc⟩ := h.k7
  exact Kd.R_mono (Kd.R_keep (Kd.R_types hr hc ht) hk (fun _ h => h.2)) (fun _ h => h.1)
theorem S_rdr {α : Type} {d : Kd α} {ty base : Nat} {ok : Nat → Prop} {v : Value} {xs : List α} {w0 w w' : World} {g : Nat} {l : List Int} {e : Int} (hr : Kd.S d ty w base ok v xs) (h : Rdr w0 w g l e) (hk : KeepBut w w' g none) (ht : ∀ q, q ∈ ty :: d.E → q ≠ 97) : Kd.S d ty w' base ok v xs := by
  obtain ⟨c, hc⟩ := h.k7
  exact Kd.S_mono (Kd.S_keep (Kd.S_types hr hc ht) hk (fun _ h => h.2)) (fun _ h => h.1)
theorem DS.grown {w0 w w' : World} {g2 g7 g9 : Nat} {l : List Int} {e : Int} {cl : Bool} {vp vq : Value} {row : Option Nat} (h : DS w0 w g2 g7 g9 l e cl vp vq) (hb : Below w0.heap.size w0 w') (hg : w.grownBy w' row) (h2 : some g2 ≠ row) (h7 : some g7 ≠ row) (h9 : some g9 ≠ row) : DS w0 w' g2 g7 g9 l e cl vp vq :=
  ⟨h.r.at_ hb (by obtain ⟨c, hc⟩ := h.r.k7; exact hg.block g7 (blk_lt hc) h7), blk_grown h.k2 hg h2, blk_grown h.k9 hg h9, h.n27, h.n29, h.n79, h.ge2, h.ge9⟩
theorem DS.put {w0 w : World} {g2 g7 g9 : Nat} {l : List Int} {e : Int} {cl : Bool} {vp vq : Value} (h : DS w0 w g2 g7 g9 l e cl vp vq) (vp' : Value) : DS w0 (w.setCell ⟨g9, 1, none⟩ vp') g2 g7 g9 l e cl vp' vq :=
  ⟨h.r.at_ (below_set h.r.b h.ge9) (Below.heap_setCell _ _ _ _ h.n79), blk_far h.k2 h.n29 _, blk_put h.k9 1 _ rfl, h.n27, h.n29, h.n79, h.ge2, h.ge9⟩
theorem DS.put2 {w0 w : World} {g2 g7 g9 : Nat} {l : List Int} {e : Int} {cl : Bool} {vp vq : Value} (h : DS w0 w g2 g7 g9 l e cl vp vq) (vq' : Value) : DS w0 (w.setCell ⟨g9, 2, none⟩ vq') g2 g7 g9 l e cl vp vq' :=
  ⟨h.r.at_ (below_set h.r.b h.ge9) (Below.heap_setCell _ _ _ _ h.n79), blk_far h.k2 h.n29 _, blk_put h.k9 2 _ rfl, h.n27, h.n29, h.n79, h.ge2, h.ge9⟩
/-- .. and a patch under way at block ga. -/
structure PS (w0 w : World) (g2 g7 g9 ga : Nat) (l : List Int) (e : Int) (cl : Bool) (vp vq : Value) (acc : List Int) (ps : List S91) (c0 c1 c2 c3 c4 : Value) : Prop where
  d : DS w0 w g2 g7 g9 l e cl vp vq
  o : Kd.R (Kd.int .i64) 3 w w0.heap.size (fun _ => True) vp acc
  s : Kd.S k91 91 w w0.heap.size (fun k_ => some k_ ≠ vp.ownBlock ∧ k_ ≠ ga) vq ps
  ka : w.heap[ga]? = some (.cells #[c0, c1, c2, c3, c4] 91 (0, 0))
  n2 : g2 ≠ ga
  n7 : g7 ≠ ga
  n9 : g9 ≠ ga
  ge : w0.heap.size ≤ ga
section
variable {w0 w w' : World} {g2 g7 g9 ga : Nat} {l l' : List Int} {e e' : Int} {cl : Bool} {vp vq : Value} {acc : List Int} {ps : List S91} {c0 c1 c2 c3 c4 : Value}
theorem DS.far (h : DS w0 w g2 g7 g9 l e cl vp vq) (n2 : g2 ≠ ga) (n7 : g7 ≠ ga) (n9 : g9 ≠ ga) (ge : w0.heap.size ≤ ga) (j : Nat) (u : Value) : DS w0 (w.setCell ⟨ga, j, none⟩ u) g2 g7 g9 l e cl vp vq :=
  ⟨h.r.at_ (below_set h.r.b ge) (Below.heap_setCell _ _ _ _ n7), blk_far h.k2 n2 _, blk_far h.k9 n9 _, h.n27, h.n29, h.n79, h.ge2, h.ge9⟩
theorem PS.call (h : PS w0 w g2 g7 g9 ga l e cl vp vq acc ps c0 c1 c2 c3 c4) (hR : Rdr w0 w' g7 l' e') (hk : KeepBut w w' g7 none) : PS w0 w' g2 g7 g9 ga l' e' cl vp vq acc ps c0 c1 c2 c3 c4 := by
  obtain ⟨c, hc⟩ := h.d.r.k7
  exact ⟨h.d.call hR hk, R_rdr h.o h.d.r hk (by decide), Kd.S_mono (Kd.S_keep (Kd.S_types h.s hc (by decide)) hk (fun _ h => h.2)) (fun _ h => h.1), hk.blk h.ka (Ne.symm h.n7) (by simp), h.n2, h.n7, h.n9, h.ge⟩
theorem PS.below (h : PS w0 w g2 g7 g9 ga l e cl vp vq acc ps c0 c1 c2 c3 c4) (hb : Below w.heap.size w w') : PS w0 w' g2 g7 g9 ga l e cl vp vq acc ps c0 c1 c2 c3 c4 :=
  ⟨h.d.below hb, Kd.R_below h.o hb, Kd.S_below h.s hb, blk_below h.ka hb, h.n2, h.n7, h.n9, h.ge⟩
theorem PS.setO (h : PS w0 w g2 g7 g9 ga l e cl vp vq acc ps c0 c1 c2 c3 c4) (j : Nat) (u : Value) : Kd.R (Kd.int .i64) 3 (w.setCell ⟨ga, j, none⟩ u) w0.heap.size (fun _ => True) vp acc :=
  Kd.R_mono (Kd.R_put1 (a0 := j) (u0 := u) h.o h.ka (by decide)) (fun _ _ => trivial)
theorem PS.setS (h : PS w0 w g2 g7 g9 ga l e cl vp vq acc ps c0 c1 c2 c3 c4) (j : Nat) (u : Value) : Kd.S k91 91 (w.setCell ⟨ga, j, none⟩ u) w0.heap.size (fun k_ => some k_ ≠ vp.ownBlock ∧ k_ ≠ ga) vq ps :=
  Kd.S_far (p := ⟨ga, j, none⟩) h.s (fun _ hk => hk.2) u
theorem PS.set0 (h : PS w0 w g2 g7 g9 ga l e cl vp vq acc ps c0 c1 c2 c3 c4) (u : Value) : PS w0 (w.setCell ⟨ga, 0, none⟩ u) g2 g7 g9 ga l e cl vp vq acc ps u c1 c2 c3 c4 :=
  ⟨h.d.far h.n2 h.n7 h.n9 h.ge 0 u, h.setO 0 u, h.setS 0 u, blk_put h.ka 0 u rfl, h.n2, h.n7, h.n9, h.ge⟩
theorem PS.set1 (h : PS w0 w g2 g7 g9 ga l e cl vp vq acc ps c0 c1 c2 c3 c4) (u : Value) : PS w0 (w.setCell ⟨ga, 1, none⟩ u) g2 g7 g9 ga l e cl vp vq acc ps c0 u c2 c3 c4 :=
  ⟨h.d.far h.n2 h.n7 h.n9 h.ge 1 u, h.setO 1 u, h.setS 1 u, blk_put h.ka 1 u rfl, h.n2, h.n7, h.n9, h.ge⟩
theorem PS.set2 (h : PS w0 w g2 g7 g9 ga l e cl vp vq acc ps c0 c1 c2 c3 c4) (u : Value) : PS w0 (w.setCell ⟨ga, 2, none⟩ u) g2 g7 g9 ga l e cl vp vq acc ps c0 c1 u c3 c4 :=
  ⟨h.d.far h.n2 h.n7 h.n9 h.ge 2 u, h.setO 2 u, h.setS 2 u, blk_put h.ka 2 u rfl, h.n2, h.n7, h.n9, h.ge⟩
theorem PS.set3 (h : PS w0 w g2 g7 g9 ga l e cl vp vq acc ps c0 c1 c2 c3 c4) (u : Value) : PS w0 (w.setCell ⟨ga, 3, none⟩ u) g2 g7 g9 ga l e cl vp vq acc ps c0 c1 c2 u c4 :=
  ⟨h.d.far h.n2 h.n7 h.n9 h.ge 3 u, h.setO 3 u, h.setS 3 u, blk_put h.ka 3 u rfl, h.n2, h.n7, h.n9, h.ge⟩
theorem PS.set4 (h : PS w0 w g2 g7 g9 ga l e cl vp vq acc ps c0 c1 c2 c3 c4) (u : Value) : PS w0 (w.setCell ⟨ga, 4, none⟩ u) g2 g7 g9 ga l e cl vp vq acc ps c0 c1 c2 c3 u :=
  ⟨h.d.far h.n2 h.n7 h.n9 h.ge 4 u, h.setO 4 u, h.setS 4 u, blk_put h.ka 4 u rfl, h.n2, h.n7, h.n9, h.ge⟩
end
theorem sl_alloc {w0 W : World} {g j : Nat} {v : Value} (h : W.cell? ⟨g, j, none⟩ = some v ∧ W.frozen? ⟨g, j, none⟩ = false ∧ Below w0.heap.size w0 W) (o : Obj) : (W.alloc o).cell? ⟨g, j, none⟩ = some v ∧ (W.alloc o).frozen? ⟨g, j, none⟩ = false ∧ Below w0.heap.size w0 (W.alloc o) := by
  have hb := Below.heap_alloc W o g (World.block_lt_of_cell? _ _ h.1)
  exact ⟨(World.cell?_of_block (a := ⟨g, j, none⟩) hb).trans h.1, (World.frozen?_of_block (a := ⟨g, j, none⟩) hb).trans h.2.1, below_alloc h.2.2 o⟩
set_option maxRecDepth 100000 in
set_option maxHeartbeats 4000000 in
theorem bitmap_Decode.calls (k : Nat) (A0 : Option Addr) (c0 : Nat) (l0 : List Int) (r1 : Bool) (r2 : List Int) (r3 : List (S91)) (r4 : Int) (w : World) (hr0 : Kd.C (Kd.int .u8) w A0 l0.length l0) (hc0 : l0.length ≤ c0) (h : bitmap_Decode.f k l0 = some (r1, r2, r3, r4)) :
    Calls Try.prog 26 #[.slice A0 l0.length c0] w fun e w' => ∃ v1_ v2_ : Value, e = .returned (.tuple #[.agg #[.bool r1, v1_, v2_], .int .i64 r4]) ∧ Kd.R (Kd.int .i64) 3 w' w.heap.size (fun _ => True) v1_ r2 ∧ Kd.S k91 91 w' w.heap.size (fun k_ => some k_ ≠ (v1_ : Value).ownBlock) v2_ r3 ∧ Below w.heap.size w w' := by
  have hu51 := Try.underlying51
  have hu91 := Try.underlying91
  have hu97 := Try.underlying97
  have HR := Aside0.mk hr0
  have HC := Aside0.mk hc0
  have H := h
  clear hr0 hc0 h
  unfold bitmap_Decode.f at H
  by_cases c1 : l0.length < 7
  · rw [if_pos c1] at H
    have b0 : decide ((l0.length : Int) < 7) = true := decide_eq_true (by omega)
    have b1 : decide (l0.length < 7) = true := decide_eq_true c1
    simp only [Option.some.injEq, Prod.mk.injEq] at H
    obtain ⟨rfl, rfl, rfl, rfl⟩ := H
    clear c1
    go_enter Try.func26, Try.ntmps26
    go_wp2_with (first | ((with_reducible refine gate_dst (N := 2) rfl ?_); refine box_event ?hg (N := 2) ?hd (cs := #[.bool false, .slice none 0 0, .slice none 0 0]) (t := 51) ?hr ?_; (case hd => rfl); (case hg => rfl); (case hr => first | (go_simp; done) | (go_simp; rfl)); intro g2 hg w3 hbox hb; have G2 := Aside0.mk hbox; have GE2 := Aside0.mk (show w.heap.size ≤ g2 by rw [hg]; exact Nat.le_refl _); have HB := Aside0.mk hb; obtain ⟨z0, z1, z2, f0, f1, f2⟩ := bcells3 hbox; clear hg hbox hb))
    refine bodyPost_ret (results_ct rfl _ _ g2 51 #[.bool false, .slice none 0 0, .slice none 0 0] (0, 0) _ rfl (blk_put (cs := #[.bool false, .slice none 0 0, .slice none 0 0]) (blk_put (cs := #[.bool false, .slice none 0 0, .slice none 0 0]) (blk_put (cs := #[.bool false, .slice none 0 0, .slice none 0 0]) G2.out 0 _ rfl) 1 _ rfl) 2 _ rfl) Try.underlying51 rfl (by kernel_rfl)) rfl ?_
    exact ⟨_, _, rfl, Kd.R_nil _ _ _ _ _, Kd.S_nil _ _ _ _ _, below_set (below_set (below_set HB.out GE2.out) GE2.out) GE2.out⟩
  · rw [if_neg c1] at H
    have b0 : decide ((l0.length : Int) < 7) = false := decide_eq_false (by omega)
    have b1 : decide (l0.length < 7) = false := decide_eq_false c1
    obtain ⟨⟨s1, s2⟩, hs, H⟩ := Option.bind_eq_some_iff.mp H
    obtain ⟨t1, ht, H⟩ := Option.bind_eq_some_iff.mp H
    obtain ⟨j, hj⟩ : ∃ j : Nat, j = l0.length - 4 := ⟨_, rfl⟩
    have hm : l0.length ≤ 9223372036854775807 := HR.out.2.1
    have hj1 : wrap64 ((l0.length : Int) - 4) = (j : Int) := by unfold wrap64; omega
    have hj2 : IntKind.i64.wrap ((l0.length : Int) - 4) = (j : Int) := by rw [IntKind.wrap_i64]; omega
    rw [← hj] at hs ht H
    obtain ⟨i0, hi0, _, hsz, _⟩ := info_parts (show (Try.prog.info? 5).map (fun i => (i.zero, i.size, i.bytes)) = some (some (.int .u8 0), 1, 1) by kernel_rfl)
    have hcut := cut_to (P := Try.prog) 23 5 .i64 Try.underlying23 hi0 A0 l0.length c0 (j : Int) (by omega) (by omega) HC.out
    obtain ⟨B, hBl⟩ : ∃ B, B = l0.take j := ⟨_, rfl⟩
    have hBn : B.length = j := by rw [hBl, List.length_take]; omega
    have HRB : Aside0 (Kd.C (Kd.int .u8) w A0 B.length B) := ⟨by rw [hBl]; exact Kd.C_take HR.out (by omega)⟩
    have HBC : Aside0 (B.length ≤ c0) := ⟨by have := HC.out; omega⟩
    rw [Int.toNat_natCast, ← hBn] at hcut
    rw [← hBn] at hj1 hj2
    rw [← hBl] at ht H
    rw [← hBn] at hs
    have HS := Aside0.mk hs
    have HT := Aside0.mk ht
    have HJ := Aside0.mk hBl
    clear hs ht hBl hBn hj hm hi0 hsz
    go_enter Try.func26, Try.ntmps26
    go_wp2_with (first | ((with_reducible refine gate_dst (N := 2) rfl ?_); refine box_event ?hg (N := 2) ?hd (cs := #[.bool false, .slice none 0 0, .slice none 0 0]) (t := 51) ?hr ?_; (case hd => rfl); (case hg => rfl); (case hr => first | (go_simp; done) | (go_simp; rfl)); intro g2 hg w3 hbox hb; have G2 := Aside0.mk hbox; have GE2 := Aside0.mk (show w.heap.size ≤ g2 by rw [hg]; exact Nat.le_refl _); have HB := Aside0.mk hb; obtain ⟨z0, z1, z2, f0, f1, f2⟩ := bcells3 hbox; clear hg hbox hb))
    refine (bits_Int.calls k A0 c0 l0 (B.length : Int) 4 s1 s2 _ (Kd.C_below HR.out HB.out) HC.out HS.out).mono ?_
    rintro r w4 ⟨rfl, ⟨n4, rfl⟩⟩
    go_wp2_with fail
    refine (bits_Sum.calls k A0 c0 B t1 _ (Kd.C_drewN (Kd.C_below HRB.out HB.out) n4) HBC.out HT.out).mono ?_
    rintro r w5 ⟨rfl, ⟨n5, rfl⟩⟩
    obtain ⟨w6, hw6⟩ : ∃ z, (w3.drewN n4).drewN n5 = z := ⟨_, rfl⟩
    rw [hw6]
    have n1 : Aside0 (w6.heap[g2]? = some (.cells #[.bool false, .slice none 0 0, .slice none 0 0] 51 (0, 0))) := ⟨by rw [← hw6]; exact G2.out⟩
    have n2 : Aside0 (Below w.heap.size w w6) := ⟨by rw [← hw6]; exact pw_below_drewN (pw_below_drewN HB.out _) _⟩
    clear G2 HB z0 z1 z2 f0 f1 f2 hw6
    have G2 := n1
    have HB := n2
    clear n1 n2
    obtain ⟨z0, z1, z2, f0, f1, f2⟩ := bcells3 G2.out
    by_cases c2 : s1 = wrap64 t1
    · rw [if_pos c2] at H
      have b2 : (s1 == wrap64 t1) = true := beq_iff_eq.mpr c2
      have b3 : (s1 != wrap64 t1) = false := bne_eq_false_iff_eq.mpr c2
      obtain ⟨⟨a1, a2, a3⟩, ha, H⟩ := Option.bind_eq_some_iff.mp H
      have HA := Aside0.mk ha
      clear ha c1 c2
      go_wp2_with (first | ((with_reducible refine gate_dst (N := 40) rfl ?_); refine box_event ?hg (N := 40) ?hd (cs := #[.slice A0 B.length c0, .int .i64 0]) (t := 97) ?hr ?_; (case hd => rfl); (case hg => rfl); (case hr => first | (go_simp; done) | (go_simp; rfl)); intro g7 hg w7 hbox hb; have R7 := Aside0.mk (show Rdr w w7 g7 B 0 from ⟨below_step HB.out hb, by rw [hg]; exact HB.out.size, A0, c0, hbox, HBC.out, HRB.out⟩); have K2 := Aside0.mk (blk_below G2.out hb); have NE := Aside0.mk (show g2 ≠ g7 by rw [hg]; exact Nat.ne_of_lt (blk_lt G2.out)); clear hg hbox hb))
      refine (n_calls k R7.out 1 (by omega) HA.out).mono ?_
      rintro r w8 ⟨rfl, hR, hk⟩
      have R8' := Aside0.mk hR
      have K2' := Aside0.mk (hk.blk K2.out NE.out (by simp))
      obtain ⟨z0, z1, z2, f0, f1, f2⟩ := bcells3 K2'.out
      clear R7 K2 hR hk
      have R8 := R8'; have K2 := K2'; clear R8' K2'
      by_cases c3 : a1 > 1
      · rw [if_pos c3] at H
        have d3 : decide (1 < a1) = true := decide_eq_true c3
        simp only [Option.some.injEq, Prod.mk.injEq] at H
        obtain ⟨rfl, rfl, rfl, rfl⟩ := H
        clear c3
        go_wp2_with fail
        refine bodyPost_ret (results_ct rfl _ _ g2 51 #[.bool false, .slice none 0 0, .slice none 0 0] (0, 0) _ rfl (blk_put (cs := #[.bool false, .slice none 0 0, .slice none 0 0]) (blk_put (cs := #[.bool false, .slice none 0 0, .slice none 0 0]) (blk_put (cs := #[.bool false, .slice none 0 0, .slice none 0 0]) K2.out 0 _ rfl) 1 _ rfl) 2 _ rfl) Try.underlying51 rfl (by kernel_rfl)) rfl ?_
        exact ⟨_, _, rfl, Kd.R_nil _ _ _ _ _, Kd.S_nil _ _ _ _ _, below_set (below_set (below_set (R8.out.b) GE2.out) GE2.out) GE2.out⟩
      · rw [if_neg c3] at H
        have d3 : decide (1 < a1) = false := decide_eq_false c3
        obtain ⟨⟨b1', b2', b3'⟩, hb', H⟩ := Option.bind_eq_some_iff.mp H
        have HB2 := Aside0.mk hb'
        clear c3 hb'
        go_wp2_with (first | ((with_reducible refine gate_dst (N := 9) rfl ?_); refine box_event ?hg (N := 9) ?hd (cs := #[.bool false, .slice none 0 0, .slice none 0 0]) (t := 51) ?hr ?_; (case hd => rfl); (case hg => rfl); (case hr => first | (go_simp; done) | (go_simp; rfl)); intro g9 hg w9 hbox hb; have n1 := Aside0.mk (R8.out.below hb); have n2 := Aside0.mk (blk_below K2.out hb); have NE9 := Aside0.mk (show g2 ≠ g9 ∧ g7 ≠ g9 ∧ w.heap.size ≤ g9 by rw [hg]; exact ⟨Nat.ne_of_lt (blk_lt K2.out), Nat.ne_of_lt (by obtain ⟨_, _, h1, _⟩ := R8.out.ex; exact blk_lt h1), R8.out.b.size⟩); have K9 := Aside0.mk hbox; clear R8 K2; have R8 := n1; have K2 := n2; obtain ⟨y0, y1, y2, e0, e1, e2⟩ := bcells3 hbox; clear n1 n2 hg hbox hb))
        obtain ⟨w10, hw10⟩ : ∃ z, ((w9.setCell ⟨g9, 0, none⟩ (.bool (a1 == 1))).setCell ⟨g9, 1, none⟩ (.slice none 0 0)).setCell ⟨g9, 2, none⟩ (.slice none 0 0) = z := ⟨_, rfl⟩
        have D10 : Aside0 (DS w w10 g2 g7 g9 a2 a3 (a1 == 1) (.slice none 0 0) (.slice none 0 0)) := ⟨by
          rw [← hw10]
          have hb := below_set (j := 2) (v := .slice none 0 0) (below_set (j := 1) (v := .slice none 0 0) (below_set (j := 0) (v := .bool (a1 == 1)) R8.out.b NE9.out.2.2) NE9.out.2.2) NE9.out.2.2
          exact ⟨R8.out.at_ hb (by rw [Below.heap_setCell _ _ _ _ NE9.out.2.1, Below.heap_setCell _ _ _ _ NE9.out.2.1, Below.heap_setCell _ _ _ _ NE9.out.2.1]), blk_far (blk_far (blk_far K2.out NE9.out.1 _) NE9.out.1 _) NE9.out.1 _, blk_put (blk_put (blk_put K9.out 0 _ rfl) 1 _ rfl) 2 _ rfl, NE.out, NE9.out.1, NE9.out.2.1, GE2.out, NE9.out.2.2⟩⟩
        rw [hw10]
        clear hw10 y0 y1 y2 e0 e1 e2 R8 K2 K9 NE NE9 GE2 G2 HB z0 z1 z2 f0 f1 f2
        refine (n_calls k D10.out.r 1 (by omega) HB2.out).mono ?_
        rintro r w11 ⟨rfl, hR, hk⟩
        have D11 := Aside0.mk (D10.out.call hR hk)
        clear D10 hR hk
        obtain ⟨z0, z1, z2, f0, f1, f2⟩ := bcells3 D11.out.k2
        by_cases c4 : b1' > 16
        · rw [if_pos c4] at H
          have d4 : decide (16 < b1') = true := decide_eq_true c4
          simp only [Option.some.injEq, Prod.mk.injEq] at H
          obtain ⟨rfl, rfl, rfl, rfl⟩ := H
          clear c4
          go_wp2_with fail
          refine bodyPost_ret (results_ct rfl _ _ g2 51 #[.bool false, .slice none 0 0, .slice none 0 0] (0, 0) _ rfl (blk_put (cs := #[.bool false, .slice none 0 0, .slice none 0 0]) (blk_put (cs := #[.bool false, .slice none 0 0, .slice none 0 0]) (blk_put (cs := #[.bool false, .slice none 0 0, .slice none 0 0]) D11.out.k2 0 _ rfl) 1 _ rfl) 2 _ rfl) Try.underlying51 rfl (by kernel_rfl)) rfl ?_
          exact ⟨_, _, rfl, Kd.R_nil _ _ _ _ _, Kd.S_nil _ _ _ _ _, below_set (below_set (below_set (D11.out.r.b) D11.out.ge2) D11.out.ge2) D11.out.ge2⟩
        · rw [if_neg c4] at H
          have d4 : decide (16 < b1') = false := decide_eq_false c4
          obtain ⟨⟨p1, p2, p3⟩, hp, H⟩ := Option.bind_eq_some_iff.mp H
          have HP := Aside0.mk hp
          have HH := Aside0.mk H
          clear c4 hp H
          go_wp2_with fail
          go_loopg [55] (b1'.toNat + 1) (fun kq v55 w' => ∃ (i : Nat) (l : List Int) (e : Int) (acc : List Int) (vp : Value), v55 = .int .i64 (i : Int) ∧ Aside0 (kq = b1'.toNat - i + 1) ∧ Aside0 (i ≤ b1'.toNat ∧ acc.length ≤ i ∧ palF k (b1'.toNat - i) l e acc = some (p1, p2, p3)) ∧ Aside0 (DS w w' g2 g7 g9 l e (a1 == 1) vp (.slice none 0 0)) ∧ Aside0 (Kd.R (Kd.int .i64) 3 w' w.heap.size (fun _ => True) vp acc))
          case atStart => exact ⟨0, b2', b3', [], .slice none 0 0, rfl, ⟨rfl⟩, ⟨⟨Nat.zero_le _, Nat.le_refl _, HP.out⟩⟩, D11, ⟨Kd.R_nil _ _ _ _ _⟩⟩
          case round =>
            obtain ⟨i, l, e, acc, vp, rfl, HQ, HI, HD, HO⟩ := hrel
            obtain ⟨Ap, cp, rfl⟩ := Kd.R_slice HO.out
            clear z0 z1 z2 f0 f1 f2
            by_cases hi : i < b1'.toNat
            · have e8 : wrap64 ((i : Int) + 1) = ((i + 1 : Nat) : Int) := by have := of_decide_eq_false d4; unfold wrap64; omega
              have hi1 : decide ((i : Int) < b1') = true := decide_eq_true (by omega)
              have HI1 := Aside0.mk hi
              obtain ⟨hle, hac, hpf⟩ := HI.out
              rw [show b1'.toNat - i = (b1'.toNat - (i + 1)) + 1 by omega] at hpf
              obtain ⟨⟨v, l', e'⟩, hv, hpf⟩ := Option.bind_eq_some_iff.mp hpf
              have HV := Aside0.mk hv
              have HPF := Aside0.mk hpf
              have HAC := Aside0.mk hac
              have info3 : (Try.prog.info? 3).map (fun i => (i.zero, i.size, i.bytes)) = some (some (.int .i64 0), 1, 8) := by kernel_rfl
              have HN16 : Aside0 (acc.length ≤ 16) := ⟨by have := of_decide_eq_false d4; omega⟩
              have HDd := Aside0.mk HD.out.drew
              obtain ⟨y0, y1, y2, x0, x1, x2⟩ := bcells3 HD.out.k9
              clear hi hle hac hpf hv
              go_wp2_with fail
              go_region_law (first
                | (go_simp; go_at_call 57; refine (n_calls k HDd.out.r 3 (by omega) HV.out).mono ?_; rintro r w12 ⟨rfl, hR, hk⟩; have D12 := Aside0.mk (HDd.out.call hR hk); have O12 := Aside0.mk (R_rdr (Kd.R_drew HO.out) HDd.out.r hk (by decide)); obtain ⟨u0, u1, u2, t0, t1', t2⟩ := bcells3 D12.out.k9; have hal : ∀ o : Obj, (w12.alloc o).cell? ⟨g9, 1, none⟩ = some (.slice Ap acc.length cp) := fun o => (World.cell?_of_block (a := ⟨g9, 1, none⟩) (Below.heap_alloc w12 o g9 (blk_lt D12.out.k9))).trans u1; clear hR hk)
                | (refine Kd.R_append_step (Kd.int .i64) (w0 := w) w.heap.size (by rfl) (.tmp 58) (.tmp 61) 22 3 (.int .i64 0) 8 rfl Try.underlying22 info3 rfl (by decide) (by omega) (.slice Ap acc.length cp) acc v [.int .i64 v] (fun _ => True) (fun _ => False) (by first | rfl | exact ev_tmp (by assumption) | (simp [Act.eval, *]; done)) (by first | rfl | exact ev_tmp (by assumption) | (simp [Act.eval, *]; done)) rfl (fun _ h => h.elim) (fun _ _ => trivial) O12.out D12.out.r.b D12.out.r.b.size (by have := HN16.out; omega) ?_; intro v1 w14 ho hb hg hat; obtain ⟨A1, c1, rfl⟩ := Kd.R_slice ho; have D14 := Aside0.mk (D12.out.grown hb hg (Kd.R_ne O12.out D12.out.k2 (by decide)) (by obtain ⟨c_, hc_⟩ := D12.out.r.k7; exact Kd.R_ne O12.out hc_ (by decide)) (Kd.R_ne O12.out D12.out.k9 (by decide))); have O14 := Aside0.mk ho; obtain ⟨q0, q1, q2, s0, s1_, s2_⟩ := bcells3 D14.out.k9; clear ho hb hg hat))
              all_goals (
                go_wp2_with fail
                go_roundg (b1'.toNat - (i + 1) + 1)
                case measure => have := HQ.out; have := HI1.out; omega
                case rel => exact ⟨i + 1, l', e', acc ++ [v], .slice A1 (acc ++ [v]).length c1, by rw [e8], ⟨rfl⟩, ⟨⟨HI1.out, by have := HAC.out; simp; omega, HPF.out⟩⟩, ⟨by have h9 := D14.out.put (.slice A1 (acc ++ [v]).length c1); simpa using h9⟩, ⟨by have h9 := Kd.R_mono (Kd.R_put1 (a0 := 1) (u0 := .slice A1 (acc ++ [v]).length c1) O14.out D14.out.k9 (by decide)) (fun _ _ => trivial); simpa using h9⟩⟩)
            · have hi1 : decide ((i : Int) < b1') = false := decide_eq_false (by omega)
              have hpf := HI.out.2.2
              rw [show b1'.toNat - i = 0 by have := HI.out.1; omega] at hpf
              obtain ⟨rfl, rfl, rfl⟩ : acc = p1 ∧ l = p2 ∧ e = p3 := by simpa [palF] using hpf
              obtain ⟨⟨c1', c2', c3'⟩, hc, H⟩ := Option.bind_eq_some_iff.mp HH.out
              have HCC := Aside0.mk hc
              clear hi hpf hc HH
              go_wp2_with fail
              refine (n_calls k HD.out.r 1 (by omega) HCC.out).mono ?_
              rintro r w16 ⟨rfl, hR, hk⟩
              have D16 := Aside0.mk (HD.out.call hR hk)
              have O16 := Aside0.mk (R_rdr HO.out HD.out.r hk (by decide))
              obtain ⟨A7, c7, h7, _, _⟩ := D16.out.r.ex
              have m1 : w16.cell? ⟨g7, 1, none⟩ = some (.int .i64 c3') := (blk_cell h7 1).trans rfl
              have m0 : w16.cell? ⟨g7, 0, none⟩ = some (.slice A7 c2'.length c7) := (blk_cell h7 0).trans rfl
              obtain ⟨z0, z1, z2, f0, f1, f2⟩ := bcells3 D16.out.k2
              clear hR hk h7 HD HO
              by_cases c5 : c3' = 0
              · rw [if_pos c5] at H
                have d5 : (c3' != 0) = false := bne_eq_false_iff_eq.mpr c5
                have d5' : (c3' == 0) = true := beq_iff_eq.mpr c5
                by_cases c6 : c1' > 8
                · rw [if_pos c6] at H
                  have d6 : decide (8 < c1') = true := decide_eq_true c6
                  simp only [Option.some.injEq, Prod.mk.injEq] at H
                  obtain ⟨rfl, rfl, rfl, rfl⟩ := H
                  clear c6 c5
                  go_wp2_with fail
                  refine bodyPost_ret (results_ct rfl _ _ g2 51 #[.bool false, .slice none 0 0, .slice none 0 0] (0, 0) _ rfl (blk_put (cs := #[.bool false, .slice none 0 0, .slice none 0 0]) (blk_put (cs := #[.bool false, .slice none 0 0, .slice none 0 0]) (blk_put (cs := #[.bool false, .slice none 0 0, .slice none 0 0]) D16.out.k2 0 _ rfl) 1 _ rfl) 2 _ rfl) Try.underlying51 rfl (by kernel_rfl)) rfl ?_
                  exact ⟨_, _, rfl, Kd.R_nil _ _ _ _ _, Kd.S_nil _ _ _ _ _, below_set (below_set (below_set (D16.out.r.b) D16.out.ge2) D16.out.ge2) D16.out.ge2⟩
                · rw [if_neg c6] at H
                  have d6 : decide (8 < c1') = false := decide_eq_false c6
                  obtain ⟨⟨q1', q2', q3'⟩, hq, H⟩ := Option.bind_eq_some_iff.mp H
                  have HP2 := Aside0.mk hq
                  have HH2 := Aside0.mk H
                  clear c6 hq H
                  go_wp2_with fail
                  clear z0 z1 z2 f0 f1 f2 m0 m1 HR HC HS HT HA HB2 HP HCC HRB HBC
                  go_loopg [81] (c1'.toNat + 1) (fun kq v81 w' => ∃ (i : Nat) (l : List Int) (ps : List S91) (vq : Value), v81 = .int .i64 (i : Int) ∧ Aside0 (kq = c1'.toNat - i + 1) ∧ Aside0 (i ≤ c1'.toNat ∧ ps.length ≤ i ∧ patF k (c1'.toNat - i) l 0 ps = some (q1', q2', q3')) ∧ Aside0 (DS w w' g2 g7 g9 l 0 (a1 == 1) (.slice Ap acc.length cp) vq) ∧ Aside0 (Kd.R (Kd.int .i64) 3 w' w.heap.size (fun _ => True) (.slice Ap acc.length cp) acc) ∧ Aside0 (Kd.S k91 91 w' w.heap.size (fun k_ => some k_ ≠ (Value.slice Ap acc.length cp).ownBlock) vq ps))
                  case atStart => exact ⟨0, c2', [], .slice none 0 0, rfl, ⟨rfl⟩, ⟨⟨Nat.zero_le _, Nat.le_refl _, by have h9 := HP2.out; rw [c5] at h9; exact h9⟩⟩, ⟨by have h9 := D16.out; rw [c5] at h9; exact h9⟩, O16, ⟨Kd.S_nil _ _ _ _ _⟩⟩
                  case round =>
                    obtain ⟨i2, l2, ps, vq, rfl, HQ2, HI2, HD2, HO2, HS2⟩ := hrel
                    obtain ⟨Aq, cq, rfl⟩ := Kd.S_slice HS2.out
                    by_cases hi : i2 < c1'.toNat
                    · have e8 : wrap64 ((i2 : Int) + 1) = ((i2 + 1 : Nat) : Int) := by have := of_decide_eq_false d6; unfold wrap64; omega
                      have hi1 : decide ((i2 : Int) < c1') = true := decide_eq_true (by omega)
                      have HI21 := Aside0.mk hi
                      obtain ⟨hle, hac, hpf⟩ := HI2.out
                      rw [show c1'.toNat - i2 = (c1'.toNat - (i2 + 1)) + 1 by omega] at hpf
                      obtain ⟨⟨xx, yy, ww, hh, nn, lh, eh⟩, hv, hpf⟩ := Option.bind_eq_some_iff.mp hpf
                      obtain ⟨⟨x1', x2', x3'⟩, hx, hv⟩ := Option.bind_eq_some_iff.mp hv
                      obtain ⟨⟨y1', y2', y3'⟩, hy, hv⟩ := Option.bind_eq_some_iff.mp hv
                      obtain ⟨⟨w1', w2', w3'⟩, hw, hv⟩ := Option.bind_eq_some_iff.mp hv
                      obtain ⟨⟨h1', h2', h3'⟩, hh', hv⟩ := Option.bind_eq_some_iff.mp hv
                      obtain ⟨⟨n1', n2', n3'⟩, hn', hv⟩ := Option.bind_eq_some_iff.mp hv
                      obtain ⟨rfl, rfl, rfl, rfl, rfl, rfl, rfl⟩ : x1' = xx ∧ y1' = yy ∧ w1' = ww ∧ h1' = hh ∧ n1' = nn ∧ n2' = lh ∧ n3' = eh := by simpa using hv
                      have HX := Aside0.mk hx
                      have HY := Aside0.mk hy
                      have HW := Aside0.mk hw
                      have HH := Aside0.mk hh'
                      have HNN := Aside0.mk hn'
                      have HPF := Aside0.mk hpf
                      have HAC := Aside0.mk hac
                      have HN8 : Aside0 (ps.length ≤ 8) := ⟨by have := of_decide_eq_false d6; omega⟩
                      clear hi hle hac hpf hx hy hw hh' hn' hv
                      go_wp2_with fail
                      refine (n_calls k HD2.out.r 2 (by omega) HX.out).mono ?_
                      rintro r w20 ⟨rfl, hR, hk⟩
                      have D20 := Aside0.mk (HD2.out.call hR hk)
                      have O20 := Aside0.mk (R_rdr HO2.out HD2.out.r hk (by decide))
                      have S20 := Aside0.mk (S_rdr HS2.out HD2.out.r hk (by decide))
                      clear hR hk
                      go_wp2_with fail
                      refine (n_calls k D20.out.r 2 (by omega) HY.out).mono ?_
                      rintro r w21 ⟨rfl, hR, hk⟩
                      have D21 := Aside0.mk (D20.out.call hR hk)
                      have O21 := Aside0.mk (R_rdr O20.out D20.out.r hk (by decide))
                      have S21 := Aside0.mk (S_rdr S20.out D20.out.r hk (by decide))
                      clear hR hk
                      go_wp2_with (first | ((with_reducible refine gate_dst (N := 11) rfl ?_); refine box_event ?hg (N := 11) ?hd (cs := #[.int .i64 0, .int .i64 0, .int .i64 0, .int .i64 0, .slice none 0 0]) (t := 91) ?hr ?_; (case hd => rfl); (case hg => rfl); (case hr => first | (go_simp; done) | (go_simp; rfl)); intro ga hg w22 hbox hb; have P22 := Aside0.mk (show PS w w22 g2 g7 g9 ga y2' y3' (a1 == 1) (.slice Ap acc.length cp) (.slice Aq ps.length cq) acc ps (.int .i64 0) (.int .i64 0) (.int .i64 0) (.int .i64 0) (.slice none 0 0) from ⟨D21.out.below hb, Kd.R_below O21.out hb, by rw [hg]; exact Kd.S_below (Kd.S_elderB S21.out _ (Nat.le_refl _)) hb, hbox, by rw [hg]; exact Nat.ne_of_lt (blk_lt D21.out.k2), by rw [hg]; obtain ⟨c_, hc_⟩ := D21.out.r.k7; exact Nat.ne_of_lt (blk_lt hc_), by rw [hg]; exact Nat.ne_of_lt (blk_lt D21.out.k9), by rw [hg]; exact D21.out.r.b.size⟩); obtain ⟨y0, y1, y2, y3, y4, x0, x1, x2, x3, x4⟩ := bcells5 hbox; clear hg hbox hb))
                      have P23 := Aside0.mk (((((P22.out.set0 (.int .i64 x1')).set1 (.int .i64 y1')).set2 (.int .i64 0)).set3 (.int .i64 0)).set4 (.slice none 0 0))
                      refine (n_calls k P23.out.d.r 1 (by omega) HW.out).mono ?_
                      rintro r w24 ⟨rfl, hR, hk⟩
                      have P24 := Aside0.mk (P23.out.call hR hk)
                      clear hR hk
                      clear P22 P23 D20 O20 S20 D21 O21 S21 y0 y1 y2 y3 y4 x0 x1 x2 x3 x4
                      go_wp2_with fail
                      refine (n_calls k P24.out.d.r 1 (by omega) HH.out).mono ?_
                      rintro r w25 ⟨rfl, hR, hk⟩
                      have P25 := Aside0.mk (P24.out.call hR hk)
                      clear hR hk
                      obtain ⟨y0, y1, y2, y3, y4, x0, x1, x2, x3, x4⟩ := bcells5 P25.out.ka
                      go_wp2_with fail
                      have P26 := Aside0.mk ((P25.out.set2 (.int .i64 w1')).set3 (.int .i64 h1'))
                      refine (n_calls k P26.out.d.r 2 (by omega) HNN.out).mono ?_
                      rintro r w27 ⟨rfl, hR, hk⟩
                      have P27 := Aside0.mk (P26.out.call hR hk)
                      clear hR hk
                      clear P24 P25 P26 y0 y1 y2 y3 y4 x0 x1 x2 x3 x4
                      obtain ⟨A8, c8, h8, _, _⟩ := P27.out.d.r.ex
                      have m1 : w27.cell? ⟨g7, 1, none⟩ = some (.int .i64 n3') := (blk_cell h8 1).trans rfl
                      obtain ⟨z0, z1, z2, f0, f1, f2⟩ := bcells3 P27.out.d.k2
                      obtain ⟨y0, y1, y2, y3, y4, x0, x1, x2, x3, x4⟩ := bcells5 P27.out.ka
                      clear h8
                      by_cases c7 : n3' = 0
                      · have d7 : (n3' != 0) = false := bne_eq_false_iff_eq.mpr c7
                        subst c7
                        have hpf := HPF.out
                        rw [if_pos rfl] at hpf
                        obtain ⟨b, hb, hpf⟩ := Option.bind_eq_some_iff.mp hpf
                        have HBP := Aside0.mk hb
                        clear hb
                        go_wp2_with fail
                        refine (bitmap_place.calls x1' y1' w1' h1' none 0 [] b _ (Kd.C_nil _ _) (Nat.le_refl _) HBP.out).mono ?_
                        rintro r w28 ⟨rfl, hbel⟩
                        have P28 := Aside0.mk (P27.out.below hbel)
                        clear P27 hbel z0 z1 z2 f0 f1 f2 y0 y1 y2 y3 y4 x0 x1 x2 x3 x4 m1
                        obtain ⟨z0, z1, z2, f0, f1, f2⟩ := bcells3 P28.out.d.k2
                        cases b with
                        | false =>
                          rw [if_neg (by simp)] at hpf
                          simp only [Option.some.injEq, Prod.mk.injEq] at hpf
                          obtain ⟨rfl, rfl, rfl⟩ := hpf
                          have hh2 := HH2.out
                          rw [if_neg (by decide)] at hh2
                          simp only [Option.some.injEq, Prod.mk.injEq] at hh2
                          obtain ⟨rfl, rfl, rfl, rfl⟩ := hh2
                          go_wp2_with fail
                          refine bodyPost_ret (results_ct rfl _ _ g2 51 #[.bool false, .slice none 0 0, .slice none 0 0] (0, 0) _ rfl (blk_put (cs := #[.bool false, .slice none 0 0, .slice none 0 0]) (blk_put (cs := #[.bool false, .slice none 0 0, .slice none 0 0]) (blk_put (cs := #[.bool false, .slice none 0 0, .slice none 0 0]) P28.out.d.k2 0 _ rfl) 1 _ rfl) 2 _ rfl) Try.underlying51 rfl (by kernel_rfl)) rfl ?_
                          exact ⟨_, _, rfl, Kd.R_nil _ _ _ _ _, Kd.S_nil _ _ _ _ _, below_set (below_set (below_set (P28.out.d.r.b) P28.out.d.ge2) P28.out.d.ge2) P28.out.d.ge2⟩
                        | true =>
                          rw [if_pos rfl] at hpf
                          by_cases c8 : 0 ≤ n1' ∧ n1' ≤ 65535
                          · rw [if_neg (by simpa using c8)] at hpf
                            obtain ⟨nn, rfl⟩ : ∃ nn : Nat, n1' = (nn : Int) := ⟨n1'.toNat, by omega⟩
                            rw [Int.toNat_natCast] at hpf
                            have hnn : nn ≤ 65535 := by omega
                            go_wp2_with fail
                            refine (take_calls P28.out.d.r nn hnn).mono ?_
                            rintro r w29 ⟨At, ct, rfl, hct, hcr, hR, hk⟩
                            have P29 := Aside0.mk (P28.out.call hR hk)
                            have HCT := Aside0.mk hct
                            have HCR := Aside0.mk hcr
                            clear P28 hct hcr hR hk z0 z1 z2 f0 f1 f2 c8 hnn
                            obtain ⟨z0, z1, z2, f0, f1, f2⟩ := bcells3 P29.out.d.k2
                            obtain ⟨y0, y1, y2, y3, y4, x0, x1, x2, x3, x4⟩ := bcells5 P29.out.ka
                            obtain ⟨A9, c9, h9, _, _⟩ := P29.out.d.r.ex
                            have m1 : w29.cell? ⟨g7, 1, none⟩ = some (.int .i64 (tkE n2' nn 0)) := (blk_cell h9 1).trans rfl
                            clear h9
                            by_cases c10 : tkE n2' nn 0 = 0
                            · rw [if_pos c10] at hpf
                              rw [c10] at m1 P29
                              obtain ⟨⟨px, pe⟩, hpx, hpf⟩ := Option.bind_eq_some_iff.mp hpf
                              have HPX := Aside0.mk hpx
                              clear hpx
                              go_wp2_with fail
                              refine (bitmap_Pixels.calls k (fun k_ => k_ < w29.heap.size) At ct (tkL n2' nn) w1' h1' px pe _ (Kd.V_mk HCT.out (Kd.C_F (Kd.heap_int _) HCR.out)) HPX.out).mono ?_
                              rintro r w30 ⟨vx, rfl, hvx, hbel⟩
                              obtain ⟨Ax, cx, rfl⟩ := Kd.R_slice hvx
                              have P30 := Aside0.mk (P29.out.below hbel)
                              have HVX := Aside0.mk hvx
                              have LT29 := Aside0.mk (show ga < w29.heap.size from blk_lt P29.out.ka)
                              have S30 := Aside0.mk hbel
                              clear hbel hvx z0 z1 z2 f0 f1 f2 m1 y0 y1 y2 y3 y4 x0 x1 x2 x3 x4
                              obtain ⟨z0, z1, z2, f0, f1, f2⟩ := bcells3 P30.out.d.k2
                              obtain ⟨y0, y1, y2, y3, y4, x0, x1, x2, x3, x4⟩ := bcells5 P30.out.ka
                              obtain ⟨v0, v1, v2, t0, t1_, t2_⟩ := bcells3 P30.out.d.k9
                              by_cases c11 : pe = 0
                              · have d11 : (pe != 0) = false := bne_eq_false_iff_eq.mpr c11
                                rw [if_pos c11] at hpf
                                have HPF2 := Aside0.mk hpf
                                clear hpf c11
                                have P31 := Aside0.mk (P30.out.set4 (.slice Ax px.length cx))
                                have hfr : ∀ k, (Value.slice Ax px.length cx).ownBlock = some k → w29.heap.size ≤ k := HVX.out.1
                                have hga : ∀ k, w29.heap.size ≤ k → k ≠ ga := fun k hk => by have := LT29.out; omega
                                have OX := Aside0.mk (Kd.R_far (p := ⟨ga, 4, none⟩) HVX.out hga (.slice Ax px.length cx))
                                have SX : Aside0 (Kd.S k91 91 (w30.setCell ⟨ga, 4, none⟩ (.slice Ax px.length cx)) w.heap.size (fun k_ => (some k_ ≠ (Value.slice Ap acc.length cp).ownBlock ∧ k_ ≠ ga) ∧ ¬ some k_ = (Value.slice Ax px.length cx).ownBlock) (.slice Aq ps.length cq) ps) := ⟨Kd.S_mono (Kd.S_far (p := ⟨ga, 4, none⟩) (Kd.S_below (Kd.S_bound P29.out.s) S30.out) (fun _ hk => hk.1.2) _) (fun k hk => ⟨hk.1, fun e => by have h1 := hfr k e.symm; have h2 := hk.2.2.1; omega⟩)⟩
                                have FR : Aside0 (∀ k, some k = (Value.slice Ax px.length cx).ownBlock → (some k ≠ (Value.slice Ap acc.length cp).ownBlock ∧ k ≠ ga) ∧ some k ≠ (.slice Aq ps.length cq : Value).ownBlock) := ⟨fun k e => ⟨⟨fun e2 => by have h1 := hfr k e.symm; have h2 := Kd.R_lt P29.out.o k e2.symm; omega, hga k (hfr k e.symm)⟩, fun e2 => by have h1 := hfr k e.symm; have h2 := Kd.S_lt P29.out.s k e2.symm; omega⟩⟩
                                have NW : Aside0 (∀ k, (w30.setCell ⟨ga, 4, none⟩ (.slice Ax px.length cx)).heap.size ≤ k → some k ≠ (Value.slice Ap acc.length cp).ownBlock ∧ k ≠ ga) := ⟨fun k hk => ⟨fun e => by have := Kd.R_lt P31.out.o k e.symm; omega, by have := blk_lt P31.out.ka; omega⟩⟩
                                have info91 : (Try.prog.info? 91).map (fun i => (i.zero, i.size, i.bytes)) = some (some (.agg #[.int .i64 0, .int .i64 0, .int .i64 0, .int .i64 0, .slice none 0 0]), 5, 56) := by kernel_rfl
                                clear hfr hga
                                go_wp2_with (at_builtin; refine Kd.S_append k91 (w0 := w) w.heap.size rfl (.tmp 139) (.tmp 141) 49 91 (.agg #[.int .i64 0, .int .i64 0, .int .i64 0, .int .i64 0, .slice none 0 0]) 56 rfl Try.underlying49 info91 rfl (by decide) (by decide) (.slice Aq ps.length cq) ps (⟨x1', y1', w1', h1', px⟩ : S91) [.int .i64 x1', .int .i64 y1', .int .i64 w1', .int .i64 h1', .slice Ax px.length cx] (fun k_ => some k_ ≠ (Value.slice Ap acc.length cp).ownBlock ∧ k_ ≠ ga) (fun k_ => some k_ = (Value.slice Ax px.length cx).ownBlock) rfl (by first | rfl | (simp [Act.eval, World.setCell]; done)) (k91_mkM _ _ _ (⟨x1', y1', w1', h1', px⟩ : S91) (Kd.R_lower (Kd.R_tight rfl OX.out) P29.out.d.r.b.size)) FR.out NW.out SX.out P31.out.d.r.b P31.out.d.r.b.size (by have := HN8.out; omega) ?_; intro v1 w33 ho hb hg hat; obtain ⟨A1, c1, rfl⟩ := Kd.S_slice ho; have S33 := Aside0.mk ho; have D33 := Aside0.mk (P31.out.d.grown hb hg (Kd.S_ne P31.out.s P31.out.d.k2 (by decide)) (by obtain ⟨c_, hc_⟩ := P31.out.d.r.k7; exact Kd.S_ne P31.out.s hc_ (by decide)) (Kd.S_ne P31.out.s P31.out.d.k9 (by decide))); have O33 := Aside0.mk (Kd.R_over' P31.out.o (Kd.S_typed P31.out.s) (by decide) hg); obtain ⟨v0, v1, v2, t0, t1_, t2_⟩ := bcells3 D33.out.k9; clear ho hb hg hat)
                                go_roundg (c1'.toNat - (i2 + 1) + 1)
                                case measure => have := HQ2.out; have := HI21.out; omega
                                case rel => exact ⟨i2 + 1, tkR n2' nn, ps ++ [(⟨x1', y1', w1', h1', px⟩ : S91)], .slice A1 (ps ++ [(⟨x1', y1', w1', h1', px⟩ : S91)]).length c1, by rw [e8], ⟨rfl⟩, ⟨⟨HI21.out, by have := HAC.out; simp; omega, HPF2.out⟩⟩, ⟨by have h9 := D33.out.put2 (.slice A1 (ps ++ [(⟨x1', y1', w1', h1', px⟩ : S91)]).length c1); simpa using h9⟩, ⟨by have h9 := Kd.R_mono (Kd.R_put1 (a0 := 2) (u0 := .slice A1 (ps ++ [(⟨x1', y1', w1', h1', px⟩ : S91)]).length c1) O33.out D33.out.k9 (by decide)) (fun _ _ => trivial); simpa using h9⟩, ⟨by have h9 := Kd.S_mono (Kd.S_far (p := ⟨g9, 2, none⟩) (Kd.S_types S33.out D33.out.k9 (by decide)) (fun _ hk => hk.2) (.slice A1 (ps ++ [(⟨x1', y1', w1', h1', px⟩ : S91)]).length c1)) (fun _ hk => hk.1.1); simpa using h9⟩⟩
                              · have d11 : (pe != 0) = true := bne_iff_ne.mpr c11
                                rw [if_neg c11] at hpf
                                simp only [Option.some.injEq, Prod.mk.injEq] at hpf
                                obtain ⟨rfl, rfl, rfl⟩ := hpf
                                have hh2 := HH2.out
                                rw [if_neg c11] at hh2
                                simp only [Option.some.injEq, Prod.mk.injEq] at hh2
                                obtain ⟨rfl, rfl, rfl, rfl⟩ := hh2
                                clear c11
                                go_wp2_with fail
                                refine bodyPost_ret (results_ct rfl _ _ g2 51 #[.bool false, .slice none 0 0, .slice none 0 0] (0, 0) _ rfl (blk_put (cs := #[.bool false, .slice none 0 0, .slice none 0 0]) (blk_put (cs := #[.bool false, .slice none 0 0, .slice none 0 0]) (blk_put (cs := #[.bool false, .slice none 0 0, .slice none 0 0]) P30.out.d.k2 0 _ rfl) 1 _ rfl) 2 _ rfl) Try.underlying51 rfl (by kernel_rfl)) rfl ?_
                                exact ⟨_, _, rfl, Kd.R_nil _ _ _ _ _, Kd.S_nil _ _ _ _ _, below_set (below_set (below_set (P30.out.d.r.b) P30.out.d.ge2) P30.out.d.ge2) P30.out.d.ge2⟩
                            · have d10 : tkE n2' nn 0 = 3 := by
                                unfold tkE at c10 ⊢
                                by_cases h_ : n2'.length < nn
                                · exact if_pos h_
                                · exact absurd (if_neg h_) c10
                              rw [if_neg c10] at hpf
                              rw [d10] at m1 P29
                              simp only [Option.some.injEq, Prod.mk.injEq] at hpf
                              obtain ⟨rfl, rfl, rfl⟩ := hpf
                              have hh2 := HH2.out
                              rw [if_neg (by decide)] at hh2
                              simp only [Option.some.injEq, Prod.mk.injEq] at hh2
                              obtain ⟨rfl, rfl, rfl, rfl⟩ := hh2
                              have ne1 := P29.out.d.n27
                              have ne2 := Ne.symm ne1
                              clear c10
                              go_wp2_with fail
                              go_region
                              all_goals (
                                go_wp2_with fail
                                refine bodyPost_ret (results_ct rfl _ _ g2 51 #[.bool false, .slice none 0 0, .slice none 0 0] (0, 0) _ rfl (blk_put (cs := #[.bool false, .slice none 0 0, .slice none 0 0]) (blk_put (cs := #[.bool false, .slice none 0 0, .slice none 0 0]) (blk_put (cs := #[.bool false, .slice none 0 0, .slice none 0 0]) (show w29.drew.heap[g2]? = _ from P29.out.d.k2) 0 _ rfl) 1 _ rfl) 2 _ rfl) Try.underlying51 rfl (by kernel_rfl)) rfl ?_
                                exact ⟨_, _, rfl, Kd.R_nil _ _ _ _ _, Kd.S_nil _ _ _ _ _, below_set (below_set (below_set (below_drew P29.out.d.r.b) P29.out.d.ge2) P29.out.d.ge2) P29.out.d.ge2⟩)
                          · rw [if_pos c8] at hpf; cases hpf
                      · have d7 : (n3' != 0) = true := bne_iff_ne.mpr c7
                        have hpf := HPF.out
                        rw [if_neg c7] at hpf
                        simp only [Option.some.injEq, Prod.mk.injEq] at hpf
                        obtain ⟨rfl, rfl, rfl⟩ := hpf
                        have hh2 := HH2.out
                        rw [if_neg c7] at hh2
                        simp only [Option.some.injEq, Prod.mk.injEq] at hh2
                        obtain ⟨rfl, rfl, rfl, rfl⟩ := hh2
                        have ne1 := P27.out.d.n27
                        have ne2 := Ne.symm ne1
                        clear c7
                        go_wp2_with fail
                        go_region
                        all_goals (
                          go_wp2_with fail
                          refine bodyPost_ret (results_ct rfl _ _ g2 51 #[.bool false, .slice none 0 0, .slice none 0 0] (0, 0) _ rfl (blk_put (cs := #[.bool false, .slice none 0 0, .slice none 0 0]) (blk_put (cs := #[.bool false, .slice none 0 0, .slice none 0 0]) (blk_put (cs := #[.bool false, .slice none 0 0, .slice none 0 0]) (show w27.drew.heap[g2]? = _ from P27.out.d.k2) 0 _ rfl) 1 _ rfl) 2 _ rfl) Try.underlying51 rfl (by kernel_rfl)) rfl ?_
                          exact ⟨_, _, rfl, Kd.R_nil _ _ _ _ _, Kd.S_nil _ _ _ _ _, below_set (below_set (below_set (below_drew P27.out.d.r.b) P27.out.d.ge2) P27.out.d.ge2) P27.out.d.ge2⟩)
                    · have hi1 : decide ((i2 : Int) < c1') = false := decide_eq_false (by omega)
                      have hpf := HI2.out.2.2
                      rw [show c1'.toNat - i2 = 0 by have := HI2.out.1; omega] at hpf
                      obtain ⟨rfl, rfl, rfl⟩ : ps = q1' ∧ l2 = q2' ∧ 0 = q3' := by simpa [patF] using hpf
                      have hh2 := HH2.out
                      rw [if_pos rfl] at hh2
                      obtain ⟨A9, c9, h9, _, _⟩ := HD2.out.r.ex
                      have m0 : wr.cell? ⟨g7, 0, none⟩ = some (.slice A9 l2.length c9) := (blk_cell h9 0).trans rfl
                      obtain ⟨z0, z1, z2, f0, f1, f2⟩ := bcells3 HD2.out.k2
                      obtain ⟨v0, v1, v2, t0, t1_, t2_⟩ := bcells3 HD2.out.k9
                      clear h9 hi hpf
                      by_cases c12 : l2.length > 0
                      · have d12 : decide (0 < (l2.length : Int)) = true := decide_eq_true (by omega)
                        have d13 : decide (0 < l2.length) = true := decide_eq_true c12
                        rw [if_pos c12] at hh2
                        simp only [Option.some.injEq, Prod.mk.injEq] at hh2
                        obtain ⟨rfl, rfl, rfl, rfl⟩ := hh2
                        clear c12
                        go_wp2_with fail
                        refine bodyPost_ret (results_ct rfl _ _ g2 51 #[.bool false, .slice none 0 0, .slice none 0 0] (0, 0) _ rfl (blk_put (cs := #[.bool false, .slice none 0 0, .slice none 0 0]) (blk_put (cs := #[.bool false, .slice none 0 0, .slice none 0 0]) (blk_put (cs := #[.bool false, .slice none 0 0, .slice none 0 0]) HD2.out.k2 0 _ rfl) 1 _ rfl) 2 _ rfl) Try.underlying51 rfl (by kernel_rfl)) rfl ?_
                        exact ⟨_, _, rfl, Kd.R_nil _ _ _ _ _, Kd.S_nil _ _ _ _ _, below_set (below_set (below_set (HD2.out.r.b) HD2.out.ge2) HD2.out.ge2) HD2.out.ge2⟩
                      · have d12 : decide (0 < (l2.length : Int)) = false := decide_eq_false (by omega)
                        have d13 : decide (0 < l2.length) = false := decide_eq_false c12
                        rw [if_neg c12] at hh2
                        simp only [Option.some.injEq, Prod.mk.injEq] at hh2
                        obtain ⟨rfl, rfl, rfl, rfl⟩ := hh2
                        clear c12
                        go_wp2_with fail
                        refine bodyPost_ret (results_ct rfl _ _ g2 51 #[.bool (a1 == 1), .slice Ap acc.length cp, .slice Aq ps.length cq] (0, 0) _ rfl (blk_put (cs := #[.bool (a1 == 1), .slice Ap acc.length cp, .slice none 0 0]) (blk_put (cs := #[.bool (a1 == 1), .slice none 0 0, .slice none 0 0]) (blk_put (cs := #[.bool false, .slice none 0 0, .slice none 0 0]) HD2.out.k2 0 _ rfl) 1 _ rfl) 2 _ rfl) Try.underlying51 rfl (by kernel_rfl)) rfl ?_
                        exact ⟨_, _, rfl, Kd.R_mono (Kd.R_put3 (a0 := 0) (a1 := 1) (a2 := 2) (u0 := .bool (a1 == 1)) (u1 := .slice Ap acc.length cp) (u2 := .slice Aq ps.length cq) HO2.out HD2.out.k2 (by decide)) (fun _ _ => trivial), Kd.S_mono (Kd.S_far (p := ⟨g2, 2, none⟩) (Kd.S_far (p := ⟨g2, 1, none⟩) (Kd.S_far (p := ⟨g2, 0, none⟩) (Kd.S_types HS2.out HD2.out.k2 (by decide)) (fun _ hk => hk.2) _) (fun _ hk => hk.2) _) (fun _ hk => hk.2) _) (fun _ hk => hk.1), below_set (below_set (below_set HD2.out.r.b HD2.out.ge2) HD2.out.ge2) HD2.out.ge2⟩
              · rw [if_neg c5] at H
                have d5 : (c3' != 0) = true := bne_iff_ne.mpr c5
                have d5' : (c3' == 0) = false := beq_eq_false_iff_ne.mpr c5
                simp only [Option.some.injEq, Prod.mk.injEq] at H
                obtain ⟨rfl, rfl, rfl, rfl⟩ := H
                clear c5
                go_wp2_with fail
                have ne1 := D16.out.n27
                have ne2 := Ne.symm ne1
                go_region
                all_goals (
                  go_wp2_with fail
                  refine bodyPost_ret (results_ct rfl _ _ g2 51 #[.bool false, .slice none 0 0, .slice none 0 0] (0, 0) _ rfl (blk_put (cs := #[.bool false, .slice none 0 0, .slice none 0 0]) (blk_put (cs := #[.bool false, .slice none 0 0, .slice none 0 0]) (blk_put (cs := #[.bool false, .slice none 0 0, .slice none 0 0]) (show w16.drew.heap[g2]? = _ from D16.out.k2) 0 _ rfl) 1 _ rfl) 2 _ rfl) Try.underlying51 rfl (by kernel_rfl)) rfl ?_
                  exact ⟨_, _, rfl, Kd.R_nil _ _ _ _ _, Kd.S_nil _ _ _ _ _, below_set (below_set (below_set (below_drew D16.out.r.b) D16.out.ge2) D16.out.ge2) D16.out.ge2⟩)
    · rw [if_neg c2] at H
      have b2 : (s1 == wrap64 t1) = false := beq_eq_false_iff_ne.mpr c2
      have b3 : (s1 != wrap64 t1) = true := bne_iff_ne.mpr c2
      simp only [Option.some.injEq, Prod.mk.injEq] at H
      obtain ⟨rfl, rfl, rfl, rfl⟩ := H
      clear c1 c2
      go_wp2_with fail
      refine bodyPost_ret (results_ct rfl _ _ g2 51 #[.bool false, .slice none 0 0, .slice none 0 0] (0, 0) _ rfl (blk_put (cs := #[.bool false, .slice none 0 0, .slice none 0 0]) (blk_put (cs := #[.bool false, .slice none 0 0, .slice none 0 0]) (blk_put (cs := #[.bool false, .slice none 0 0, .slice none 0 0]) G2.out 0 _ rfl) 1 _ rfl) 2 _ rfl) Try.underlying51 rfl (by kernel_rfl)) rfl ?_
      exact ⟨_, _, rfl, Kd.R_nil _ _ _ _ _, Kd.S_nil _ _ _ _ _, below_set (below_set (below_set (HB.out) GE2.out) GE2.out) GE2.out⟩

/-! ### dioramaref00_EqPatches: function 63 -/
theorem eqiQ_l0 : ∀ (t u pre pre' : List Int), pre.length = pre'.length → (pre ++ t).length ≤ 9223372036854775807 → t.length = u.length → Ev (fun k => dioramaref00_EqInts.l0 k (pre ++ t) (pre' ++ u) (pre.length : Int)) (decide (t = u))
  | [], [], pre, pre', _, _, _ => Ev.step (f := fun _ => some (decide (([] : List Int) = []))) (fun k => by simp only [dioramaref00_EqInts.l0]; rw [if_neg (by simp)]; rfl) (Ev.now _)
  | a :: t, b :: u, pre, pre', h, hl, hu => by
    have hl2 := hl
    simp only [List.length_append, List.length_cons] at hl2 hu
    by_cases e : a = b
    · subst e
      have ih := eqiQ_l0 t u (pre ++ [a]) (pre' ++ [a]) (by simp [h]) (by simpa using hl) (by omega)
      have e1 : pre ++ [a] ++ t = pre ++ a :: t := by simp
      have e1' : pre' ++ [a] ++ u = pre' ++ a :: u := by simp
      have e2 : ((pre ++ [a]).length : Int) = wrap64 ((pre.length : Int) + 1) := by
        simp only [List.length_append, List.length_cons, List.length_nil]
        rw [w64 (by omega) (by omega)]; omega
      have e3 : decide (t = u) = decide (a :: t = a :: u) := by simp
      rw [e1, e1', e2, e3] at ih
      refine Ev.step (fun k => ?_) ih
      simp only [dioramaref00_EqInts.l0]
      rw [if_pos (by simp; omega), if_pos (by omega), if_pos (by simp; omega), if_pos (by simp [rd, h])]
    · refine Ev.step (f := fun _ => some (decide (a :: t = b :: u))) (fun k => ?_) (Ev.now _)
      simp only [dioramaref00_EqInts.l0]
      rw [if_pos (by simp; omega), if_pos (by omega), if_pos (by simp; omega), if_neg (by simp [rd, h, e])]
      simp [e]
  | [], _ :: _, _, _, _, _, h => by simp at h
  | _ :: _, [], _, _, _, _, h => by simp at h
theorem eqiQ_ev {l u : List Int} (hl : l.length ≤ 9223372036854775807) : Ev (fun k => dioramaref00_EqInts.f k l u) (decide (l = u)) := by
  unfold dioramaref00_EqInts.f
  by_cases h : l.length = u.length
  · simp only [if_pos (show (l.length : Int) = (u.length : Int) by omega)]
    exact eqiQ_l0 l u [] [] rfl (by simpa using hl) h
  · simp only [if_neg (show ¬ (l.length : Int) = (u.length : Int) by omega)]
    have : decide (l = u) = false := decide_eq_false (fun e => h (by rw [e]))
    rw [this]
    exact Ev.now _
def patEq1 (a b : S91) : Bool := a.f0 == b.f0 && (a.f1 == b.f1 && (a.f2 == b.f2 && (a.f3 == b.f3 && decide (a.f4 = b.f4))))
def patEq : List S91 → List S91 → Bool
  | [], [] => true
  | a :: s, b :: t => patEq1 a b && patEq s t
  | _, _ => false
theorem patEq_refl : ∀ l : List S91, patEq l l = true
  | [] => rfl
  | a :: s => by rw [patEq, patEq_refl s]; simp [patEq1]
theorem patEq_eq : ∀ l u : List S91, patEq l u = true → l = u
  | [], [], _ => rfl
  | [], _ :: _, h => by simp [patEq] at h
  | _ :: _, [], h => by simp [patEq] at h
  | a :: s, b :: t, h => by
    rw [patEq, Bool.and_eq_true] at h
    have h1 : a = b := by
      obtain ⟨a0, a1, a2, a3, a4⟩ := a
      obtain ⟨b0, b1, b2, b3, b4⟩ := b
      simpa [patEq1] using h.1
    rw [h1, patEq_eq s t h.2]
theorem patEq_len : ∀ l u : List S91, l.length ≠ u.length → patEq l u = false
  | [], [], h => absurd rfl h
  | [], _ :: _, _ => rfl
  | _ :: _, [], _ => rfl
  | a :: s, b :: t, h => by rw [patEq, patEq_len s t (by simpa using h), Bool.and_false]
theorem patEq_drop {l u : List S91} {i : Nat} (h : l.length = u.length) (hi : i < l.length) : patEq (l.drop i) (u.drop i) = (patEq1 (rd_T91 l (i : Int)) (rd_T91 u (i : Int)) && patEq (l.drop (i + 1)) (u.drop (i + 1))) := by
  have hu : i < u.length := by omega
  rw [List.drop_eq_getElem_cons (l := l) hi, List.drop_eq_getElem_cons (l := u) hu, patEq]
  simp [rd_T91, List.getD_eq_getElem?_getD, List.getElem?_eq_getElem hi, List.getElem?_eq_getElem hu]
theorem C_max {α : Type} {d : Kd α} {w : World} {A : Option Addr} {n : Nat} {xs : List α} (h : Kd.C d w A n xs) : n ≤ 9223372036854775807 := h.2.1
set_option maxRecDepth 100000 in
set_option maxHeartbeats 2000000 in
theorem eqp_calls {w : World} (A0 : Option Addr) (c0 : Nat) (l0 : List S91) (A1 : Option Addr) (c1 : Nat) (l1 : List S91) (hr0 : Kd.C k91 w A0 l0.length l0) (hr1 : Kd.C k91 w A1 l1.length l1) :
    Calls Try.prog 63 #[.slice A0 l0.length c0, .slice A1 l1.length c1] w fun e w' => e = .returned (.bool (patEq l0 l1)) ∧ ∃ m, w' = w.drewN m := by
  have hm0 : l0.length ≤ 9223372036854775807 := hr0.2.1
  have HR0 := Aside0.mk hr0
  have HR1 := Aside0.mk hr1
  have HM := Aside0.mk hm0
  have hu91 := Try.underlying91
  clear hr0 hr1 hm0
  by_cases hl : l0.length = l1.length
  · have b0 : ((l0.length : Int) == (l1.length : Int)) = true := beq_iff_eq.mpr (by omega)
    have b1 : ((l0.length : Int) != (l1.length : Int)) = false := bne_eq_false_iff_eq.mpr (by omega)
    have HL := Aside0.mk hl
    clear hl
    go_enter Try.func63, Try.ntmps63
    go_wp2_with fail
    clear b0 b1
    go_loopg [5] (l0.length + 1) (fun kq v5 w' => ∃ (i n : Nat), v5 = .int .i64 (i : Int) ∧ Aside0 (kq = l0.length - i + 1) ∧ Aside0 (i ≤ l0.length ∧ patEq l0 l1 = patEq (l0.drop i) (l1.drop i)) ∧ Aside0 (w' = w.drewN n))
    case atStart => exact ⟨0, 0, rfl, ⟨rfl⟩, ⟨⟨Nat.zero_le _, rfl⟩⟩, ⟨rfl⟩⟩
    case round =>
      obtain ⟨i, n, rfl, HQ, HI, HW⟩ := hrel
      by_cases hi : i < l0.length
      · have e8 : wrap64 ((i : Int) + 1) = ((i + 1 : Nat) : Int) := by have := HM.out; unfold wrap64; omega
        obtain ⟨ad, Ap, cp, ea, x0, x1, x2, x3, x4, x5, x6⟩ := at_T91 (show Kd.C k91 wr A0 l0.length l0 by rw [HW.out]; exact Kd.C_drewN HR0.out n) (i : Int) (by omega) (by omega)
        cases ea
        obtain ⟨bd, Aq, cq, eb, y0, y1, y2, y3, y4, y5, y6⟩ := at_T91 (show Kd.C k91 wr A1 l1.length l1 by rw [HW.out]; exact Kd.C_drewN HR1.out n) (i : Int) (by omega) (by have := HL.out; omega)
        cases eb
        have hi1 : decide ((i : Int) < (l0.length : Int)) = true := decide_eq_true (by omega)
        have hi2 : decide (i < l0.length) = true := decide_eq_true hi
        have hi3 : (i < l0.length) = True := eq_true hi
        have hi4 : (i < l1.length) = True := eq_true (by have := HL.out; omega)
        have HD := Aside0.mk (patEq_drop HL.out hi)
        have HI1 := Aside0.mk hi
        obtain ⟨⟨a0, a1, a2, a3, a4⟩, ha⟩ : ∃ x, rd_T91 l0 (i : Int) = x := ⟨_, rfl⟩
        obtain ⟨⟨d0, d1, d2, d3, d4⟩, hb⟩ : ∃ x, rd_T91 l1 (i : Int) = x := ⟨_, rfl⟩
        rw [ha] at x0 x1 x2 x3 x4 x5 x6
        rw [hb] at y0 y1 y2 y3 y4 y5 y6
        rw [Int.toNat_natCast] at x0 x1 x2 x3 x4 y0 y1 y2 y3 y4
        have HDD : Aside0 (patEq (l0.drop i) (l1.drop i) = (patEq1 ⟨a0, a1, a2, a3, a4⟩ ⟨d0, d1, d2, d3, d4⟩ && patEq (l0.drop (i + 1)) (l1.drop (i + 1)))) := ⟨by rw [HD.out, ha, hb]⟩
        have X5 := Aside0.mk x5
        have X6 := Aside0.mk x6
        have Y5 := Aside0.mk y5
        have Y6 := Aside0.mk y6
        dsimp only at x0 x1 x2 x3 x4 y0 y1 y2 y3 y4
        clear ha hb hi HD x5 x6 y5 y6
        by_cases q0 : a0 = d0
        · have q0' : (a0 != d0) = false := bne_eq_false_iff_eq.mpr q0
          by_cases q1 : a1 = d1
          · have q1' : (a1 != d1) = false := bne_eq_false_iff_eq.mpr q1
            by_cases q2 : a2 = d2
            · have q2' : (a2 != d2) = false := bne_eq_false_iff_eq.mpr q2
              by_cases q3 : a3 = d3
              · have q3' : (a3 != d3) = false := bne_eq_false_iff_eq.mpr q3
                obtain ⟨ke, hke⟩ := (eqiQ_ev (l := a4) (u := d4) (C_max X6.out)).rounds
                have HKE := Aside0.mk hke
                clear hke
                by_cases q4 : a4 = d4
                · have HQ4 : Aside0 (decide (a4 = d4) = true) := ⟨decide_eq_true q4⟩
                  have HPR : Aside0 (∀ m, Calls Try.prog 15 #[.slice Ap a4.length cp, .slice Aq d4.length cq] (wr.drewN m) fun e w' => e = .returned (.bool true) ∧ ∃ m', w' = (wr.drewN m).drewN m') := ⟨fun m => (dioramaref00_EqInts.calls ke Ap cp a4 Aq cq d4 true _ (Kd.C_drewN X6.out _) X5.out (Kd.C_drewN Y6.out _) Y5.out (by rw [HKE.out, HQ4.out])).mono (fun e w' h => ⟨h.1, h.2.out⟩)⟩
                  have HY : Aside0 (patEq l0 l1 = patEq (l0.drop (i + 1)) (l1.drop (i + 1))) := ⟨by rw [HI.out.2, HDD.out]; simp [patEq1, q0, q1, q2, q3, q4]⟩
                  clear q0 q1 q2 q3 q4
                  go_wp2_with fail
                  repeat (go_quiet (first | (go_at_call 15; exact Calls.quiet_of (HPR.out _))); go_wp2_with (fail))
                  go_roundg (l0.length - (i + 1) + 1)
                  case measure => have := HQ.out; have := HI1.out; omega
                  case rel => exact ⟨i + 1, _, by rw [e8], ⟨rfl⟩, ⟨⟨HI1.out, HY.out⟩⟩, ⟨by rw [HW.out]; exact World.drewN_drewN _ _ _⟩⟩
                · have HQ4 : Aside0 (decide (a4 = d4) = false) := ⟨decide_eq_false q4⟩
                  have HPR : Aside0 (∀ m, Calls Try.prog 15 #[.slice Ap a4.length cp, .slice Aq d4.length cq] (wr.drewN m) fun e w' => e = .returned (.bool false) ∧ ∃ m', w' = (wr.drewN m).drewN m') := ⟨fun m => (dioramaref00_EqInts.calls ke Ap cp a4 Aq cq d4 false _ (Kd.C_drewN X6.out _) X5.out (Kd.C_drewN Y6.out _) Y5.out (by rw [HKE.out, HQ4.out])).mono (fun e w' h => ⟨h.1, h.2.out⟩)⟩
                  have HN : Aside0 (patEq l0 l1 = false) := ⟨by rw [HI.out.2, HDD.out]; simp [patEq1, q4]⟩
                  clear q0 q1 q2 q3 q4
                  go_wp2_with fail
                  repeat (go_quiet (first | (go_at_call 15; exact Calls.quiet_of (HPR.out _))); go_wp2_with (fail))
                  go_ret
                  exact ⟨by rw [HN.out]; rfl, by rw [HW.out]; exact ⟨_, World.drewN_drewN _ _ _⟩⟩
              · have q3' : (a3 != d3) = true := bne_iff_ne.mpr q3
                have HN : Aside0 (patEq l0 l1 = false) := ⟨by rw [HI.out.2, HDD.out]; simp [patEq1, q0, q1, q2, q3]⟩
                clear q0 q1 q2 q3
                go_wp2_with fail
                repeat (go_quiet (fail); go_wp2_with (fail))
                go_ret
                exact ⟨by rw [HN.out]; rfl, by rw [HW.out]; exact ⟨_, World.drewN_drewN _ _ _⟩⟩
            · have q2' : (a2 != d2) = true := bne_iff_ne.mpr q2
              have HN : Aside0 (patEq l0 l1 = false) := ⟨by rw [HI.out.2, HDD.out]; simp [patEq1, q0, q1, q2]⟩
              clear q0 q1 q2
              go_wp2_with fail
              repeat (go_quiet (fail); go_wp2_with (fail))
              go_ret
              exact ⟨by rw [HN.out]; rfl, by rw [HW.out]; exact ⟨_, World.drewN_drewN _ _ _⟩⟩
          · have q1' : (a1 != d1) = true := bne_iff_ne.mpr q1
            have HN : Aside0 (patEq l0 l1 = false) := ⟨by rw [HI.out.2, HDD.out]; simp [patEq1, q0, q1]⟩
            clear q0 q1
            go_wp2_with fail
            repeat (go_quiet (fail); go_wp2_with (fail))
            go_ret
            exact ⟨by rw [HN.out]; rfl, by rw [HW.out]; exact ⟨_, World.drewN_drewN _ _ _⟩⟩
        · have q0' : (a0 != d0) = true := bne_iff_ne.mpr q0
          have HN : Aside0 (patEq l0 l1 = false) := ⟨by rw [HI.out.2, HDD.out]; simp [patEq1, q0]⟩
          clear q0
          go_wp2_with fail
          repeat (go_quiet (fail); go_wp2_with (fail))
          go_ret
          exact ⟨by rw [HN.out]; rfl, by rw [HW.out]; exact ⟨_, World.drewN_drewN _ _ _⟩⟩
      · have hi1 : decide ((i : Int) < (l0.length : Int)) = false := decide_eq_false (by omega)
        have hi2 : decide (i < l0.length) = false := decide_eq_false hi
        have HY : Aside0 (patEq l0 l1 = true) := ⟨by rw [HI.out.2, List.drop_eq_nil_of_le (by omega), List.drop_eq_nil_of_le (by have := HL.out; omega)]; rfl⟩
        clear hi
        go_wp2_with fail
        go_ret
        exact ⟨by rw [HY.out]; rfl, n, HW.out⟩
  · have b0 : ((l0.length : Int) == (l1.length : Int)) = false := beq_eq_false_iff_ne.mpr (by omega)
    have b1 : ((l0.length : Int) != (l1.length : Int)) = true := bne_iff_ne.mpr (by omega)
    have HN := Aside0.mk (patEq_len l0 l1 hl)
    clear hl
    go_enter Try.func63, Try.ntmps63
    go_wp2_with fail
    go_ret
    exact ⟨by rw [HN.out]; rfl, 0, rfl⟩
def dioramaref00_EqPatches.f (l0 : List S91) (l1 : List S91) : Option (Bool) := some (patEq l0 l1)
theorem dioramaref00_EqPatches.calls (A0 : Option Addr) (c0 : Nat) (l0 : List (S91)) (A1 : Option Addr) (c1 : Nat) (l1 : List (S91)) (r : Bool) (w : World) (hr0 : Kd.C k91 w A0 l0.length l0) (hc0 : l0.length ≤ c0) (hr1 : Kd.C k91 w A1 l1.length l1) (hc1 : l1.length ≤ c1) (h : dioramaref00_EqPatches.f l0 l1 = some r) :
    Calls Try.prog 63 #[.slice A0 l0.length c0, .slice A1 l1.length c1] w fun e w' => e = .returned (.bool r) ∧ Below w.heap.size w w' := by
  cases h
  refine (eqp_calls A0 c0 l0 A1 c1 l1 hr0 hr1).mono ?_
  rintro e w' ⟨rfl, m, rfl⟩
  exact ⟨rfl, pw_below_drewN (Below.refl _ _) m⟩

/-! ### dioramaref00_EqPage: function 28 -/
def dioramaref00_EqPage.f (k : Nat) (a0_0 : Bool) (l0_1 : List Int) (l0_2 : List (S91)) (a1_0 : Bool) (l1_1 : List Int) (l1_2 : List (S91)) : Option (Bool) := if (a0_0 == a1_0) = true then ((dioramaref00_EqInts.f k l0_1 l1_1).bind fun t203 => (if t203 = true then ((dioramaref00_EqPatches.f l0_2 l1_2).bind fun t204 => (some t204)) else (some false))) else (some false)
theorem dioramaref00_EqPage.mono:∀ a0 a1 a2 a3 a4 a5 k,LeO (dioramaref00_EqPage.f k a0 a1 a2 a3 a4 a5) (dioramaref00_EqPage.f (k+1) a0 a1 a2 a3 a4 a5):=by
 intro a0 a1 a2 a3 a4 a5 k
 unfold dioramaref00_EqPage.f
 repeat' first
  | (with_reducible exact dioramaref00_EqInts.mono _ _ _)
  | (with_reducible exact LeO.refl _)
  | (with_reducible exact LeO.none _)
  | (with_reducible refine LeO.ite ?_ ?_)
  | (with_reducible refine LeO.bind ?_ (fun _=>?_))
  | exact LeO.none _
  | refine LeO.ite ?_ ?_
  | refine LeO.bind ?_ (fun _=>?_)
set_option maxHeartbeats 8000000 in
set_option maxRecDepth 100000 in
theorem dioramaref00_EqPage.calls (k:Nat) (a0_0:Bool) (A0_1:Option Addr) (c0_1:Nat) (l0_1:List Int) (A0_2:Option Addr) (c0_2:Nat) (l0_2:List (S91)) (a1_0:Bool) (A1_1:Option Addr) (c1_1:Nat) (l1_1:List Int) (A1_2:Option Addr) (c1_2:Nat) (l1_2:List (S91)) (r:Bool) (w:World) (hr0_1:Kd.C (Kd.int .i64) w A0_1 l0_1.length l0_1) (hc0_1:l0_1.length≤c0_1) (hr0_2:Kd.C k91 w A0_2 l0_2.length l0_2) (hc0_2:l0_2.length≤c0_2) (hr1_1:Kd.C (Kd.int .i64) w A1_1 l1_1.length l1_1) (hc1_1:l1_1.length≤c1_1) (hr1_2:Kd.C k91 w A1_2 l1_2.length l1_2) (hc1_2:l1_2.length≤c1_2) (h:dioramaref00_EqPage.f k a0_0 l0_1 l0_2 a1_0 l1_1 l1_2=some r) :
 Calls Try.prog 28 #[.agg #[.bool a0_0,.slice A0_1 l0_1.length c0_1,.slice A0_2 l0_2.length c0_2],.agg #[.bool a1_0,.slice A1_1 l1_1.length c1_1,.slice A1_2 l1_2.length c1_2]] w fun e w'=>e=.returned (.bool r)∧Below w.heap.size w w':=by
 have hu51:=Try.underlying51
 have HR0_1:=Aside0.mk hr0_1
 have HC0_1:=Aside0.mk hc0_1;clear hr0_1 hc0_1
 have HR0_2:=Aside0.mk hr0_2
 have HC0_2:=Aside0.mk hc0_2;clear hr0_2 hc0_2
 have HR1_1:=Aside0.mk hr1_1
 have HC1_1:=Aside0.mk hc1_1;clear hr1_1 hc1_1
 have HR1_2:=Aside0.mk hr1_2
 have HC1_2:=Aside0.mk hc1_2;clear hr1_2 hc1_2;have HB:=Aside0.mk (Below.refl w.heap.size w)
 have H:(if (a0_0 == a1_0)=true then ((dioramaref00_EqInts.f k l0_1 l1_1).bind fun t203=>(if t203=true then ((dioramaref00_EqPatches.f l0_2 l1_2).bind fun t204=>(some t204)) else (some false))) else (some false))=some r:=h;clear h
 by_cases c3:(a0_0 == a1_0)=true
 · rw [if_pos c3] at H
   have c3b0:(a0_0 == a1_0)=true:=c3
   (try (have c3b1:decide (a0_0=a1_0)=true:=by simpa using c3))
   (try (have c3b2:(a0_0 == a1_0)=true:=by simpa using c3))
   clear c3
   replace H:=Option.bind_eq_some_iff.mp H
   obtain ⟨t203,A40,H⟩:=H
   replace H:(if t203=true then ((dioramaref00_EqPatches.f l0_2 l1_2).bind fun t204=>(some t204)) else (some false))=some r:=H
   have A4:=Aside0.mk A40;clear A40
   by_cases c5:t203=true
   · subst c5
     have H1:((dioramaref00_EqPatches.f l0_2 l1_2).bind fun t204=>(some t204))=some r:=by rw [if_pos rfl] at H;exact H
     clear H
     have H:=H1;clear H1
     replace H:=Option.bind_eq_some_iff.mp H
     obtain ⟨t204,A60,H⟩:=H
     replace H:(some t204)=some r:=H
     have A6:=Aside0.mk A60;clear A60
     obtain rfl:=Option.some.inj H
     go_enter Try.func28,Try.ntmps28
     go_wp2_with (first|((with_reducible refine gate_dst (N:=2) rfl ?_);refine box_event ?hg (N:=2) ?hd (cs:=#[.bool a0_0,.slice A0_1 l0_1.length c0_1,.slice A0_2 l0_2.length c0_2]) (t:=51) ?hr ?_;(case hd=>rfl);(case hg=>rfl);(case hr=>first|(go_simp;done)|(go_simp;rfl));intro gb201 hg w7 hbox hb;have n0_:=Aside0.mk (below_step (belV HB.out) hb);have n1_:=Aside0.mk (hbox);have n2_:=Aside0.mk ((by rw [hg];exact (below_size (belV HB.out)):w.heap.size≤gb201));have n3_:=Aside0.mk ((by rw [hg];exact (below_size (belV HB.out)):w.heap.size≤gb201));clear HB;have HB:=n0_;have BK201:=n1_;have GW201:=n2_;have GE201:=n3_;clear n0_ n1_ n2_ n3_;clear hb hbox hg)|((with_reducible refine gate_dst (N:=3) rfl ?_);refine box_event ?hg (N:=3) ?hd (cs:=#[.bool a1_0,.slice A1_1 l1_1.length c1_1,.slice A1_2 l1_2.length c1_2]) (t:=51) ?hr ?_;(case hd=>rfl);(case hg=>rfl);(case hr=>first|(go_simp;done)|(go_simp;rfl));intro gb202 hg w8 hbox hb;have n0_:=Aside0.mk (blk_below (g:=gb201) (blkV BK201.out) hb);have n1_:=Aside0.mk (below_step (belV1 HB.out GE201.out) hb);have n2_:=Aside0.mk (hbox);have n3_:=Aside0.mk ((by rw [hg];exact (below_size (belV1 HB.out GE201.out)):w.heap.size≤gb202));have n4_:=Aside0.mk ((by rw [hg];exact (below_size (belV1 HB.out GE201.out)):w.heap.size≤gb202));have n5_:=Aside0.mk ((by rw [hg];exact Nat.ne_of_lt (blk_lt (g:=gb201) (blkV BK201.out)):gb201≠gb202));have n6_:=Aside0.mk ((by rw [hg];exact Nat.ne_of_gt (blk_lt (g:=gb201) (blkV BK201.out)):gb202≠gb201));clear BK201;clear HB;have BK201:=n0_;have HB:=n1_;have BK202:=n2_;have GW202:=n3_;have GE202:=n4_;have NB201_202:=n5_;have NB202_201:=n6_;clear n0_ n1_ n2_ n3_ n4_ n5_ n6_;clear hb hbox hg;have hnb9:=NB201_202.out;have hnc9:=NB202_201.out;obtain ⟨hcz10_0,hcz10_1,hcz10_2,hfz10_0,hfz10_1,hfz10_2⟩:=bcells3 BK201.out;obtain ⟨hcz11_0,hcz11_1,hcz11_2,hfz11_0,hfz11_1,hfz11_2⟩:=bcells3 BK202.out)|(go_at_call 15;(with_reducible refine (dioramaref00_EqInts.calls k _ _ l0_1 _ _ l1_1 true _ ?side1 ?side2 ?side3 ?side4 A4.out).mono ?_);(case side1=>exact cV (Kd.C_below HR0_1.out HB.out));(case side2=>exact HC0_1.out);(case side3=>exact cV (Kd.C_below HR1_1.out HB.out));(case side4=>exact HC1_1.out);rintro e w' ⟨rfl,⟨nd,rfl⟩⟩)|(go_at_call 63;(with_reducible refine (dioramaref00_EqPatches.calls _ _ l0_2 _ _ l1_2 t204 _ ?side1 ?side2 ?side3 ?side4 A6.out).mono ?_);(case side1=>repeat (first|exact (Kd.C_below HR0_2.out (belV2 HB.out GE201.out GE202.out))|(with_reducible refine Kd.C_alloc ?_ _)|(with_reducible refine Kd.C_drewN ?_ _)|(with_reducible refine Kd.C_drew ?_)));(case side2=>exact HC0_2.out);(case side3=>repeat (first|exact (Kd.C_below HR1_2.out (belV2 HB.out GE201.out GE202.out))|(with_reducible refine Kd.C_alloc ?_ _)|(with_reducible refine Kd.C_drewN ?_ _)|(with_reducible refine Kd.C_drew ?_)));(case side4=>exact HC1_2.out);rintro e w12 ⟨rfl,hb⟩;have n0_:=Aside0.mk (blk_below (g:=gb201) (blkV BK201.out) hb);have n1_:=Aside0.mk (blk_below (g:=gb202) (blkV BK202.out) hb);have n2_:=Aside0.mk (below_step (belV2 HB.out GE201.out GE202.out) hb);clear BK201;clear BK202;clear HB;have BK201:=n0_;have BK202:=n1_;have HB:=n2_;clear n0_ n1_ n2_;(try clear hb);(try clear hb2);(try clear hk);(try clear hi)))
     go_ret
     exact ⟨by first|rfl|(simp [errW_none,errW_some] <;> rfl)|(simp [*,errW_none,errW_some] <;> rfl),by repeat (first|(with_reducible first|exact HB.out|apply below_alloc|apply pw_below_drewN|apply below_drew1|refine below_set ?_ GE201.out|refine below_set ?_ GE202.out)|exact HB.out)⟩
   replace c5:=Bool.eq_false_iff.mpr c5;subst c5
   have H1:(some false)=some r:=by rw [if_neg (show ¬ (false=true) by decide)] at H;exact H
   clear H
   have H:=H1;clear H1
   obtain rfl:=Option.some.inj H
   go_enter Try.func28,Try.ntmps28
   go_wp2_with (first|((with_reducible refine gate_dst (N:=2) rfl ?_);refine box_event ?hg (N:=2) ?hd (cs:=#[.bool a0_0,.slice A0_1 l0_1.length c0_1,.slice A0_2 l0_2.length c0_2]) (t:=51) ?hr ?_;(case hd=>rfl);(case hg=>rfl);(case hr=>first|(go_simp;done)|(go_simp;rfl));intro gb201 hg w13 hbox hb;have n0_:=Aside0.mk (below_step (belV HB.out) hb);have n1_:=Aside0.mk (hbox);have n2_:=Aside0.mk ((by rw [hg];exact (below_size (belV HB.out)):w.heap.size≤gb201));have n3_:=Aside0.mk ((by rw [hg];exact (below_size (belV HB.out)):w.heap.size≤gb201));clear HB;have HB:=n0_;have BK201:=n1_;have GW201:=n2_;have GE201:=n3_;clear n0_ n1_ n2_ n3_;clear hb hbox hg)|((with_reducible refine gate_dst (N:=3) rfl ?_);refine box_event ?hg (N:=3) ?hd (cs:=#[.bool a1_0,.slice A1_1 l1_1.length c1_1,.slice A1_2 l1_2.length c1_2]) (t:=51) ?hr ?_;(case hd=>rfl);(case hg=>rfl);(case hr=>first|(go_simp;done)|(go_simp;rfl));intro gb202 hg w14 hbox hb;have n0_:=Aside0.mk (blk_below (g:=gb201) (blkV BK201.out) hb);have n1_:=Aside0.mk (below_step (belV1 HB.out GE201.out) hb);have n2_:=Aside0.mk (hbox);have n3_:=Aside0.mk ((by rw [hg];exact (below_size (belV1 HB.out GE201.out)):w.heap.size≤gb202));have n4_:=Aside0.mk ((by rw [hg];exact (below_size (belV1 HB.out GE201.out)):w.heap.size≤gb202));have n5_:=Aside0.mk ((by rw [hg];exact Nat.ne_of_lt (blk_lt (g:=gb201) (blkV BK201.out)):gb201≠gb202));have n6_:=Aside0.mk ((by rw [hg];exact Nat.ne_of_gt (blk_lt (g:=gb201) (blkV BK201.out)):gb202≠gb201));clear BK201;clear HB;have BK201:=n0_;have HB:=n1_;have BK202:=n2_;have GW202:=n3_;have GE202:=n4_;have NB201_202:=n5_;have NB202_201:=n6_;clear n0_ n1_ n2_ n3_ n4_ n5_ n6_;clear hb hbox hg;have hnb15:=NB201_202.out;have hnc15:=NB202_201.out;obtain ⟨hcz16_0,hcz16_1,hcz16_2,hfz16_0,hfz16_1,hfz16_2⟩:=bcells3 BK201.out;obtain ⟨hcz17_0,hcz17_1,hcz17_2,hfz17_0,hfz17_1,hfz17_2⟩:=bcells3 BK202.out)|(go_at_call 15;(with_reducible refine (dioramaref00_EqInts.calls k _ _ l0_1 _ _ l1_1 false _ ?side1 ?side2 ?side3 ?side4 A4.out).mono ?_);(case side1=>exact cV (Kd.C_below HR0_1.out HB.out));(case side2=>exact HC0_1.out);(case side3=>exact cV (Kd.C_below HR1_1.out HB.out));(case side4=>exact HC1_1.out);rintro e w' ⟨rfl,⟨nd,rfl⟩⟩))
   go_ret
   exact ⟨by first|rfl|(simp [errW_none,errW_some] <;> rfl)|(simp [*,errW_none,errW_some] <;> rfl),by repeat (first|(with_reducible first|exact HB.out|apply below_alloc|apply pw_below_drewN|apply below_drew1|refine below_set ?_ GE201.out|refine below_set ?_ GE202.out)|exact HB.out)⟩
 rw [if_neg c3] at H
 have c3b0:(a0_0 == a1_0)=false:=by simpa using c3
 (try (have c3b1:decide (a0_0=a1_0)=false:=by simpa using c3))
 (try (have c3b2:(a0_0 == a1_0)=false:=by simpa using c3))
 (try (have c3b3:¬ (a0_0=a1_0):=by simpa using c3))
 clear c3
 obtain rfl:=Option.some.inj H
 go_enter Try.func28,Try.ntmps28
 go_wp2_with (first|((with_reducible refine gate_dst (N:=2) rfl ?_);refine box_event ?hg (N:=2) ?hd (cs:=#[.bool a0_0,.slice A0_1 l0_1.length c0_1,.slice A0_2 l0_2.length c0_2]) (t:=51) ?hr ?_;(case hd=>rfl);(case hg=>rfl);(case hr=>first|(go_simp;done)|(go_simp;rfl));intro gb201 hg w18 hbox hb;have n0_:=Aside0.mk (below_step (belV HB.out) hb);have n1_:=Aside0.mk (hbox);have n2_:=Aside0.mk ((by rw [hg];exact (below_size (belV HB.out)):w.heap.size≤gb201));have n3_:=Aside0.mk ((by rw [hg];exact (below_size (belV HB.out)):w.heap.size≤gb201));clear HB;have HB:=n0_;have BK201:=n1_;have GW201:=n2_;have GE201:=n3_;clear n0_ n1_ n2_ n3_;clear hb hbox hg)|((with_reducible refine gate_dst (N:=3) rfl ?_);refine box_event ?hg (N:=3) ?hd (cs:=#[.bool a1_0,.slice A1_1 l1_1.length c1_1,.slice A1_2 l1_2.length c1_2]) (t:=51) ?hr ?_;(case hd=>rfl);(case hg=>rfl);(case hr=>first|(go_simp;done)|(go_simp;rfl));intro gb202 hg w19 hbox hb;have n0_:=Aside0.mk (blk_below (g:=gb201) (blkV BK201.out) hb);have n1_:=Aside0.mk (below_step (belV1 HB.out GE201.out) hb);have n2_:=Aside0.mk (hbox);have n3_:=Aside0.mk ((by rw [hg];exact (below_size (belV1 HB.out GE201.out)):w.heap.size≤gb202));have n4_:=Aside0.mk ((by rw [hg];exact (below_size (belV1 HB.out GE201.out)):w.heap.size≤gb202));have n5_:=Aside0.mk ((by rw [hg];exact Nat.ne_of_lt (blk_lt (g:=gb201) (blkV BK201.out)):gb201≠gb202));have n6_:=Aside0.mk ((by rw [hg];exact Nat.ne_of_gt (blk_lt (g:=gb201) (blkV BK201.out)):gb202≠gb201));clear BK201;clear HB;have BK201:=n0_;have HB:=n1_;have BK202:=n2_;have GW202:=n3_;have GE202:=n4_;have NB201_202:=n5_;have NB202_201:=n6_;clear n0_ n1_ n2_ n3_ n4_ n5_ n6_;clear hb hbox hg;have hnb20:=NB201_202.out;have hnc20:=NB202_201.out;obtain ⟨hcz21_0,hcz21_1,hcz21_2,hfz21_0,hfz21_1,hfz21_2⟩:=bcells3 BK201.out;obtain ⟨hcz22_0,hcz22_1,hcz22_2,hfz22_0,hfz22_1,hfz22_2⟩:=bcells3 BK202.out))
 go_ret
 exact ⟨by first|rfl|(simp [errW_none,errW_some] <;> rfl)|(simp [*,errW_none,errW_some] <;> rfl),by repeat (first|(with_reducible first|exact HB.out|apply below_alloc|apply pw_below_drewN|apply below_drew1|refine below_set ?_ GE201.out|refine below_set ?_ GE202.out)|exact HB.out)⟩

/-! ### bitmap_colours_1: function 88 -/
def bitmap_colours_1.f (a0 : Int) : Option (Bool) := (bitmap_within.f a0 0 16777215).bind fun t205 => (some (!t205))
set_option maxHeartbeats 8000000 in
set_option maxRecDepth 100000 in
theorem bitmap_colours_1.calls (a0:Int) (r:Bool) (w:World) (h:bitmap_colours_1.f a0=some r) :
 Calls Try.prog 88 #[.int .i64 a0] w fun e w'=>e=.returned (.bool r)∧Drawn0 w w':=by
 have H:((bitmap_within.f a0 0 16777215).bind fun t205=>(some (!t205)))=some r:=h;clear h
 replace H:=Option.bind_eq_some_iff.mp H
 obtain ⟨t205,A20,H⟩:=H
 replace H:(some (!t205))=some r:=H
 have A2:=Aside0.mk A20;clear A20
 obtain rfl:=Option.some.inj H
 go_enter Try.func88,Try.ntmps88
 go_wp2_with (first|((with_reducible refine gate_callee (f:=47) rfl ?_);refine goesL_ (some 4) rfl rfl Try.func47 (by kernel_rfl) rfl #[.int .i64 a0,.int .i64 0,.int .i64 16777215] rfl (by (try simp only [List.map_toArray,List.map_cons,List.map_nil]);first|done|rfl|(simp only [List.length_drop,List.length_take];rfl)) ?_;(with_reducible refine (bitmap_within.calls a0 0 16777215 t205 _ A2.out).mono ?_);rintro e w' ⟨rfl,⟨nd,rfl⟩⟩;refine ⟨_,rfl,?_⟩))
 go_ret
 exact ⟨by first|rfl|(simp;done)|(simp [*];done),by repeat (first|exact Drawn0.refl _|apply Drawn0.step)⟩

end Go.Proofs.Ytaebgjdaoloceaa.QBmpP
