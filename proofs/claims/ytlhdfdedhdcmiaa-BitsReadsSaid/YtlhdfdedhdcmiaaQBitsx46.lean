/- Part of a proof: functions of the program as Lean functions, and that the machine's calls come to them. Made by a program of this session (wip/mp). -/
import Derived.Test.YtlhdfdedhdcmiaaQBitsx0
import Derived.Test.YtlhdfdedhdcmiaaQBitsx7
import Derived.Test.YtlhdfdedhdcmiaaQBitsx33
import Derived.Test.YtlhdfdedhdcmiaaQBitsx35
import Derived.Test.YtlhdfdedhdcmiaaQBitsx36
import Derived.Test.YtlhdfdedhdcmiaaQBitsx38
import Derived.Test.YtlhdfdedhdcmiaaQBitsx40
import Derived.Test.YtlhdfdedhdcmiaaQBitsx41
import Derived.Test.YtlhdfdedhdcmiaaQBitsx42
import Derived.Test.YtlhdfdedhdcmiaaQBitsx43
import Derived.Test.YtlhdfdedhdcmiaaQBitsx44
import Derived.Test.YtlhdfdedhdcmiaaQBitsx45
namespace Go.Proofs.Ytlhdfdedhdcmiaa.QBits
open Go.RowKit Go.Proofs.YtlhdfdedhdcmiaaW.PrintWords Go.Proofs.YtlhdfdedhdcmiaaW.PrintLast Go.Proofs.YtlhdfdedhdcmiaaW.PrintMore
attribute [local go_sem] max2_int min2_int max_two min_two max_three min_three max_four min_four   -- for this text's walks alone
set_option linter.unusedVariables false
set_option linter.unusedSimpArgs false

/-! ### dioramalaw01_BitsReads: function 9 -/
theorem at_quiet {g : Nat} {l : List Int} {a : Int} {w0 w : World} (hI : IsS81 w0 w g l a) : Calls Try.prog 48 #[.pointer (some ⟨g, 0, none⟩)] w fun e w' => e = .returned (.int .i64 a) ∧ ∃ m, w' = w.drewN m := by
  obtain ⟨A, c, HG, _, _⟩ := hI
  have h0 := cellS81_0 HG
  have h1 := cellS81_1 HG
  clear HG
  go_enter Try.func48, Try.ntmps48
  go_wp2
  go_ret
  exact ⟨rfl, 0, rfl⟩
theorem left_quiet {g : Nat} {l : List Int} {a : Int} {w0 w : World} (hI : IsS81 w0 w g l a) : Calls Try.prog 49 #[.pointer (some ⟨g, 0, none⟩)] w fun e w' => e = .returned (.int .i64 (wrap64 (wrap64 (8 * (l.length : Int)) - a))) ∧ ∃ m, w' = w.drewN m := by
  obtain ⟨A, c, HG, _, _⟩ := hI
  have h0 := cellS81_0 HG
  have h1 := cellS81_1 HG
  clear HG
  go_enter Try.func49, Try.ntmps49
  go_wp2_with fail
  go_quiet (fail)
  go_wp2
  go_ret
  exact ⟨rfl, nq, rfl⟩
theorem left_quiet' {g : Nat} {l : List Int} {a : Int} {w0 w : World} (hI : IsS54 w0 w g l a) : Calls Try.prog 50 #[.pointer (some ⟨g, 0, none⟩)] w fun e w' => e = .returned (.int .i64 (wrap64 (wrap64 (8 * (l.length : Int)) - a))) ∧ ∃ m, w' = w.drewN m := by
  obtain ⟨A, c, HG, _, _⟩ := hI
  have h0 := cellS54_0 HG
  have h1 := cellS54_1 HG
  clear HG
  go_enter Try.func50, Try.ntmps50
  go_wp2_with fail
  go_quiet (fail)
  go_wp2
  go_ret
  exact ⟨rfl, nq, rfl⟩

def readStep (k : Nat) (b : List Int) (a : Int) (o : S56) : Option Int :=
  if o.f0 = 0 then (bits_Reader_Get.f k b a o.f1).bind fun p => (dioramaref01_Reader_Get.f k b a o.f1).bind fun q => if p = q then some p.2.2 else none
  else if o.f0 = 1 then (bits_Reader_Unary.f k b a o.f1).bind fun p => (dioramaref01_Reader_Unary.f k b a o.f1).bind fun q => if p = q then some p.2.2 else none
  else if o.f0 = 2 then (bits_Reader_Rice.f k b a o.f1 o.f2).bind fun p => (dioramaref01_Reader_Rice.f k b a o.f1 o.f2).bind fun q => if p = q then some p.2.2 else none
  else if o.f0 = 3 then (bits_Reader_Grow.f k b a).bind fun p => (dioramaref01_Reader_Grow.f k b a).bind fun q => if p = q then some p.2.2 else none
  else (bits_Reader_Align.f b a).bind fun p => (dioramaref01_Reader_Align.f b a).bind fun q => if p = q then some p else none
def readLoop (k : Nat) (b : List Int) : Int → List S56 → Option Unit
  | _, [] => some ()
  | a, o :: t => (readStep k b a o).bind fun a' => readLoop k b a' t
def dioramalaw01_BitsReads.f (k : Nat) (l0 : List Int) (l1 : List S56) : Option (Bool) :=
  if (l0.length : Int) > 4000 then some true else if (l1.length : Int) > 200 then some true else (readLoop k l0 0 l1).bind fun _ => dioramalaw01_awake.f k
theorem readLoop_at {k : Nat} {b : List Int} {l : List S56} {i : Nat} (hi : i < l.length) (a : Int) (h : readLoop k b a (l.drop i) = some ()) : ∃ a', readStep k b a (rd_T56 l (i : Int)) = some a' ∧ readLoop k b a' (l.drop (i + 1)) = some () := by
  have e : l.drop i = rd_T56 l (i : Int) :: l.drop (i + 1) := by
    rw [List.drop_eq_getElem_cons hi]
    congr 1
    unfold rd_T56
    rw [Int.toNat_natCast, List.getD_eq_getElem?_getD, List.getElem?_eq_getElem hi]
    rfl
  rw [e] at h
  simp only [readLoop] at h
  obtain ⟨a', h1, h2⟩ := Option.bind_eq_some_iff.mp h
  exact ⟨a', h1, h2⟩
theorem two_eq {α : Type} {x y : Option α} [DecidableEq α] {β : Type} {g : α → β} {r : β} (h : (x.bind fun p => y.bind fun q => if p = q then some (g p) else none) = some r) : ∃ p, x = some p ∧ y = some p ∧ r = g p := by
  obtain ⟨p, h1, h⟩ := Option.bind_eq_some_iff.mp h
  obtain ⟨q, h2, h⟩ := Option.bind_eq_some_iff.mp h
  by_cases e : p = q
  · rw [if_pos e] at h
    subst e
    exact ⟨p, h1, h2, (Option.some.inj h).symm⟩
  · rw [if_neg e] at h; cases h
structure RS (w : World) (l : List Int) (g x B : Nat) (o : S56) (W : World) (a b : Int) : Prop where
  p : IsS81 w W g l a
  r : IsS54 w W x l b
  box : W.heap[B]? = some (.cells #[.int .i64 o.f0, .int .i64 o.f1, .int .i64 o.f2] 56)
  bel : Below w.heap.size w W
  n1 : g ≠ x
  n2 : B ≠ g
  n3 : B ≠ x
theorem RS.stepP {w : World} {l : List Int} {g x B : Nat} {o : S56} {W W' : World} {a b a' : Int} (h : RS w l g x B o W a b) (hI : IsS81 w W' g l a') (hB : Below w.heap.size w W') (hK : KeepBut W W' g none) : RS w l g x B o W' a' b :=
  ⟨hI, h.r.kept (S := fun k => k = g) ⟨hK.1, fun i hi hn => hK.2 i hi hn (by simp)⟩ (fun e => h.n1 e.symm), (hK.2 B (Array.getElem?_eq_some_iff.mp h.box).1 h.n2 (by simp)).trans h.box, hB, h.n1, h.n2, h.n3⟩
theorem RS.stepR {w : World} {l : List Int} {g x B : Nat} {o : S56} {W W' : World} {a b b' : Int} (h : RS w l g x B o W a b) (hI : IsS54 w W' x l b') (hB : Below w.heap.size w W') (hK : KeepBut W W' x none) : RS w l g x B o W' a b' :=
  ⟨h.p.kept (S := fun k => k = x) ⟨hK.1, fun i hi hn => hK.2 i hi hn (by simp)⟩ (fun e => h.n1 e), hI, (hK.2 B (Array.getElem?_eq_some_iff.mp h.box).1 h.n3 (by simp)).trans h.box, hB, h.n1, h.n2, h.n3⟩
theorem RS.cells {w : World} {l : List Int} {g x B : Nat} {o : S56} {W : World} {a b : Int} (h : RS w l g x B o W a b) : W.cell? ⟨B, 0, none⟩ = some (.int .i64 o.f0) ∧ W.cell? ⟨B, 1, none⟩ = some (.int .i64 o.f1) ∧ W.cell? ⟨B, 2, none⟩ = some (.int .i64 o.f2) :=
  ⟨(blk_cell h.box 0).trans rfl, (blk_cell h.box 1).trans rfl, (blk_cell h.box 2).trans rfl⟩
theorem RS.new {w W : World} {l : List Int} {g x : Nat} {o : S56} {a b : Int} (hp : IsS81 w W g l a) (hr : IsS54 w W x l b) (hB : Below w.heap.size w W) (hn : g ≠ x) : RS w l g x W.heap.size o (W.alloc (.cells #[.int .i64 o.f0, .int .i64 o.f1, .int .i64 o.f2] 56)) a b :=
  ⟨hp.alloc _, hr.alloc _, by simpa using heap_alloc_new W _, below_alloc hB _, hn, Nat.ne_of_gt hp.lt, Nat.ne_of_gt hr.lt⟩
set_option maxHeartbeats 4000000 in
set_option maxRecDepth 100000 in
theorem dioramalaw01_BitsReads.calls (k : Nat) (A0 : Option Addr) (c0 : Nat) (l0 : List Int) (A1 : Option Addr) (c1 : Nat) (l1 : List S56) (r : Bool) (w : World) (hr0 : Kd.C (Kd.int .u8) w A0 l0.length l0) (hc0 : l0.length ≤ c0) (hr1 : Kd.C k56 w A1 l1.length l1) (hc1 : l1.length ≤ c1) (h : dioramalaw01_BitsReads.f k l0 l1 = some r) :
    Calls Try.prog 9 #[.slice A0 l0.length c0, .slice A1 l1.length c1] w fun e w' => e = .returned (.bool r) ∧ Below w.heap.size w w' := by
  have HR0 := Aside0.mk hr0
  have HC0 := Aside0.mk hc0
  have HR1 := Aside0.mk hr1
  have HC1 := Aside0.mk hc1
  clear hr0 hc0 hr1 hc1
  unfold dioramalaw01_BitsReads.f at h
  by_cases c2 : (l0.length : Int) > 4000
  · rw [if_pos c2] at h
    obtain rfl := Option.some.inj h
    have c2b0 : decide (4000 < (l0.length : Int)) = true := decide_eq_true c2
    have c2b1 : decide (4000 < l0.length) = true := decide_eq_true (by omega)
    clear c2
    go_enter Try.func9, Try.ntmps9
    go_wp2
    go_ret
    exact ⟨rfl, Below.refl _ _⟩
  · rw [if_neg c2] at h
    have c2b0 : decide (4000 < (l0.length : Int)) = false := decide_eq_false c2
    have c2b1 : decide (4000 < l0.length) = false := decide_eq_false (by omega)
    clear c2
    by_cases c3 : (l1.length : Int) > 200
    · rw [if_pos c3] at h
      obtain rfl := Option.some.inj h
      have c3b0 : decide (200 < (l1.length : Int)) = true := decide_eq_true c3
      have c3b1 : decide (200 < l1.length) = true := decide_eq_true (by omega)
      clear c3
      go_enter Try.func9, Try.ntmps9
      go_wp2
      go_ret
      exact ⟨rfl, Below.refl _ _⟩
    · rw [if_neg c3] at h
      have c3b0 : decide (200 < (l1.length : Int)) = false := decide_eq_false c3
      have c3b1 : decide (200 < l1.length) = false := decide_eq_false (by omega)
      have hL := Aside0.mk (show l1.length ≤ 200 by omega)
      clear c3
      obtain ⟨⟨⟩, hl, hw⟩ := Option.bind_eq_some_iff.mp h
      have HL := Aside0.mk hl
      have HW := Aside0.mk hw
      clear h hl hw
      go_enter Try.func9, Try.ntmps9
      go_wp2_with fail
      refine (bits_NewReader.calls A0 c0 l0 l0 0 w _ (by repeat (first | exact Below.refl _ _ | apply pw_below_drewN)) HR0.out HC0.out rfl).mono ?_
      rintro e w1 ⟨g, rfl, hI, hB, hB2⟩
      have HI := Aside0.mk hI
      have HB := Aside0.mk hB
      clear hI hB hB2
      go_wp2_with fail
      go_loopg [7] (l1.length + 1) (fun kq v7 w' => ∃ (i : Nat) (a : Int), v7 = .int .i64 (i : Int) ∧ Aside0 (kq = l1.length - i + 1) ∧ Aside0 (readLoop k l0 a (l1.drop i) = some ()) ∧ Aside0 (IsS81 w w' g l0 a) ∧ Aside0 (IsS54 w w' w1.heap.size l0 a) ∧ Aside0 (Below w.heap.size w w') ∧ Aside0 (g ≠ w1.heap.size))
      case atStart =>
        refine ⟨0, 0, rfl, ⟨rfl⟩, ⟨HL.out⟩, ⟨IsS81.alloc HI.out _⟩, ⟨IsS54.new w w1 A0 c0 l0 0 HB.out HR0.out⟩, ⟨below_alloc HB.out _⟩, ⟨Nat.ne_of_lt HI.out.lt⟩⟩
      case round =>
        obtain ⟨i, a, rfl, HQ, HL', HI', HX, HB', HN⟩ := hrel
        clear HL
        by_cases hi : i < l1.length
        · obtain ⟨a', hs, hl'⟩ := readLoop_at hi a HL'.out
          obtain ⟨ad, e0, x0, x1, x2⟩ := at_T56 (Kd.C_below HR1.out HB'.out) (i : Int) (by omega) (by omega)
          cases e0
          rw [Int.toNat_natCast] at x0 x1 x2
          have hi1 : decide ((i : Int) < (l1.length : Int)) = true := decide_eq_true (by omega)
          have hi2 : decide (i < l1.length) = true := decide_eq_true hi
          have HS := Aside0.mk hs
          have HL2 := Aside0.mk hl'
          clear hs hl' HL'
          generalize rd_T56 l1 (i : Int) = o at x0 x1 x2 HS
          unfold readStep at HS
          have hs := HS.out
          by_cases d0 : o.f0 = 0
          · rw [if_pos d0] at hs
            have d0b : (o.f0 == 0) = true := beq_iff_eq.mpr d0
            clear d0
            obtain ⟨p, hp, hq, rfl⟩ := two_eq hs
            have HP := Aside0.mk hp
            have HQ2 := Aside0.mk hq
            clear hs hp hq HS
            go_wp2_with fail
            have R0 := Aside0.mk (RS.new (o := o) HI'.out HX.out HB'.out HN.out)
            refine (bits_Reader_Get.calls k g l0 a o.f1 p.1 p.2.1 p.2.2 w _ R0.out.p R0.out.bel HP.out).mono ?_
            rintro e w2 ⟨rfl, hI, hB, hK⟩
            have R1 := Aside0.mk (R0.out.stepP hI hB hK)
            clear R0 hI hB hK
            obtain ⟨y0, y1, y2⟩ := R1.out.cells
            go_wp2_with fail
            refine (dioramaref01_Reader_Get.calls k w1.heap.size l0 a o.f1 p.1 p.2.1 p.2.2 w _ R1.out.r R1.out.bel HQ2.out).mono ?_
            rintro e w3 ⟨rfl, hI, hB, hK⟩
            have R2 := Aside0.mk (R1.out.stepR hI hB hK)
            clear R1 hI hB hK y0 y1 y2
            go_wp2_with fail
            obtain ⟨Ax, cx, HGx, _, _⟩ := R2.out.r
            have hx1 := cellS54_1 HGx
            clear HGx
            go_quiet (first | (go_at_call 48; exact Calls.quiet_of (at_quiet R2.out.p)) | (go_at_call 49; exact Calls.quiet_of (left_quiet R2.out.p)) | (go_at_call 50; exact Calls.quiet_of (left_quiet' R2.out.r)))
            go_wp2_with fail
            go_roundg (l1.length - (i + 1) + 1)
            case measure => have := HQ.out; omega
            case rel =>
              have := hL.out
              exact ⟨i + 1, p.2.2, by rw [show wrap64 ((i : Int) + 1) = ((i + 1 : Nat) : Int) from by unfold wrap64; omega], ⟨rfl⟩, HL2, ⟨R2.out.p⟩, ⟨R2.out.r⟩, ⟨pw_below_drewN R2.out.bel _⟩, HN⟩
          · rw [if_neg d0] at hs
            have d0b : (o.f0 == 0) = false := beq_eq_false_iff_ne.mpr d0
            clear d0
            by_cases d1 : o.f0 = 1
            · rw [if_pos d1] at hs
              have d1b : (o.f0 == 1) = true := beq_iff_eq.mpr d1
              clear d1
              obtain ⟨p, hp, hq, rfl⟩ := two_eq hs
              have HP := Aside0.mk hp
              have HQ2 := Aside0.mk hq
              clear hs hp hq HS
              go_wp2_with fail
              have R0 := Aside0.mk (RS.new (o := o) HI'.out HX.out HB'.out HN.out)
              refine (bits_Reader_Unary.calls k g l0 a o.f1 p.1 p.2.1 p.2.2 w _ R0.out.p R0.out.bel HP.out).mono ?_
              rintro e w2 ⟨rfl, hI, hB, hK⟩
              have R1 := Aside0.mk (R0.out.stepP hI hB hK)
              clear R0 hI hB hK
              obtain ⟨y0, y1, y2⟩ := R1.out.cells
              go_wp2_with fail
              refine (dioramaref01_Reader_Unary.calls k w1.heap.size l0 a o.f1 p.1 p.2.1 p.2.2 w _ R1.out.r R1.out.bel HQ2.out).mono ?_
              rintro e w3 ⟨rfl, hI, hB, hK⟩
              have R2 := Aside0.mk (R1.out.stepR hI hB hK)
              clear R1 hI hB hK y0 y1 y2
              go_wp2_with fail
              obtain ⟨Ax, cx, HGx, _, _⟩ := R2.out.r
              have hx1 := cellS54_1 HGx
              clear HGx
              go_quiet (first | (go_at_call 48; exact Calls.quiet_of (at_quiet R2.out.p)) | (go_at_call 49; exact Calls.quiet_of (left_quiet R2.out.p)) | (go_at_call 50; exact Calls.quiet_of (left_quiet' R2.out.r)))
              go_wp2_with fail
              go_roundg (l1.length - (i + 1) + 1)
              case measure => have := HQ.out; omega
              case rel =>
                have := hL.out
                exact ⟨i + 1, p.2.2, by rw [show wrap64 ((i : Int) + 1) = ((i + 1 : Nat) : Int) from by unfold wrap64; omega], ⟨rfl⟩, HL2, ⟨R2.out.p⟩, ⟨R2.out.r⟩, ⟨pw_below_drewN R2.out.bel _⟩, HN⟩
            · rw [if_neg d1] at hs
              have d1b : (o.f0 == 1) = false := beq_eq_false_iff_ne.mpr d1
              clear d1
              by_cases d2 : o.f0 = 2
              · rw [if_pos d2] at hs
                have d2b : (o.f0 == 2) = true := beq_iff_eq.mpr d2
                clear d2
                obtain ⟨p, hp, hq, rfl⟩ := two_eq hs
                have HP := Aside0.mk hp
                have HQ2 := Aside0.mk hq
                clear hs hp hq HS
                go_wp2_with fail
                have R0 := Aside0.mk (RS.new (o := o) HI'.out HX.out HB'.out HN.out)
                refine (bits_Reader_Rice.calls k g l0 a o.f1 o.f2 p.1 p.2.1 p.2.2 w _ R0.out.p R0.out.bel HP.out).mono ?_
                rintro e w2 ⟨rfl, hI, hB, hK⟩
                have R1 := Aside0.mk (R0.out.stepP hI hB hK)
                clear R0 hI hB hK
                obtain ⟨y0, y1, y2⟩ := R1.out.cells
                go_wp2_with fail
                refine (dioramaref01_Reader_Rice.calls k w1.heap.size l0 a o.f1 o.f2 p.1 p.2.1 p.2.2 w _ R1.out.r R1.out.bel HQ2.out).mono ?_
                rintro e w3 ⟨rfl, hI, hB, hK⟩
                have R2 := Aside0.mk (R1.out.stepR hI hB hK)
                clear R1 hI hB hK y0 y1 y2
                go_wp2_with fail
                obtain ⟨Ax, cx, HGx, _, _⟩ := R2.out.r
                have hx1 := cellS54_1 HGx
                clear HGx
                go_quiet (first | (go_at_call 48; exact Calls.quiet_of (at_quiet R2.out.p)) | (go_at_call 49; exact Calls.quiet_of (left_quiet R2.out.p)) | (go_at_call 50; exact Calls.quiet_of (left_quiet' R2.out.r)))
                go_wp2_with fail
                go_roundg (l1.length - (i + 1) + 1)
                case measure => have := HQ.out; omega
                case rel =>
                  have := hL.out
                  exact ⟨i + 1, p.2.2, by rw [show wrap64 ((i : Int) + 1) = ((i + 1 : Nat) : Int) from by unfold wrap64; omega], ⟨rfl⟩, HL2, ⟨R2.out.p⟩, ⟨R2.out.r⟩, ⟨pw_below_drewN R2.out.bel _⟩, HN⟩
              · rw [if_neg d2] at hs
                have d2b : (o.f0 == 2) = false := beq_eq_false_iff_ne.mpr d2
                clear d2
                by_cases d3 : o.f0 = 3
                · rw [if_pos d3] at hs
                  have d3b : (o.f0 == 3) = true := beq_iff_eq.mpr d3
                  clear d3
                  obtain ⟨p, hp, hq, rfl⟩ := two_eq hs
                  have HP := Aside0.mk hp
                  have HQ2 := Aside0.mk hq
                  clear hs hp hq HS
                  go_wp2_with fail
                  have R0 := Aside0.mk (RS.new (o := o) HI'.out HX.out HB'.out HN.out)
                  refine (bits_Reader_Grow.calls k g l0 a  p.1 p.2.1 p.2.2 w _ R0.out.p R0.out.bel HP.out).mono ?_
                  rintro e w2 ⟨rfl, hI, hB, hK⟩
                  have R1 := Aside0.mk (R0.out.stepP hI hB hK)
                  clear R0 hI hB hK
                  obtain ⟨y0, y1, y2⟩ := R1.out.cells
                  go_wp2_with fail
                  refine (dioramaref01_Reader_Grow.calls k w1.heap.size l0 a  p.1 p.2.1 p.2.2 w _ R1.out.r R1.out.bel HQ2.out).mono ?_
                  rintro e w3 ⟨rfl, hI, hB, hK⟩
                  have R2 := Aside0.mk (R1.out.stepR hI hB hK)
                  clear R1 hI hB hK y0 y1 y2
                  go_wp2_with fail
                  obtain ⟨Ax, cx, HGx, _, _⟩ := R2.out.r
                  have hx1 := cellS54_1 HGx
                  clear HGx
                  go_quiet (first | (go_at_call 48; exact Calls.quiet_of (at_quiet R2.out.p)) | (go_at_call 49; exact Calls.quiet_of (left_quiet R2.out.p)) | (go_at_call 50; exact Calls.quiet_of (left_quiet' R2.out.r)))
                  go_wp2_with fail
                  go_roundg (l1.length - (i + 1) + 1)
                  case measure => have := HQ.out; omega
                  case rel =>
                    have := hL.out
                    exact ⟨i + 1, p.2.2, by rw [show wrap64 ((i : Int) + 1) = ((i + 1 : Nat) : Int) from by unfold wrap64; omega], ⟨rfl⟩, HL2, ⟨R2.out.p⟩, ⟨R2.out.r⟩, ⟨pw_below_drewN R2.out.bel _⟩, HN⟩
                · rw [if_neg d3] at hs
                  have d3b : (o.f0 == 3) = false := beq_eq_false_iff_ne.mpr d3
                  clear d3
                  obtain ⟨p, hp, hq, hr⟩ := two_eq (g := fun x => x) hs
                  have hr' : p = a' := hr.symm
                  subst hr'
                  have HP := Aside0.mk hp
                  have HQ2 := Aside0.mk hq
                  clear hs hp hq HS
                  go_wp2_with fail
                  have R0 := Aside0.mk (RS.new (o := o) HI'.out HX.out HB'.out HN.out)
                  refine (bits_Reader_Align.calls g l0 a p w _ R0.out.p R0.out.bel HP.out).mono ?_
                  rintro e w2 ⟨rfl, hI, hB, hK⟩
                  have R1 := Aside0.mk (R0.out.stepP hI hB hK)
                  clear R0 hI hB hK
                  go_wp2_with fail
                  refine (dioramaref01_Reader_Align.calls w1.heap.size l0 a p w _ R1.out.r R1.out.bel HQ2.out).mono ?_
                  rintro e w3 ⟨rfl, hI, hB, hK⟩
                  have R2 := Aside0.mk (R1.out.stepR hI hB hK)
                  clear R1 hI hB hK
                  go_wp2_with fail
                  obtain ⟨Ax, cx, HGx, _, _⟩ := R2.out.r
                  have hx1 := cellS54_1 HGx
                  clear HGx
                  go_quiet (first | (go_at_call 48; exact Calls.quiet_of (at_quiet R2.out.p)) | (go_at_call 49; exact Calls.quiet_of (left_quiet R2.out.p)) | (go_at_call 50; exact Calls.quiet_of (left_quiet' R2.out.r)))
                  go_wp2_with fail
                  go_roundg (l1.length - (i + 1) + 1)
                  case measure => have := HQ.out; omega
                  case rel =>
                    have := hL.out
                    exact ⟨i + 1, p, by rw [show wrap64 ((i : Int) + 1) = ((i + 1 : Nat) : Int) from by unfold wrap64; omega], ⟨rfl⟩, HL2, ⟨R2.out.p⟩, ⟨R2.out.r⟩, ⟨pw_below_drewN R2.out.bel _⟩, HN⟩
        · have hz : l1.drop i = [] := List.drop_eq_nil_of_le (by omega)
          have hi1 : decide ((i : Int) < (l1.length : Int)) = false := decide_eq_false (by omega)
          have hi2 : decide (i < l1.length) = false := decide_eq_false hi
          clear HL' hz
          go_wp2_with fail
          refine (dioramalaw01_awake.calls k r _ HW.out).mono ?_
          rintro e w3 ⟨rfl, hB⟩
          go_wp2_with fail
          go_ret
          exact ⟨rfl, below_step HB'.out hB⟩

end Go.Proofs.Ytlhdfdedhdcmiaa.QBits
