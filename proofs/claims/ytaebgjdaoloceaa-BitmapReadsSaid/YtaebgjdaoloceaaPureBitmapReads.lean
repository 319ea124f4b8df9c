/- What is proved: the page of any bytes, or the error, is the chapter's. This text: the statement about numbers and lists alone. No condition. -/
import Derived.Test.YtaebgjdaoloceaaPDecR
import Derived.Test.YtaebgjdaoloceaaPEqi
import Derived.Test.YtaebgjdaoloceaaPAwake19
import Derived.Test.YtaebgjdaoloceaaQBmpRx6
namespace Go.Proofs.Ytaebgjdaoloceaa.Pure
open Go.RowKit Go.Proofs.Ytaebgjdaoloceaa.QBmpR Go.Proofs.YtaebgjdaoloceaaW.PrintWords Go.Proofs.YtaebgjdaoloceaaV Go.Proofs.Ytaebgjdaoloceaa.PureB
theorem eqpage_ev {a : Bool} {l : List Int} {u : List S91} (hl : l.length ≤ 9223372036854775807) : Ev (fun k => dioramaref00_EqPage.f k a l u a l u) true := by
  unfold dioramaref00_EqPage.f dioramaref00_EqPatches.f
  simp only [beq_self_eq_true, if_true]
  refine Ev.bind (Go.Proofs.Ytaebgjdaoloceaa.PureI.eqi_ev hl) ?_
  simp only [decide_true, if_true, Option.bind_some, patEq_refl]
  exact Ev.now _
theorem palS_len {cl : Bool} : ∀ (m : Nat) (u acc : List Int), (palS cl m u acc).2.1.length ≤ acc.length + m
  | 0, u, acc => by
    rw [palS]
    cases u with
    | nil => simp [tailS]
    | cons c t =>
      rw [tailS]
      split
      · simp
      · unfold endS
        split
        · split <;> simp
        · simp
  | m + 1, u, acc => by
    rw [palS]
    split
    · simp
    · have := palS_len (cl := cl) m (u.drop 3) (acc ++ [numS (u.take 3)])
      simp at this
      omega
theorem decS_len (l : List Int) : (decS l).2.1.length ≤ 16 := by
  unfold decS bodyS
  split
  · simp
  · split
    · split
      · simp
      · split
        · simp
        · rename_i h1 h2
          have := palS_len (cl := rd (l.take (l.length - 4)) 0 == 1) (rd (l.take (l.length - 4)) 1).toNat ((l.take (l.length - 4)).drop 2) []
          simp at this
          omega
    · simp
theorem BitmapReads : ∀ (l0 : List Int), l0.length ≤ maxLen → (∀ y ∈ l0, (Lit.int .u8 y).wf = true) → ∃ k, dioramalaw19_BitmapReads.f k l0 = some true := by
  intro l0 hm hw
  by_cases hl : (l0.length : Int) > 20000
  · exact ⟨0, by unfold dioramalaw19_BitmapReads.f; rw [if_pos hl]⟩
  · have hb : Bs l0 := fun y hy => u8b (hw y hy)
    refine Ev.rounds (r := true) ?_
    unfold dioramalaw19_BitmapReads.f
    simp only [if_neg hl]
    refine Ev.bind (dec_ev hb (by omega)) (Ev.bind (rdec_ev hb (by omega)) ?_)
    simp only [if_true]
    refine Ev.bind (eqpage_ev (by have := decS_len l0; omega)) ?_
    simp only [if_true]
    exact Ev.bind ev_awake (Ev.now _)
end Go.Proofs.Ytaebgjdaoloceaa.Pure
