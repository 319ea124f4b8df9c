/- A lemma file: what came in as data (DataW.trod) is read in the words of the kinds (Kd): whole numbers, bools, strings, slices, structs. No condition. -/
import Derived.Test.YtmbhafgnmdfjhaaWWords
import Derived.OpenShut
import Derived.DataElems
namespace Go.Proofs.YtmbhafgnmdfjhaaV
open Go.Proofs.YtmbhafgnmdfjhaaW.PrintWords

structure Opens {α : Type} (P : Program) (d : Kd α) (t : TypeId) (Ok : α → Prop) : Prop where
  sz : P.cellsOf t = d.sz
  go : ∀ {H : Type} {enc : TypeId × Value → H} {w : World} {spare : Nat → Bool} {held : Bool} {fuel : Nat} {cs : List Value} {x : DataW H × List MemPlace}, DataW.trod enc P w 0 spare held fuel t cs = some x → ∃ a : α, d.K w a cs ∧ Ok a

section
variable {P : Program} {t e : TypeId} {α β : Type}
theorem Opens.int {k : IntKind} (ht : P.underlying t = some (.int k)) (hs : P.cellsOf t = 1) : Opens P (Kd.int k) t (fun a => (Lit.int k a).wf = true) := ⟨hs, fun h => by
  obtain ⟨n, rfl, _, hw⟩ := DataW.trod_int ht h
  exact ⟨n, rfl, hw⟩⟩
theorem Opens.bool (ht : P.underlying t = some .bool) (hs : P.cellsOf t = 1) : Opens P Kd.bool t (fun _ => True) := ⟨hs, fun h => by
  obtain ⟨n, rfl, _⟩ := DataW.trod_bool ht h
  exact ⟨n, rfl, trivial⟩⟩
theorem Opens.string (ht : P.underlying t = some .string) (hs : P.cellsOf t = 1) : Opens P Kd.string t (fun a => a.size ≤ maxLen) := ⟨hs, fun h => by
  obtain ⟨n, rfl, _, hw⟩ := DataW.trod_string ht h
  exact ⟨n, rfl, hw⟩⟩
theorem Opens.slice {d : Kd α} {Ok : α → Prop} (ht : P.underlying t = some (.slice e)) (hs : P.cellsOf t = 1) (he : Opens P d e Ok) : Opens P (Kd.slice e d) t (fun l => l.length ≤ maxLen ∧ ∀ x ∈ l, Ok x) := ⟨hs, fun {H enc w spare held fuel cs x} h => by
  rcases DataW.trod_slice ht h with ⟨rfl, _⟩ | ⟨a, len, cap, elems, rest, n, _, rfl, _, _, hl, hm, hel, hc, _, _⟩
  · exact ⟨[], ⟨none, 0, rfl, Nat.le_refl _, ⟨rfl, by simp, fun hp => absurd hp (by simp)⟩⟩, by simp, by simp⟩
  · have hex : ∀ i, i < len → ∃ (p : α) (c : List Value), c.length = d.sz ∧ d.K w p c ∧ Ok p ∧ ∀ j u, c[j]? = some u → w.cell? (a.add (i * d.sz + j)) = some u := by
      intro i hi
      have h1 := hc i hi
      rw [List.getElem?_eq_getElem (by omega)] at h1
      obtain ⟨c, h2, h3⟩ := Option.bind_eq_some_iff.mp h1
      obtain ⟨p, hp, hok⟩ := he.go h3
      refine ⟨p, c, d.K_len hp, hp, hok, fun j u hj => ?_⟩
      unfold World.cells? at h2
      rw [if_pos (Nat.zero_le _)] at h2
      have hjl : j < P.cellsOf e := by
        have := (List.getElem?_eq_some_iff.mp hj).1
        have := d.K_len hp
        have := he.sz
        omega
      have h4 := mapM_some_get h2 j j (by rw [List.getElem?_range hjl])
      rw [hj] at h4
      rw [← he.sz, ← Addr.add_add]
      exact h4
    refine ⟨List.ofFn (fun i : Fin len => (hex i.1 i.2).choose), ⟨some a, cap, by simp, by simpa using hl, ⟨by simp, by simp only [maxLen] at hm; simp; omega, fun _ => ⟨a, rfl, fun j p hj => ?_⟩⟩⟩, by simp; omega, fun x hx => ?_⟩
    · obtain ⟨hj1, hj2⟩ := List.getElem?_eq_some_iff.mp hj
      have hj3 : j < len := by simpa using hj1
      obtain ⟨c, hc1, hc2, _, hc3⟩ := (hex j hj3).choose_spec
      have e : p = (hex j hj3).choose := by rw [← hj2]; simp
      subst e
      exact ⟨c, hc1, hc2, hc3⟩
    · obtain ⟨j, hj1, hj2⟩ := List.mem_iff_getElem.mp hx
      have hj3 : j < len := by simpa using hj1
      obtain ⟨c, _, _, h3, _⟩ := (hex j hj3).choose_spec
      have e : x = (hex j hj3).choose := by rw [← hj2]; simp
      subst e
      exact h3⟩
theorem Opens.iso {d : Kd α} {Ok : β → Prop} (f : β → α) (g : α → β) (hg : ∀ a, f (g a) = a) (h : Opens P d t (fun a => Ok (g a))) : Opens P (Kd.iso d f) t Ok := ⟨h.sz, fun h1 => by
  obtain ⟨a, h2, h3⟩ := h.go h1
  exact ⟨g a, by show d.K _ (f (g a)) _; rw [hg]; exact h2, h3⟩⟩
/-- A struct's fields from one on: the cells from an offset on. -/
structure OpensF {α : Type} (P : Program) (fs : List Field) (o : Nat) (d : Kd α) (Ok : α → Prop) : Prop where
  go : ∀ {H : Type} {enc : TypeId × Value → H} {w : World} {spare : Nat → Bool} {held : Bool} {n : Nat} {cs : List Value}, cs.length = o + d.sz →
    (∀ f ∈ fs, ∃ y, DataW.trod enc P w 0 spare held n f.type ((cs.drop f.offset).take (P.cellsOf f.type)) = some y) → ∃ a : α, d.K w a (cs.drop o) ∧ Ok a
theorem OpensF.last {f : Field} {o : Nat} {d : Kd α} {Ok : α → Prop} (ho : f.offset = o) (h : Opens P d f.type Ok) : OpensF P [f] o d Ok := ⟨fun hl hf => by
  obtain ⟨y, hy⟩ := hf f (by simp)
  obtain ⟨a, h1, h2⟩ := h.go hy
  rw [ho, List.take_of_length_le (by rw [List.length_drop]; have := h.sz; omega)] at h1
  exact ⟨a, h1, h2⟩⟩
theorem OpensF.cons {f : Field} {fs : List Field} {o : Nat} {d : Kd α} {d' : Kd β} {Ok : α → Prop} {Ok' : β → Prop} (ho : f.offset = o) (h : Opens P d f.type Ok) (h' : OpensF P fs (o + d.sz) d' Ok') : OpensF P (f :: fs) o (Kd.pair d d') (fun x => Ok x.1 ∧ Ok' x.2) := ⟨fun {_ _ _ _ _ _ cs} hl hf => by
  obtain ⟨y, hy⟩ := hf f (by simp)
  obtain ⟨a, h1, h2⟩ := h.go hy
  have hl' : cs.length = o + d.sz + d'.sz := by rw [hl]; show o + (d.sz + d'.sz) = _; omega
  obtain ⟨b, h3, h4⟩ := h'.go hl' (fun g hg => hf g (List.mem_cons_of_mem _ hg))
  refine ⟨(a, b), ⟨_, _, ?_, h1, h3⟩, h2, h4⟩
  rw [ho, h.sz, ← List.drop_drop, List.take_append_drop]⟩
theorem Opens.struct {fs : Array Field} {d : Kd α} {Ok : α → Prop} (ht : P.underlying t = some (.struct fs)) (hs : P.cellsOf t = d.sz) (h : OpensF P fs.toList 0 d Ok) : Opens P d t Ok := ⟨hs, fun h1 => by
  obtain ⟨xs, n, _, _, hl, hx, hf⟩ := DataW.trod_struct ht h1
  obtain ⟨a, h2, h3⟩ := h.go (by rw [hl, hs]; omega) (fun f hm => by
    obtain ⟨i, hi, rfl⟩ := List.mem_iff_getElem.mp hm
    have := hf i _ (by rw [← Array.getElem?_toList, List.getElem?_eq_getElem hi])
    rw [this, List.getElem?_eq_getElem (by rw [hx]; simpa using hi)]
    exact ⟨_, rfl⟩)
  exact ⟨a, h2, h3⟩⟩
theorem Opens.array {n : Nat} {fs : List Field} {d : Kd α} {Ok : α → Prop} (ht : P.underlying t = some (.array n e)) (hs : P.cellsOf t = d.sz) (hfs : ∀ f ∈ fs, ∃ i, i < n ∧ f.type = e ∧ f.offset = i * P.cellsOf e) (h : OpensF P fs 0 d Ok) : Opens P d t Ok := ⟨hs, fun h1 => by
  obtain ⟨xs, m, _, _, hl, hx, hf⟩ := DataW.trod_array ht h1
  obtain ⟨a, h2, h3⟩ := h.go (by rw [hl, hs]; omega) (fun f hm => by
    obtain ⟨i, hi, e1, e2⟩ := hfs f hm
    have := hf i hi
    rw [e1, e2, this, List.getElem?_eq_getElem (by omega)]
    exact ⟨_, rfl⟩)
  exact ⟨a, h2, h3⟩⟩
end
theorem okWide_array {P : Program} {w : World} {base : Nat} {v : Value} {t e : TypeId} {n : Nat} {r} (ht : P.underlying t = some (.array n e)) (h : Value.okWide P w r base t v) : ∃ cs, v = .agg cs ∧ cs.size = P.cellsOf t := by
  simp only [Value.okWide, ht] at h
  obtain ⟨cs, h1, h2, _⟩ := h
  exact ⟨cs, h1, h2⟩
/-- A parameter, opened. -/
theorem Opens.param {P : Program} {α : Type} {d : Kd α} {t : TypeId} {Ok : α → Prop} (h : Opens P d t Ok) {H : Type} {enc : TypeId × Value → H} {W : World} {v : Value} {y : DataW H} {ps : List MemPlace} (hr : DataW.Trod enc P W 0 (fun _ => true) true t v y ps) : ∃ a : α, d.K W a v.cells.toList ∧ Ok a := by
  obtain ⟨fuel, hf⟩ := hr
  exact h.go hf
end Go.Proofs.YtmbhafgnmdfjhaaV
