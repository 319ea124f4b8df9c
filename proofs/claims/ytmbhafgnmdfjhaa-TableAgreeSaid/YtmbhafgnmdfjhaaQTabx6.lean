/- Part of a proof: functions of the program as Lean functions, and that the machine's calls come to them. Made by a program of this session (wip/mp). -/
import Derived.Test.YtmbhafgnmdfjhaaQTabx0
import Derived.Test.YtmbhafgnmdfjhaaQTabx5
namespace Go.Proofs.Ytmbhafgnmdfjhaa.QTab
open Go.RowKit Go.Proofs.YtmbhafgnmdfjhaaV Go.Proofs.YtmbhafgnmdfjhaaW.PrintWords Go.Proofs.YtmbhafgnmdfjhaaW.PrintLast Go.Proofs.YtmbhafgnmdfjhaaW.PrintMore
attribute [local go_sem] max2_int min2_int max_two min_two max_three min_three max_four min_four   -- for this text's walks alone
set_option linter.unusedVariables false
set_option linter.unusedSimpArgs false

/-! ### slices_Repeat_int_int: function 93 -/
theorem mul_one_f (n : Int) (h0 : 0 ≤ n) (h1 : n ≤ 1099511627776) : bits_Mul.f 1 n = some (0, n) := by
  have m1 : Go.bits .and .u64 1 4294967295 = 1 := by decide +kernel
  have m0 : Go.bits .and .u64 0 4294967295 = 0 := by decide +kernel
  have m2 : Go.bits .and .u64 n 4294967295 = n % 4294967296 := by
    have := bits_mask .u64 64 (by decide) (fun n h h' => by rw [IntKind.wrap_u64]; omega) 32 (by decide) n h0 (by omega)
    simpa using this
  unfold bits_Mul.f bits_Mul64.f
  rw [m1, m2, show (1 : Int) / 4294967296 = 0 from rfl]
  simp only [Int.zero_mul, Int.one_mul, IntKind.wrap_u64, Option.bind_some]
  have e1 : (0 % 18446744073709551616 + n % 4294967296 % 18446744073709551616 / 4294967296) % 18446744073709551616 = 0 := by omega
  rw [e1, m0]
  congr 2
  · omega
  · omega
theorem rep_splice {c : Int} {k : Nat} (cur : List Value) (hc : cur.take k = List.replicate k (.int .i64 c)) (hk : k ≤ cur.length) (m : Nat) (hm : k + m ≤ cur.length) :
    (splice cur k (List.replicate m (.int .i64 c))).take (k + m) = List.replicate (k + m) (.int .i64 c) ∧ (splice cur k (List.replicate m (.int .i64 c))).length = cur.length := by
  refine ⟨?_, length_splice _ _ _ (by simp; omega)⟩
  unfold splice
  rw [hc, ← List.append_assoc, List.replicate_append_replicate]
  have := List.take_left (l₁ := List.replicate (k + m) (Value.int .i64 c)) (l₂ := List.drop (k + (List.replicate m (Value.int .i64 c)).length) cur)
  rwa [List.length_replicate] at this
set_option maxRecDepth 100000 in
set_option maxHeartbeats 2000000 in
theorem rep_calls {w : World} (A0 : Option Addr) (c0 : Nat) (l0 : List Int) (c : Int) (hl0 : l0 = [c]) (hr0 : Kd.C (Kd.int .i64) w A0 l0.length l0) (n : Int) (h0 : 1 ≤ n) (h1 : n ≤ 1099511627776) :
    Calls Try.prog 93 #[.slice A0 l0.length c0, .int .i64 n] w fun e w' => ∃ v, e = .returned v ∧ Kd.R (Kd.int .i64) 3 w' w.heap.size (fun _ => True) v (List.replicate n.toNat c) ∧ Below w.heap.size w w' := by
  subst hl0
  have info3 : (Try.prog.info? 3).map (fun i => (i.zero, i.size, i.bytes)) = some (some (.int .i64 0), 1, 8) := by kernel_rfl
  obtain ⟨i0, hi, hz0, hsz, hby⟩ := info_parts info3
  have hsz1 : (Try.prog.info? 3).map (·.size) = some 1 := by rw [hi]; simp [hsz]
  obtain ⟨N, rfl⟩ := Int.eq_ofNat_of_zero_le (show 0 ≤ n by omega)
  have HN1 : Aside0 (1 ≤ N) := ⟨by omega⟩
  have HS1 := Aside0.mk hsz1
  clear hsz1
  obtain ⟨ad, e0, x0⟩ := Kd.at_int hr0 0 (by omega) (by simp)
  cases e0
  have HX : Aside0 (w.cell? ad = some (.int .i64 c)) := ⟨x0⟩
  have e1 : IntKind.u64.wrap ((1 : Int)) = 1 := by decide +kernel
  have e2 : IntKind.u64.wrap (N : Int) = (N : Int) := by rw [IntKind.wrap_u64]; omega
  have e3 : IntKind.i64.wrap (N : Int) = (N : Int) := by rw [IntKind.wrap_i64]; omega
  have e4 : wrap64 (N : Int) = (N : Int) := by unfold wrap64; omega
  have d0 : decide ((N : Int) < 0) = false := decide_eq_false (by omega)
  have d1 : decide ((9223372036854775807 : Int) < (N : Int)) = false := decide_eq_false (by omega)
  have d2 : decide (9223372036854775807 < N) = false := decide_eq_false (by omega)
  have HN : Aside0 (N ≤ 1099511627776) := ⟨by omega⟩
  have HM := Aside0.mk (mul_one_f (N : Int) (by omega) (by omega))
  rw [Int.toNat_natCast]
  clear hr0 x0 h0 h1
  rw [show ([c] : List Int).length = 1 from rfl]
  go_enter Try.func93, Try.ntmps93
  go_wp2_with fail
  refine (bits_Mul.calls 1 (N : Int) 0 (N : Int) _ HM.out).mono ?_
  rintro e w1 ⟨rfl, ⟨n1, rfl⟩⟩
  go_wp2_with (first
    | ((with_reducible refine gate_dst (N := 30) rfl ?_); refine Kd.R_make (Kd.int .i64) (w0 := w) w.heap.size 3 rfl (N := 30) rfl 23 _ _ rfl (N : Int) rfl rfl Try.underlying23 (.int .i64 0) 8 info3 rfl (by decide) (by omega) 0 (ok := fun _ => True) (okp := fun _ => True) rfl (fun _ hk => hk) trivial (by omega) (by have := HN.out; omega) (pw_below_drewN (Below.refl _ _) n1) (Nat.le_refl _) ?_; intro v1 w4 ho hb hg hnew; have HO := Aside0.mk (Kd.own_of_R ho); have HB := Aside0.mk hb; clear ho hb hg hnew; have HX4 := Aside0.mk ((HB.out.cell (World.block_lt_of_cell? w _ HX.out)).trans HX.out); obtain ⟨ol, oc⟩ := HO.out; rcases oc with ⟨rfl, oz⟩ | ⟨g, cap, cur, rfl, og, oh, ole, olm, osz, otk⟩; (exfalso; have := HN1.out; simp at oz; omega); have OG := Aside0.mk og; have OH := Aside0.mk oh; have OLE : Aside0 (N ≤ cap ∧ cap = cur.toList.length) := ⟨⟨by simpa using ole, by rw [← Array.length_toList] at osz; omega⟩⟩; have OLM := Aside0.mk olm; clear HO ol og oh ole olm osz otk; rw [List.length_replicate, Int.toNat_natCast])
    | (refine wpList_copy_splice rfl (.tmp 31) (.tmp 32) 23 23 rfl 3 Try.underlying23 HS1.out (some ⟨g, 0, none⟩) (some ad) N cap 1 c0 rfl rfl g 0 cur.toList 3 (by simpa using OH.out) [.int .i64 c] (by have h_ := HN1.out; exact (Nat.min_eq_left h_).symm) (fun _ => ⟨rfl, ad, rfl, fun j v hj => by
        cases j with
        | zero => simp at hj; subst hj; exact HX4.out
        | succ j => simp at hj⟩) (by have h1_ := HN1.out; have h2_ := OLE.out; show 0 + 1 ≤ cur.toList.length; omega) (by simp [Value.oneCell']) w.heap.size w HB.out OG.out ?_; intro w5 hh5 hb5; have H5 := Aside0.mk hh5.out; have B5 := Aside0.mk hb5; clear hh5 hb5))
  have HK1 := rep_splice (c := c) (k := 0) cur.toList (by simp) (Nat.zero_le _) 1 (by have h1_ := HN1.out; have h2_ := OLE.out; show 0 + 1 ≤ cur.toList.length; omega)
  rw [show List.replicate 1 (Value.int .i64 c) = [.int .i64 c] from rfl, Nat.zero_add] at HK1
  have HK2 := Aside0.mk HK1
  clear HK1 e1 e2 e3 e4 d0 d1 d2
  go_loopg [8] N (fun kq v8 w' => ∃ (k : Nat) (cu : List Value), v8 = .int .i64 (k : Int) ∧ Aside0 (kq = N - k + 1) ∧ Aside0 (1 ≤ k ∧ k ≤ N) ∧ Aside0 (w'.heap[g]? = some (.cells cu.toArray 3 (0, 0))) ∧ Aside0 (cu.take k = List.replicate k (.int .i64 c) ∧ cu.length = cap) ∧ Aside0 (Below w.heap.size w w'))
  case atStart => exact ⟨1, _, rfl, ⟨by have := HN1.out; omega⟩, ⟨by have := HN1.out; omega⟩, H5, ⟨⟨HK2.out.1, by rw [HK2.out.2, OLE.out.2]⟩⟩, B5⟩
  case round =>
    obtain ⟨k, cu, rfl, HQ, HK, HH, HC, HBW⟩ := hrel
    by_cases hk : k < N
    · have x1 : decide ((k : Int) < (N : Int)) = true := decide_eq_true (by omega)
      have x2 : decide (k < N) = true := decide_eq_true hk
      obtain ⟨m, hm⟩ : ∃ m, Nat.min k (N - k) = m := ⟨_, rfl⟩
      have HM := Aside0.mk hm
      have HML : Aside0 (1 ≤ m ∧ m ≤ k ∧ k + m ≤ N) := ⟨by have := HK.out; have h2 := hm; simp only [Nat.min_def] at h2; split at h2 <;> omega⟩
      have HKN := Aside0.mk hk
      have hcut1 := cut_from (P := Try.prog) 23 3 .i64 Try.underlying23 hi 1 hsz (some ⟨g, 0, none⟩) N cap (k : Int) (by omega) (by omega)
      have hcut2 := cut_to (P := Try.prog) 23 3 .i64 Try.underlying23 hi (some ⟨g, 0, none⟩) N cap (k : Int) (by omega) (by omega) OLE.out.1
      rw [Int.toNat_natCast] at hcut2
      rw [Int.toNat_natCast, if_neg (by have := OLE.out; omega), show Option.map (fun x : Addr => x.add (k * 1)) (some ⟨g, 0, none⟩) = some ⟨g, k, none⟩ from by
          have h_ := HK.out
          simp only [Option.map_some, Nat.mul_one, Addr.add, if_neg (show ¬ k = 0 by omega), Nat.zero_add]] at hcut1
      have e5 : wrap64 ((k : Int) + (m : Int)) = ((k + m : Nat) : Int) := by have := HN.out; have := HML.out; unfold wrap64; omega
      have E7 : Aside0 (IntKind.i64.wrap ((k : Int) + (m : Int)) = ((k + m : Nat) : Int)) := ⟨by rw [IntKind.wrap_i64]; have := HN.out; have := HML.out; omega⟩
      clear hm hk
      go_wp2_with fail
      have HPOS : Aside0 (∀ (j : Nat) (v : Value), (List.replicate m (Value.int .i64 c))[j]? = some v → wr.cell? ((⟨g, 0, none⟩ : Addr).add j) = some v) := ⟨fun j v hj => by
        have hjm : j < m := by have := (List.getElem?_eq_some_iff.1 hj).1; simpa using this
        have hv : v = .int .i64 c := by simpa [List.getElem?_replicate, hjm] using hj.symm
        have e6 : (⟨g, 0, none⟩ : Addr).add j = ⟨g, j, none⟩ := by unfold Addr.add; split <;> simp_all
        rw [e6, hv]
        have h2 : cu[j]? = some (.int .i64 c) := by
          have h3 : (cu.take k)[j]? = some (.int .i64 c) := by rw [HC.out.1]; simp [List.getElem?_replicate]; have := HML.out; omega
          rwa [List.getElem?_take_of_lt (by have := HML.out; omega)] at h3
        exact (blk_cell (cs := cu.toArray) (t := 3) HH.out j).trans (by simpa using h2)⟩
      have KEEP : Aside0 (Below w.heap.size w wr.drew) := ⟨below_drew HBW.out⟩
      go_region_held3 (fun w' => Below w.heap.size w w') (first | exact KEEP.out | go_keep) (first | (refine step_copy_splice rfl (.tmp 41) (.tmp 44) 23 23 rfl 3 Try.underlying23 HS1.out (some ⟨g, k, none⟩) (some ⟨g, 0, none⟩) (N - k) (cap - k) k cap rfl rfl g k cu 3 HH.out (List.replicate m (.int .i64 c)) (by rw [List.length_replicate]; exact HM.out.symm) (fun _ => ⟨rfl, ⟨g, 0, none⟩, rfl, HPOS.out⟩) (by rw [List.length_replicate]; have h1_ := HML.out; have h2_ := HC.out.2; have h3_ := OLE.out.1; omega) (by intro v hv; rw [List.eq_of_mem_replicate hv]; rfl) w.heap.size w (by first | exact HBW.out | exact below_drew HBW.out) OG.out ?_; intro w6 hh6 hb6; have H6 := Aside0.mk hh6.out; have B6 := Aside0.mk hb6; clear hh6 hb6; rw [show goInt (List.replicate m (Value.int .i64 c)).length = .int .i64 (m : Int) from by simp [goInt]]; have KEEP := B6))
      all_goals (
        go_wp2_with fail
        go_roundg (N - (k + m) + 1)
        case measure => have := HQ.out; have := HML.out; omega
        case rel =>
          have h4 := rep_splice (c := c) (k := k) cu HC.out.1 (by have h2_ := HC.out.2; have h3_ := OLE.out.1; have h1_ := HML.out; omega) m (by have h1_ := HML.out; have h2_ := HC.out.2; have h3_ := OLE.out.1; omega)
          exact ⟨k + m, _, by first | rw [e5] | rw [E7.out], ⟨rfl⟩, ⟨by have := HML.out; omega⟩, H6, ⟨⟨h4.1, by rw [h4.2]; exact HC.out.2⟩⟩, B6⟩)
    · have x1 : decide ((k : Int) < (N : Int)) = false := decide_eq_false (by omega)
      have x2 : decide (k < N) = false := decide_eq_false hk
      have hkN : k = N := by have := HK.out; omega
      subst hkN
      clear hk
      go_wp2_with fail
      go_ret
      refine ⟨_, rfl, Kd.R_of_own (h1 := fun _ => rfl) ?_ (fun _ _ => trivial), HBW.out⟩
      rw [List.length_replicate]
      refine ⟨by simp [encs], .inr ⟨g, cap, cu.toArray, rfl, OG.out, HH.out, OLE.out.1, OLM.out, by have := HC.out.2; simp; omega, ?_⟩⟩
      simpa [encs] using HC.out.1
def slices_Repeat_int_int.f (l0 : List Int) (a1 : Int) : Option (List Int) := if l0.length = 1 then (if 1 ≤ a1 then (if a1 ≤ 1099511627776 then some (List.replicate a1.toNat (rd l0 0)) else none) else none) else none
theorem slices_Repeat_int_int.calls (A0 : Option Addr) (c0 : Nat) (l0 : List Int) (a1 : Int) (r : List Int) (w : World) (hr0 : Kd.C (Kd.int .i64) w A0 l0.length l0) (hc0 : l0.length ≤ c0) (h : slices_Repeat_int_int.f l0 a1 = some r) :
    Calls Try.prog 93 #[.slice A0 l0.length c0, .int .i64 a1] w fun e w' => ∃ v0_ : Value, e = .returned (v0_) ∧ Kd.R (Kd.int .i64) 3 w' w.heap.size (fun _ => True) v0_ r ∧ Below w.heap.size w w' := by
  unfold slices_Repeat_int_int.f at h
  by_cases h1 : l0.length = 1
  · by_cases h2 : 1 ≤ a1
    · by_cases h3 : a1 ≤ 1099511627776
      · rw [if_pos h1, if_pos h2, if_pos h3] at h
        obtain rfl := Option.some.inj h
        match l0, h1 with
        | [c], _ => exact rep_calls A0 c0 [c] c rfl hr0 a1 h2 h3
      · rw [if_pos h1, if_pos h2, if_neg h3] at h; cases h
    · rw [if_pos h1, if_neg h2] at h; cases h
  · rw [if_neg h1] at h; cases h

/-! ### table_values: function 46 -/
def table_values.l0 : Nat → List Int → List (S83) → Int → Int → Option (List Int)
 | 0,_,_,_,_=>none
 | k+1,x3,x6,x7,x8=>if x8 < x7 then (if 0≤x8 then (if x8 < (x6.length:Int) then ((slices_Repeat_int_int.f (([(rd_T83 x6 x8).f1]:List Int)) ((rd_T83 x6 x8).f0)).bind fun t118=>(if x3.length+t118.length < 17592186044416 then (table_values.l0 k (x3 ++ t118) x6 x7 (wrap64 (x8+1))) else (none))) else (none)) else (none)) else (some x3)
def table_values.f (k : Nat) (l0 : List (S83)) : Option (List Int) := table_values.l0 k ([] : List Int) l0 (l0.length : Int) 0
theorem table_values.mono_l:∀ k,(∀ y0 y1 y2 y3,LeO (table_values.l0 k y0 y1 y2 y3) (table_values.l0 (k+1) y0 y1 y2 y3))
 | 0=>fun _ _ _ _ r h=>by simp [table_values.l0] at h
 | k+1=>by
  have ih0:=table_values.mono_l k
  · intro y0 y1 y2 y3
    unfold table_values.l0
    repeat' first
    | (with_reducible exact ih0 _ _ _ _)
    | (with_reducible exact LeO.refl _)
    | (with_reducible exact LeO.none _)
    | (with_reducible refine LeO.ite ?_ ?_)
    | (with_reducible refine LeO.bind ?_ (fun _=>?_))
    | exact LeO.none _
    | refine LeO.ite ?_ ?_
    | refine LeO.bind ?_ (fun _=>?_)
theorem table_values.mono:∀ a0 k,LeO (table_values.f k a0) (table_values.f (k+1) a0):=by
 intro a0 k
 have ih0:=table_values.mono_l k
 unfold table_values.f
 repeat' first
  | (with_reducible exact ih0 _ _ _ _)
  | (with_reducible exact LeO.refl _)
  | (with_reducible exact LeO.none _)
  | (with_reducible refine LeO.ite ?_ ?_)
  | (with_reducible refine LeO.bind ?_ (fun _=>?_))
  | exact LeO.none _
  | refine LeO.ite ?_ ?_
  | refine LeO.bind ?_ (fun _=>?_)
set_option maxHeartbeats 8000000 in
set_option maxRecDepth 100000 in
theorem table_values.calls (k:Nat) (A0:Option Addr) (c0:Nat) (l0:List (S83)) (r:List Int) (w:World) (hr0:Kd.C k83 w A0 l0.length l0) (hc0:l0.length≤c0) (h:table_values.f k l0=some r) :
 Calls Try.prog 46 #[.slice A0 l0.length c0] w fun e w'=>∃ v0_:Value,e=.returned (v0_)∧Kd.R (Kd.int .i64) 3 w' w.heap.size (fun _=>True) v0_ r∧Below w.heap.size w w':=by
 have hu83:=Try.underlying83
 have HR0:=Aside0.mk hr0
 have HC0:=Aside0.mk hc0;clear hr0 hc0;have HB:=Aside0.mk (Below.refl w.heap.size w)
 have H:(table_values.l0 k ([]:List Int) l0 (l0.length:Int) 0)=some r:=h;clear h
 have H':=Aside0.mk H;clear H
 go_enter Try.func46,Try.ntmps46
 go_wp2
 go_loopg [3,8] k (fun kq v3 v8 w'=>∃ (x3_1:List Int) (x8_1:Int),v8=.int .i64 x8_1∧Aside0 (table_values.l0 kq x3_1 l0 (l0.length:Int) x8_1=some r)∧Aside0 (kq≤k)∧Aside0 (Kd.R (Kd.int .i64) 3 w' w.heap.size (fun _=>True) v3 x3_1)∧Aside0 (Below w.heap.size w w'))
 case atStart=>exact ⟨(([]:List Int)),(0),okV,H',⟨Nat.le_refl _⟩,⟨by first|exact Kd.R_nil _ _ _ _ _|exact Kd.N_nil _ _ _ _ _|exact Kd.V_nil _ _ _ _ _|exact Kd.Q_nil _ _ _ _ _|exact Kd.S_nil _ _ _ _ _⟩,⟨belV HB.out⟩⟩
 case round =>
  clear H'
  obtain ⟨x3_1,x8_1,rfl,HA,HK1,HO_3,HB⟩:=hrel
  cases gk with
  | zero=>exact absurd HA.out (by simp [table_values.l0])
  | succ k1 =>
   have H:=HA.out;clear HA
   simp only [table_values.l0] at H
   by_cases c2:x8_1 < (l0.length:Int)
   · rw [if_pos c2] at H
     have c2b0:decide (x8_1 < (l0.length:Int))=true:=decide_eq_true c2;clear c2
     by_cases c3:0≤x8_1
     · rw [if_pos c3] at H
       have c3b0:decide (0≤x8_1)=true:=decide_eq_true c3;clear c3
       by_cases c4:x8_1 < (l0.length:Int)
       · rw [if_pos c4] at H
         have c4b0:decide (x8_1 < (l0.length:Int))=true:=decide_eq_true c4;clear c4
         obtain ⟨y115,hy115⟩:∃ y_:List Int,y_=(([(rd_T83 l0 x8_1).f1]:List Int)):=⟨_,rfl⟩
         replace H:((slices_Repeat_int_int.f y115 ((rd_T83 l0 x8_1).f0)).bind fun t118=>(if x3_1.length+t118.length < 17592186044416 then (table_values.l0 k1 (x3_1 ++ t118) l0 (l0.length:Int) (wrap64 (x8_1+1))) else (none)))=some r:=by first|(rw [hy115];with_reducible exact H)|(have H2_:=(Option.bind_some _ _).symm.trans H;rw [hy115];with_reducible exact H2_)|(have H2_:=(Option.bind_some _ _).symm.trans H;with_reducible exact H2_)|with_reducible exact H|(rw [hy115];exact H)|exact H
         have Ny115:=Aside0.mk hy115;clear hy115
         replace H:=Option.bind_eq_some_iff.mp H
         obtain ⟨t118,A50,H⟩:=H
         replace H:(if x3_1.length+t118.length < 17592186044416 then (table_values.l0 k1 (x3_1 ++ t118) l0 (l0.length:Int) (wrap64 (x8_1+1))) else (none))=some r:=H
         have A5:=Aside0.mk A50;clear A50
         by_cases c6:x3_1.length+t118.length < 17592186044416
         · rw [if_pos c6] at H
           have LMc6:=Aside0.mk c6;clear c6
           obtain ⟨y121,hy121⟩:∃ y_:List Int,y_=(x3_1 ++ t118):=⟨_,rfl⟩
           replace H:(table_values.l0 k1 y121 l0 (l0.length:Int) (wrap64 (x8_1+1)))=some r:=by first|(rw [hy121];with_reducible exact H)|(have H2_:=(Option.bind_some _ _).symm.trans H;rw [hy121];with_reducible exact H2_)|(have H2_:=(Option.bind_some _ _).symm.trans H;with_reducible exact H2_)|with_reducible exact H|(rw [hy121];exact H)|exact H
           have Ny121:=Aside0.mk hy121;clear hy121
           have H':=Aside0.mk H;clear H
           have p113:0≤(x8_1:Int):=of_decide_eq_true asV
           have q113:x8_1 < (l0.length:Int):=of_decide_eq_true asV
           obtain ⟨ad113,e113,hx113_0,hx113_1⟩:=at_T83 HR0.out x8_1 p113 q113
           cases e113
           replace hx113_0:=(HB.out.cell (World.block_lt_of_cell? w _ hx113_0)).trans hx113_0
           replace hx113_1:=(HB.out.cell (World.block_lt_of_cell? w _ hx113_1)).trans hx113_1
           replace p113:=eq_true p113
           replace q113:=eq_true q113
           go_wp2_with (first|((with_reducible refine gate_dst (N:=5) rfl ?_);refine box_event ?hg (N:=5) ?hd (cs:=#[.int .i64 0,.int .i64 0]) (t:=83) ?hr ?_;(case hd=>rfl);(case hg=>rfl);(case hr=>first|(go_simp;done)|(go_simp;rfl));intro gb114 hg w7 hbox hb;have n0_:=Aside0.mk (Kd.R_below (rowV HO_3.out) hb);have n1_:=Aside0.mk (below_step (belV HB.out) hb);have n2_:=Aside0.mk (hbox);have n3_:=Aside0.mk ((by rw [hg];exact (below_size (belV HB.out)):w.heap.size≤gb114));have n4_:=Aside0.mk ((by rw [hg];exact (below_size (belV HB.out)):w.heap.size≤gb114));clear HO_3;clear HB;have HO_3:=n0_;have HB:=n1_;have BK114:=n2_;have GW114:=n3_;have GE114:=n4_;clear n0_ n1_ n2_ n3_ n4_;clear hb hbox hg;obtain ⟨hcz8_0,hcz8_1,hfz8_0,hfz8_1⟩:=bcells2 BK114.out)|((with_reducible refine gate_dst (N:=15) rfl ?_);refine Kd.R_lit (Kd.int .i64) _ 3 ?hg (N:=15) ?hd (xs:=([(rd_T83 l0 x8_1).f1]:List Int)) (inner:=[.int .i64 ((rd_T83 l0 x8_1).f1)]) (ok:=fun _=>True) (okp:=fun _=>True) ?hr ?hp (fun _ hk=>hk) trivial (Below.refl _ _) (Nat.le_refl _) (by simp) ?_;(case hd=>rfl);(case hg=>rfl);(case hr=>first|(go_simp;done)|(go_simp;rfl));(case hp=>exact (Reps.one (show Kd.M (Kd.int .i64) _ _ _ ((rd_T83 l0 x8_1).f1) [.int .i64 ((rd_T83 l0 x8_1).f1)] from rfl) (Reps.none _ _)));intro v116 w9 ho10 hb hg_ hnew_;clear hg_ hnew_;(first|rw [← Ny115.out] at ho10|(simp only [Int.reduceToNat] at ho10;rw [← Ny115.out] at ho10));have n0_:=Aside0.mk (Kd.R_elder' (by (with_reducible repeat (first|apply Kd.R_alloc|apply Kd.R_drewN|apply Kd.R_drew));exact (Kd.R_mono (Kd.R_far (p:=⟨gb114,1,none⟩) (Kd.R_far (p:=⟨gb114,0,none⟩) (Kd.R_types HO_3.out BK114.out (by decide)) (fun _ hk=>hk.2) (.int .i64 ((rd_T83 l0 x8_1).f0))) (fun _ hk=>hk.2) (.int .i64 ((rd_T83 l0 x8_1).f1))) (fun _ h_=>h_.1))) (Kd.R_base ho10) hb);have n1_:=Aside0.mk (Kd.R_lower (Kd.R_new' ho10 (Kd.R_lt (by (with_reducible repeat (first|apply Kd.R_alloc|apply Kd.R_drewN|apply Kd.R_drew));exact (Kd.R_mono (Kd.R_far (p:=⟨gb114,1,none⟩) (Kd.R_far (p:=⟨gb114,0,none⟩) (Kd.R_types HO_3.out BK114.out (by decide)) (fun _ hk=>hk.2) (.int .i64 ((rd_T83 l0 x8_1).f0))) (fun _ hk=>hk.2) (.int .i64 ((rd_T83 l0 x8_1).f1))) (fun _ h_=>h_.1))))) (below_size (belV1 HB.out GE114.out)));have n2_:=Aside0.mk (blk_below (g:=gb114) (o:=.cells #[.int .i64 ((rd_T83 l0 x8_1).f0),.int .i64 ((rd_T83 l0 x8_1).f1)] 83 (0,0)) (by (with_reducible repeat (first|refine blk_drewN ?_ _|refine blk_drew ?_|refine blk_alloc ?_ _));refine blk_put (cs:=#[.int .i64 ((rd_T83 l0 x8_1).f0),.int .i64 0]) ?_ 1 _ rfl;(with_reducible repeat (first|refine blk_drewN ?_ _|refine blk_drew ?_|refine blk_alloc ?_ _));refine blk_put (cs:=#[.int .i64 0,.int .i64 0]) ?_ 0 _ rfl;(with_reducible repeat (first|refine blk_drewN ?_ _|refine blk_drew ?_|refine blk_alloc ?_ _));exact BK114.out) hb);have n3_:=Aside0.mk (below_step (belV1 HB.out GE114.out) hb);clear HO_3;clear BK114;clear HB;have HO_3:=n0_;have HO117:=n1_;have BK114:=n2_;have HB:=n3_;clear n0_ n1_ n2_ n3_;clear hb ho10;obtain ⟨hcz11_0,hcz11_1,hfz11_0,hfz11_1⟩:=bcells2 BK114.out;obtain ⟨Ao12,co12,eo12⟩:=Kd.R_slice HO117.out;subst eo12)|((with_reducible refine gate_callee (f:=93) rfl ?_);refine goesL_ (some 18) rfl rfl Try.func93 (by kernel_rfl) rfl #[.slice Ao12 y115.length co12,.int .i64 ((rd_T83 l0 x8_1).f0)] rfl (by (try simp only [List.map_toArray,List.map_cons,List.map_nil]);first|done|rfl|(simp only [List.length_drop,List.length_take];rfl)) ?_;(with_reducible refine (slices_Repeat_int_int.calls _ _ y115 ((rd_T83 l0 x8_1).f0) t118 _ ?side1 ?side2 A5.out).mono ?_);(case side1=>exact cV (Kd.R_reads' HO117.out).2.2);(case side2=>exact (Kd.R_reads' HO117.out).2.1);rintro e w13 ⟨v119,rfl,ho0,hb⟩;refine ⟨_,rfl,?_⟩;have n0_:=Aside0.mk (Kd.R_elder' (rowV HO_3.out) (Kd.R_base ho0) hb);have n1_:=Aside0.mk (Kd.R_elder' (rowV HO117.out) (Kd.R_base ho0) hb);have n2_:=Aside0.mk (Kd.R_lower (Kd.R_new' (Kd.R_new' ho0 (Kd.R_lt (rowV HO_3.out))) (Kd.R_lt (rowV HO117.out))) (below_size (belV1 HB.out GE114.out)));have n3_:=Aside0.mk (blk_below (g:=gb114) (blkV BK114.out) hb);have n4_:=Aside0.mk (below_step (belV1 HB.out GE114.out) hb);clear HO_3;clear HO117;clear BK114;clear HB;have HO_3:=n0_;have HO117:=n1_;have HO120:=n2_;have BK114:=n3_;have HB:=n4_;clear n0_ n1_ n2_ n3_ n4_;(try clear hb);(try clear hb2);(try clear hk);(try clear hi);(try clear ho0);obtain ⟨Ao15,co15,eo15⟩:=Kd.R_slice HO120.out;subst eo15)|((with_reducible refine gate_builtin (b:=.append) (xs:=#[.tmp 12,.tmp 18]) rfl ?_);at_builtin;refine Kd.R_append_rows (Kd.int .i64) (w0:=w) w.heap.size rfl (.tmp 12) (.tmp 18) 23 3 (.int .i64 0) 8 rfl Try.underlying23 info3 rfl (by decide) (by omega) u3 x3_1 t118 _ _ _ (fun k_=>some k_≠(.slice Ao12 y115.length co12:Value).ownBlock) (fun _=>False) rfl rfl ?aO ?aR (fun _ _ h=>h) (fun _ h=>h.elim) ?aF ?aB ?aS ?aL ?_;(case aR=>exact cV (Kd.R_reads' HO120.out).2.2);(case aB=>exact (belV1 HB.out GE114.out));(case aF=>exact (fun k_ hk=>Kd.fresh' (Kd.R_lt (rowV HO117.out)) k_ hk));(case aO=>exact (by (with_reducible repeat (first|apply Kd.R_alloc|apply Kd.R_drewN|apply Kd.R_drew));exact Kd.R_mono HO_3.out (fun _ hk=>hk.1.2)));(case aS=>exact (below_size (belV1 HB.out GE114.out)));(case aL=>have:=LMc6.out;omega);intro v122 w14 ho hb hg hat;rw [← Ny121.out] at ho;have n0_:=Aside0.mk (blk_grown (g:=gb114) (blkV BK114.out) hg (Kd.R_ne HO_3.out BK114.out (by decide)));have n1_:=Aside0.mk (Kd.R_after (ok:=(fun k_=>some k_≠(.slice Ao15 t118.length co15:Value).ownBlock)) (by (with_reducible repeat (first|apply Kd.R_alloc|apply Kd.R_drewN|apply Kd.R_drew));exact Kd.R_mono HO117.out (fun _ hk=>⟨hk.2,hk.1.2⟩)) hg hat);have n2_:=Aside0.mk (hb);have n3_:=Aside0.mk (ho);clear BK114;clear HO117;clear HB;clear HO_3;clear HO120;have BK114:=n0_;have HO117:=n1_;have HB:=n2_;have HO123:=n3_;clear n0_ n1_ n2_ n3_;clear ho hb hg hat))
           go_roundg k1
           case measure=>have:=HK1.out;omega
           case rel=>exact ⟨(y121),(wrap64 (x8_1+1)),okV,H',⟨by have:=HK1.out;omega⟩,⟨by (with_reducible repeat (first|apply Kd.R_alloc|apply Kd.R_drewN|apply Kd.R_drew));exact Kd.R_mono HO123.out (fun _ hk=>trivial)⟩,⟨belV1 HB.out GE114.out⟩⟩
         rw [if_neg c6] at H
         exact absurd H (by simp)
       rw [if_neg c4] at H
       exact absurd H (by simp)
     rw [if_neg c3] at H
     exact absurd H (by simp)
   rw [if_neg c2] at H
   have c2b0:decide (x8_1 < (l0.length:Int))=false:=decide_eq_false c2;clear c2
   obtain rfl:=Option.some.inj H
   go_wp2
   go_ret
   exact ⟨_,by first|rfl|(simp [errW_none,errW_some] <;> rfl)|(simp [*,errW_none,errW_some] <;> rfl),by (with_reducible repeat (first|apply Kd.R_alloc|apply Kd.R_drewN|apply Kd.R_drew));exact HO_3.out,by repeat (first|(with_reducible first|exact HB.out|apply below_alloc|apply pw_below_drewN|apply below_drew1)|exact HB.out)⟩

/-! ### cmp_isNaN_int: function 117 -/
def cmp_isNaN_int.f (a0 : Int) : Option (Bool) := some (a0 != a0)
set_option maxHeartbeats 8000000 in
set_option maxRecDepth 100000 in
theorem cmp_isNaN_int.calls (a0 : Int) (r : Bool) (w : World) (h : cmp_isNaN_int.f a0 = some r) :
    Calls Try.prog 117 #[.int .i64 a0] w fun e w' => e = .returned (.bool r) ∧ Drawn0 w w' := by
  have H : (some (a0 != a0)) = some r := h
  clear h
  obtain rfl := Option.some.inj H
  go_enter Try.func117, Try.ntmps117
  go_wp2
  go_ret
  exact ⟨by first | rfl | (simp; done) | (simp [*]; done), by repeat (first | exact Drawn0.refl _ | apply Drawn0.step)⟩

end Go.Proofs.Ytmbhafgnmdfjhaa.QTab
