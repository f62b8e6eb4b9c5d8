/- The law FnHolds answers true at every input. No condition. -/
import Derived.Test.YtdbfjakhkclggaaOpnFnHolds
import Derived.Test.YtdbfjakhkclggaaBase
namespace Go.Proofs.Ytdbfjakhkclggaa.Pure
open Go.RowKit Go.Proofs.Ytdbfjakhkclggaa.QFnHolds Go.Proofs.Ytdbfjakhkclggaa.OpnFnHolds Go.Proofs.Ytdbfjakhkclggaa.Base Go.Proofs.YtdbfjakhkclggaaW.PrintWords Go.Proofs.YtdbfjakhkclggaaW.PrintLast
set_option linter.unusedVariables false
set_option linter.unusedSimpArgs false

theorem and_mask (x : Int) (m : Nat) (hm : m < 9223372036854775808) : 0 ≤ Go.bits .and .i64 x (m : Int) ∧ Go.bits .and .i64 x (m : Int) ≤ m := by
  have h : (BitVec.ofInt 64 x &&& BitVec.ofInt 64 (m : Int)).toNat ≤ m := by
    rw [BitVec.toNat_and]
    refine Nat.le_trans Nat.and_le_right ?_
    rw [BitVec.ofInt_natCast, BitVec.toNat_ofNat]
    exact Nat.mod_le _ _
  obtain ⟨q, hq⟩ : ∃ q : Nat, q = (BitVec.ofInt 64 x &&& BitVec.ofInt 64 (m : Int)).toNat := ⟨_, rfl⟩
  have e : Go.bits .and .i64 x (m : Int) = IntKind.i64.wrap (q : Int) := by rw [hq]; rfl
  rw [e, IntKind.wrap_i64]
  omega
theorem u64_range (x : Int) : 0 ≤ IntKind.u64.wrap x ∧ IntKind.u64.wrap x ≤ 18446744073709551615 := by
  simp only [IntKind.wrap, IntKind.signed, IntKind.bits]
  simp
  omega
theorem byte_ev (b : List Int) (hb : b.length ≤ 1048576) (i h : Int) (h0 : 0 ≤ i) : ∃ x i' h', spec_l01Byte.f b i h = some (x, i', h') ∧ 0 ≤ i' ∧ 0 ≤ x ∧ x ≤ 255 := by
  unfold spec_l01Byte.f
  by_cases hi : i < (b.length : Int)
  · rw [if_pos hi, if_pos h0]
    have := and_mask
    exact ⟨_, _, _, rfl, by rw [w64 (by omega) (by omega)]; omega, (and_mask _ 255 (by decide)).1, (and_mask _ 255 (by decide)).2⟩
  · rw [if_neg hi]
    exact ⟨_, _, _, rfl, h0, (and_mask _ 255 (by decide)).1, (and_mask _ 255 (by decide)).2⟩
theorem below_ev (b : List Int) (hb : b.length ≤ 1048576) (i h n : Int) (h0 : 0 ≤ i) : ∃ x i' h', spec_l01Below.f b i h n = some (x, i', h') ∧ 0 ≤ i' ∧ 0 ≤ x ∧ (0 < n → x < n) ∧ (n ≤ 0 → x = 0) := by
  unfold spec_l01Below.f
  by_cases h1 : n ≤ 0
  · rw [if_pos h1]
    exact ⟨0, i, h, rfl, h0, by omega, by omega, fun _ => rfl⟩
  rw [if_neg h1]
  by_cases h2 : n ≤ 256
  · rw [if_pos h2]
    obtain ⟨x, i', h', e, g0, g1, g2⟩ := byte_ev b hb i h h0
    rw [e]
    simp only [Option.bind_some]
    rw [if_neg (by omega)]
    exact ⟨_, _, _, rfl, g0, Int.tmod_nonneg _ g1, fun _ => Int.tmod_lt_of_pos _ (by omega), fun h => by omega⟩
  · rw [if_neg h2]
    obtain ⟨x, i1, h1', e1, g0, g1, g2⟩ := byte_ev b hb i h h0
    obtain ⟨y, i2, h2', e2, k0, k1, k2⟩ := byte_ev b hb i1 h1' g0
    obtain ⟨z, i3, h3', e3, m0, m1, m2⟩ := byte_ev b hb i2 h2' k0
    rw [e1]
    simp only [Option.bind_some]
    rw [e2]
    simp only [Option.bind_some]
    rw [e3]
    simp only [Option.bind_some]
    rw [if_neg (by omega)]
    have w1 : wrap64 (x * 65536) = x * 65536 := w64 (by omega) (by omega)
    have w2 : wrap64 (y * 256) = y * 256 := w64 (by omega) (by omega)
    have w3 : wrap64 (x * 65536 + y * 256) = x * 65536 + y * 256 := w64 (by omega) (by omega)
    have w4 : wrap64 (x * 65536 + y * 256 + z) = x * 65536 + y * 256 + z := w64 (by omega) (by omega)
    rw [w1, w2, w3, w4]
    exact ⟨_, _, _, rfl, m0, Int.tmod_nonneg _ (by omega), fun _ => Int.tmod_lt_of_pos _ (by omega), fun h => by omega⟩

theorem once_ev (b : List Int) (hb : b.length ≤ 1048576) (i h n : Int) (h0 : 0 ≤ i) : ∃ x i' h', spec_l01Once.f b i h n = some (x, i', h') ∧ 0 ≤ i' := by
  obtain ⟨x, i', h', e, g0, _⟩ := below_ev b hb i h n h0
  unfold spec_l01Once.f
  rw [e]
  exact ⟨_, _, _, rfl, g0⟩

theorem big_l (b : List Int) (hb : b.length ≤ 1048576) (d : Nat) : ∀ (j : Nat) (x i h : Int), j + d = 8 → 0 ≤ i → 0 ≤ x → x ≤ 18446744073709551615 → ∃ y i' h', Ev (fun k => spec_l01Big.l0 k x j b i h) (y, i', h') ∧ 0 ≤ i' ∧ 0 ≤ y ∧ y ≤ 18446744073709551615 := by
  induction d with
  | zero =>
    intro j x i h hd h0 x0 x1
    obtain ⟨y, i', h', e, g0, g1, g2, _⟩ := below_ev b hb i h 64 h0
    refine ⟨shr .u64 x (IntKind.u64.wrap y), i', h', ?_, g0, ?_, ?_⟩
    · refine Ev.step (fun k => by rw [spec_l01Big.l0]) ?_
      exact ev_neg (by omega) (Ev.bind (ev_const e) (ev_pos (u64_range _).1 (Ev.now _)))
    · exact Int.ediv_nonneg x0 (by have : (0 : Int) < 2 ^ min (IntKind.u64.wrap y).toNat IntKind.u64.bits := Int.pow_pos (by decide); omega)
    · refine Int.le_trans (Int.ediv_le_self _ x0) x1
  | succ d ih =>
    intro j x i h hd h0 x0 x1
    obtain ⟨y, i', h', e, g0, g1, g2, _⟩ := below_ev b hb i h 256 h0
    obtain ⟨z, i2, h2, hz, k0, k1, k2⟩ := ih (j + 1) (IntKind.u64.wrap ((IntKind.u64.wrap (x * 256)) + (IntKind.u64.wrap y))) i' h' (by omega) g0 (u64_range _).1 (u64_range _).2
    refine ⟨z, i2, h2, ?_, k0, k1, k2⟩
    refine Ev.step (fun k => by rw [spec_l01Big.l0]) ?_
    refine ev_pos (by omega) (Ev.bind (ev_const e) ?_)
    rw [wsucc (n := 8) (by omega) (by omega)]
    exact hz
theorem big_ev (b : List Int) (hb : b.length ≤ 1048576) (i h : Int) (h0 : 0 ≤ i) : ∃ y i' h', Ev (fun k => spec_l01Big.f k b i h) (y, i', h') ∧ 0 ≤ i' ∧ 0 ≤ y ∧ y ≤ 18446744073709551615 := by
  obtain ⟨x, i1, h1, e, g0, g1, g2, _⟩ := below_ev b hb i h 8 h0
  have hx := g2 (by decide)
  unfold spec_l01Big.f
  by_cases q0 : x = 0
  · exact ⟨0, i1, h1, Ev.bind (ev_const e) (ev_pos q0 (Ev.now _)), g0, by omega, by omega⟩
  by_cases q1 : x = 1
  · exact ⟨_, i1, h1, Ev.bind (ev_const e) (ev_neg q0 (ev_pos q1 (Ev.now _))), g0, by omega, by omega⟩
  by_cases q2 : x = 2
  · obtain ⟨y, i2, h2, e2, k0, _⟩ := below_ev b hb i1 h1 300 g0
    exact ⟨_, i2, h2, Ev.bind (ev_const e) (ev_neg q0 (ev_neg q1 (ev_pos q2 (Ev.bind (ev_const e2) (Ev.now _))))), k0, (u64_range _).1, (u64_range _).2⟩
  by_cases q3 : x = 3
  · obtain ⟨y, i2, h2, e2, k0, _⟩ := below_ev b hb i1 h1 300 g0
    exact ⟨_, i2, h2, Ev.bind (ev_const e) (ev_neg q0 (ev_neg q1 (ev_neg q2 (ev_pos q3 (Ev.bind (ev_const e2) (Ev.now _)))))), k0, (u64_range _).1, (u64_range _).2⟩
  by_cases q4 : x = 4
  · obtain ⟨y, i2, h2, e2, k0, _⟩ := below_ev b hb i1 h1 64 g0
    exact ⟨_, i2, h2, Ev.bind (ev_const e) (ev_neg q0 (ev_neg q1 (ev_neg q2 (ev_neg q3 (ev_pos q4 (Ev.bind (ev_const e2) (ev_pos (u64_range _).1 (Ev.now _)))))))), k0, (u64_range _).1, (u64_range _).2⟩
  · obtain ⟨y, i2, h2, hy, k0, k1, k2⟩ := big_l b hb 8 0 0 i1 h1 (by omega) g0 (by omega) (by omega)
    exact ⟨y, i2, h2, Ev.bind (ev_const e) (ev_neg q0 (ev_neg q1 (ev_neg q2 (ev_neg q3 (ev_neg q4 hy))))), k0, k1, k2⟩

/-- The ids that are drawn. -/
def In8 (x : Int) : Prop := x = 0 ∨ x = 1 ∨ x = 2 ∨ x = 5 ∨ x = 9 ∨ x = 100 ∨ x = 9223372036854775808 ∨ x = 18446744073709551615
theorem in8_range {x : Int} (h : In8 x) : 0 ≤ x ∧ x ≤ 18446744073709551615 := by unfold In8 at h; omega
theorem drawId_ev (b : List Int) (hb : b.length ≤ 1048576) (i h : Int) (h0 : 0 ≤ i) : ∃ id i' h', spec_l10DrawId.f b i h = some (id, i', h') ∧ 0 ≤ i' ∧ In8 id := by
  obtain ⟨x, i', h', e, g0, g1, g2, _⟩ := below_ev b hb i h 8 h0
  have hx := g2 (by decide)
  unfold spec_l10DrawId.f
  simp only [Option.bind_some]
  rw [e]
  simp only [Option.bind_some]
  have hlen : x < ((([0, 1, 2, 5, 9, 100, 9223372036854775808, 18446744073709551615] : List Int).length : Nat) : Int) := by simp; omega
  rw [if_pos g1, if_pos hlen]
  refine ⟨_, _, _, rfl, g0, ?_⟩
  unfold In8
  rcases (show x = 0 ∨ x = 1 ∨ x = 2 ∨ x = 3 ∨ x = 4 ∨ x = 5 ∨ x = 6 ∨ x = 7 by omega) with rfl | rfl | rfl | rfl | rfl | rfl | rfl | rfl <;> decide
theorem drawAmount_ev (b : List Int) (hb : b.length ≤ 1048576) (i h : Int) (h0 : 0 ≤ i) : ∃ a i' h', Ev (fun k => spec_l10DrawAmount.f k b i h) (a, i', h') ∧ 0 ≤ i' ∧ 0 ≤ a ∧ a ≤ 18446744073709551615 := by
  obtain ⟨t, i1, h1, e, g0⟩ := once_ev b hb i h 5 h0
  unfold spec_l10DrawAmount.f
  by_cases ht : t = true
  · obtain ⟨y, i2, h2, hy, k0, k1, k2⟩ := big_ev b hb i1 h1 g0
    exact ⟨y, i2, h2, Ev.bind (ev_const e) (ev_pos ht (Ev.bind hy (Ev.now _))), k0, k1, k2⟩
  · obtain ⟨y, i2, h2, e2, k0, _⟩ := below_ev b hb i1 h1 60 g0
    exact ⟨_, i2, h2, Ev.bind (ev_const e) (ev_neg ht (Ev.bind (ev_const e2) (Ev.now _))), k0, (u64_range _).1, (u64_range _).2⟩

theorem size_ev (l : List Int) (hl : l.length ≤ 1048576) (m : Int) : ∃ n, spec_l01Size.f l m = some n ∧ n ≤ m ∧ (0 ≤ m → 0 ≤ n) := by
  unfold spec_l01Size.f
  rw [w64 (x := (l.length : Int) / 16) (by omega) (by omega), w64 (x := 2 + (l.length : Int) / 16) (by omega) (by omega)]
  by_cases h : 2 + (l.length : Int) / 16 > m
  · rw [if_pos h]; exact ⟨m, rfl, by omega, fun h => h⟩
  · rw [if_neg h]; exact ⟨_, rfl, by omega, fun _ => by omega⟩

theorem new_l (l : List Int) (hl : l.length ≤ 1048576) (d : Nat) : ∀ (i : Nat) (h : Int), l.length = i + d → ∃ h', Ev (fun k => spec_l01New.l0 k l h i) (l, 0, h') := by
  induction d with
  | zero =>
    intro i h hd
    refine ⟨h, ?_⟩
    refine Ev.step (fun k => by rw [spec_l01New.l0]) ?_
    exact ev_neg (by omega) (Ev.now _)
  | succ d ih =>
    intro i h hd
    by_cases h4 : (i : Int) < 4000
    · obtain ⟨h', hh⟩ := ih (i + 1) (Go.bits .and .i64 (wrap64 ((wrap64 ((wrap64 (h * 149)) + (wrap64 (rd l i)))) + 11)) 1073741823) (by omega)
      refine ⟨h', ?_⟩
      refine Ev.step (fun k => by rw [spec_l01New.l0]) ?_
      rw [wsucc (n := l.length) (by omega) (by omega)]
      exact ev_pos (by omega) (ev_pos h4 (ev_pos (by omega) hh))
    · refine ⟨h, ?_⟩
      refine Ev.step (fun k => by rw [spec_l01New.l0]) ?_
      exact ev_pos (by omega) (ev_neg h4 (Ev.now _))
theorem new_ev (l : List Int) (hl : l.length ≤ 1048576) : ∃ h, Ev (fun k => spec_l01New.f k l) (l, 0, h) := by
  obtain ⟨h, hh⟩ := new_l l hl l.length 0 (wrap64 (138138 + (l.length : Int))) (by omega)
  exact ⟨h, hh⟩

abbrev MX : Int := 18446744073709551615
def wfA (x : S53) : Prop := (0 ≤ x.f0 ∧ x.f0 ≤ 18446744073709551615) ∧ (0 ≤ x.f1 ∧ x.f1 ≤ 18446744073709551615) ∧ (0 ≤ x.f2 ∧ x.f2 ≤ 18446744073709551615) ∧ (0 ≤ x.f3 ∧ x.f3 ≤ 18446744073709551615) ∧ (-9223372036854775808 ≤ x.f4 ∧ x.f4 ≤ 9223372036854775807)
theorem wf_at {l : List S53} (h : ∀ x ∈ l, wfA x) (j : Nat) (hj : j < l.length) : wfA (rd_T53 l j) := by
  unfold rd_T53
  rw [toNat_cast]
  exact h _ (getD_mem l j z53 hj)

/-- What is asked of account j. -/
def AP (l : List S53) (j : Nat) : Prop :=
  ¬ (rd_T53 l j).f4 < 0 ∧ ((rd_T53 l j).f4 = 0 → (rd_T53 l j).f2 = 0 ∧ (rd_T53 l j).f3 = 0) ∧ (rd_T53 l j).f1 + (rd_T53 l j).f2 + (rd_T53 l j).f3 ≤ 18446744073709551615 ∧ (0 < j → (rd_T53 l (j - 1 : Nat)).f0 < (rd_T53 l j).f0)
/-- A book as it should be. -/
def BookP (l : List S53) : Prop := l.length ≤ 40 ∧ ∀ j, j < l.length → AP l j
theorem sorted {l : List S53} (h : BookP l) : ∀ d i, i + d + 1 < l.length → (rd_T53 l i).f0 < (rd_T53 l (i + d + 1 : Nat)).f0 := by
  intro d
  induction d with
  | zero =>
    intro i hi
    exact (h.2 (i + 1) hi).2.2.2 (by omega)
  | succ d ih =>
    intro i hi
    have h1 := ih i (by omega)
    have h2 := (h.2 (i + d + 2) (by omega)).2.2.2 (by omega)
    have e : i + d + 2 - 1 = i + d + 1 := by omega
    rw [e] at h2
    have e2 : i + (d + 1) + 1 = i + d + 2 := by omega
    rw [e2]
    omega
theorem sorted_lt {l : List S53} (h : BookP l) {i j : Nat} (hij : i < j) (hj : j < l.length) : (rd_T53 l i).f0 < (rd_T53 l j).f0 := by
  have := sorted h (j - i - 1) i (by omega)
  have e : i + (j - i - 1) + 1 = j := by omega
  rwa [e] at this
theorem only {l : List S53} (h : BookP l) {i j : Nat} (hi : i < l.length) (hj : j < l.length) (e : (rd_T53 l i).f0 = (rd_T53 l j).f0) : i = j := by
  rcases Nat.lt_trichotomy i j with h1 | h1 | h1
  · have := sorted_lt h h1 hj; omega
  · exact h1
  · have := sorted_lt h h1 hi; omega

theorem eta53 (x : S53) : (⟨x.f0, x.f1, x.f2, x.f3, x.f4⟩ : S53) = x := rfl
theorem l10Copy_l (l : List S53) (hl : l.length ≤ 1048576) (d : Nat) : ∀ i : Nat, l.length = i + d → Ev (fun k => spec_l10Copy.l0 k i l (l.take i)) l := by
  induction d with
  | zero =>
    intro i hd
    refine Ev.step (fun k => by rw [spec_l10Copy.l0]) ?_
    refine ev_neg (by omega) ?_
    rw [List.take_of_length_le (by omega)]
    exact Ev.now _
  | succ d ih =>
    intro i hd
    refine Ev.step (fun k => by rw [spec_l10Copy.l0]) ?_
    have h1 := List.length_take_le i l
    refine ev_pos (by omega) (ev_pos (by omega) (ev_pos (by omega) ?_))
    rw [wsucc (n := l.length) (by omega) (by omega)]
    have := ih (i + 1) (by omega)
    rw [take_succ_getD l i z53 (by omega)] at this
    unfold rd_T53
    rw [toNat_cast]
    exact this
theorem l10Copy_ev (l : List S53) (hl : l.length ≤ 1048576) : Ev (fun k => spec_l10Copy.f k l) l := l10Copy_l l hl l.length 0 (by omega)
theorem copyBook_ev (l : List S53) (hl : l.length ≤ 1048576) : impl_copyBook.f l = some l := by
  unfold impl_copyBook.f
  show (if ([] : List S53).length + l.length < 3518437208883 then some ([] ++ l) else none) = some l
  rw [if_pos (by simp; omega), List.nil_append]

theorem specBookOk_l (l : List S53) (hl : l.length ≤ 1048576) (hw : ∀ x ∈ l, wfA x) (d : Nat) : ∀ (i : Nat), l.length = i + d → ∃ b, Ev (fun k => spec_BookOk.l0 k i l) b ∧ (b = true ↔ ∀ j, i ≤ j → j < l.length → AP l j) := by
  induction d with
  | zero =>
    intro i hd
    refine ⟨true, ?_, ⟨fun _ j h1 h2 => by omega, fun _ => rfl⟩⟩
    refine Ev.step (fun k => by rw [spec_BookOk.l0]) ?_
    exact ev_neg (by omega) (Ev.now _)
  | succ d ih =>
    intro i hd
    obtain ⟨⟨a0, b0⟩, ⟨a1, b1⟩, ⟨a2, b2⟩, ⟨a3, b3⟩, ⟨a4, b4⟩⟩ := wf_at hw i (by omega)
    obtain ⟨b, hb, hi⟩ := ih (i + 1) (by omega)
    -- the joined rest of a round
    have hj : ∀ x : Bool, ∃ r, Ev (fun k => spec_BookOk.j1 k i x l (rd_T53 l i).f0 (rd_T53 l i).f1 (rd_T53 l i).f2 (rd_T53 l i).f3 (rd_T53 l i).f4) r ∧ (r = true ↔ x = false ∧ (rd_T53 l i).f1 + (rd_T53 l i).f2 + (rd_T53 l i).f3 ≤ 18446744073709551615 ∧ b = true) := by
      intro x
      by_cases hx : x = true
      · refine ⟨false, ?_, ⟨fun h => (by cases h), fun h => by rw [hx] at h; cases h.1⟩⟩
        refine Ev.step (fun k => by rw [spec_BookOk.j1]) ?_
        exact ev_pos hx (Ev.now _)
      · by_cases h1 : (rd_T53 l i).f2 > IntKind.u64.wrap (18446744073709551615 - (rd_T53 l i).f1)
        · refine ⟨false, ?_, ⟨fun h => (by cases h), fun h => ?_⟩⟩
          · refine Ev.step (fun k => by rw [spec_BookOk.j1]) ?_
            exact ev_neg hx (ev_pos h1 (Ev.now _))
          · rw [u64w (by omega) (by omega)] at h1
            omega
        · by_cases h2 : (rd_T53 l i).f3 > IntKind.u64.wrap (IntKind.u64.wrap (18446744073709551615 - (rd_T53 l i).f1) - (rd_T53 l i).f2)
          · refine ⟨false, ?_, ⟨fun h => (by cases h), fun h => ?_⟩⟩
            · refine Ev.step (fun k => by rw [spec_BookOk.j1]) ?_
              exact ev_neg hx (ev_neg h1 (ev_pos h2 (Ev.now _)))
            · rw [u64w (x := 18446744073709551615 - (rd_T53 l i).f1) (by omega) (by omega)] at h1 h2
              rw [u64w (by omega) (by omega)] at h2
              omega
          · refine ⟨b, ?_, ?_⟩
            · refine Ev.step (fun k => by rw [spec_BookOk.j1]) ?_
              refine ev_neg hx (ev_neg h1 (ev_neg h2 ?_))
              rw [wsucc (n := l.length) (by omega) (by omega)]
              exact hb
            · rw [u64w (x := 18446744073709551615 - (rd_T53 l i).f1) (by omega) (by omega)] at h1 h2
              rw [u64w (by omega) (by omega)] at h2
              have : x = false := by cases x with | true => exact absurd rfl hx | false => rfl
              exact ⟨fun h => ⟨this, by omega, h⟩, fun h => h.2.2⟩
    have hall : (∀ j, i ≤ j → j < l.length → AP l j) ↔ AP l i ∧ b = true := by
      rw [hi]
      refine ⟨fun h => ⟨h i (Nat.le_refl _) (by omega), fun j h1 h2 => h j (by omega) h2⟩, fun h j h1 h2 => ?_⟩
      by_cases e : j = i
      · rw [e]; exact h.1
      · exact h.2 j (by omega) h2
    -- the second half of the first test
    have hk : ∃ x : Bool, (Ev (fun k => if (rd_T53 l i).f4 < 0 then spec_BookOk.j1 k i true l (rd_T53 l i).f0 (rd_T53 l i).f1 (rd_T53 l i).f2 (rd_T53 l i).f3 (rd_T53 l i).f4 else (if (rd_T53 l i).f4 = 0 then (if (rd_T53 l i).f2 = 0 then spec_BookOk.j1 k i ((rd_T53 l i).f3 != 0) l (rd_T53 l i).f0 (rd_T53 l i).f1 (rd_T53 l i).f2 (rd_T53 l i).f3 (rd_T53 l i).f4 else spec_BookOk.j1 k i true l (rd_T53 l i).f0 (rd_T53 l i).f1 (rd_T53 l i).f2 (rd_T53 l i).f3 (rd_T53 l i).f4) else spec_BookOk.j1 k i false l (rd_T53 l i).f0 (rd_T53 l i).f1 (rd_T53 l i).f2 (rd_T53 l i).f3 (rd_T53 l i).f4)) (Classical.choose (hj x))) ∧ (x = false ↔ ¬ (rd_T53 l i).f4 < 0 ∧ ((rd_T53 l i).f4 = 0 → (rd_T53 l i).f2 = 0 ∧ (rd_T53 l i).f3 = 0)) := by
      have hc := fun x => (Classical.choose_spec (hj x)).1
      by_cases h1 : (rd_T53 l i).f4 < 0
      · exact ⟨true, ev_pos h1 (hc true), by simp [h1]⟩
      · by_cases h2 : (rd_T53 l i).f4 = 0
        · by_cases h3 : (rd_T53 l i).f2 = 0
          · refine ⟨_, ev_neg h1 (ev_pos h2 (ev_pos h3 (hc _))), ?_⟩
            simp [h2, h3]
          · exact ⟨true, ev_neg h1 (ev_pos h2 (ev_neg h3 (hc true))), by simp [h2, h3]⟩
        · exact ⟨false, ev_neg h1 (ev_neg h2 (hc false)), by simp [h1, h2]⟩
    obtain ⟨x, hx, hxi⟩ := hk
    have hcs := (Classical.choose_spec (hj x)).2
    by_cases h0 : 0 < i
    · by_cases h1 : (rd_T53 l (i - 1 : Nat)).f0 ≥ (rd_T53 l i).f0
      · obtain ⟨r, hr, hri⟩ := hj true
        refine ⟨r, ?_, ?_⟩
        · refine Ev.step (fun k => by rw [spec_BookOk.l0]) ?_
          refine ev_pos (by omega) (ev_pos (by omega) (ev_pos (by omega) ?_))
          rw [wpred h0 (by omega)]
          exact ev_pos (by omega) (ev_pos (by omega) (ev_pos h1 hr))
        · rw [hri, hall]
          refine ⟨fun h => (by cases h.1), fun h => ?_⟩
          have := h.1.2.2.2 h0
          omega
      · refine ⟨Classical.choose (hj x), ?_, ?_⟩
        · refine Ev.step (fun k => by rw [spec_BookOk.l0]) ?_
          refine ev_pos (by omega) (ev_pos (by omega) (ev_pos (by omega) ?_))
          rw [wpred h0 (by omega)]
          exact ev_pos (by omega) (ev_pos (by omega) (ev_neg h1 hx))
        · rw [hcs, hall, hxi]
          exact ⟨fun h => ⟨⟨h.1.1, h.1.2, h.2.1, fun _ => by omega⟩, h.2.2⟩, fun h => ⟨⟨h.1.1, h.1.2.1⟩, h.1.2.2.1, h.2⟩⟩
    · refine ⟨Classical.choose (hj x), ?_, ?_⟩
      · refine Ev.step (fun k => by rw [spec_BookOk.l0]) ?_
        exact ev_pos (by omega) (ev_pos (by omega) (ev_neg (by omega) hx))
      · rw [hcs, hall, hxi]
        exact ⟨fun h => ⟨⟨h.1.1, h.1.2, h.2.1, fun h' => absurd h' h0⟩, h.2.2⟩, fun h => ⟨⟨h.1.1, h.1.2.1⟩, h.1.2.2.1, h.2⟩⟩
theorem specBookOk_ev (l : List S53) (hl : l.length ≤ 1048576) (hw : ∀ x ∈ l, wfA x) : ∃ b, Ev (fun k => spec_BookOk.f k l) b ∧ (b = true ↔ BookP l) := by
  unfold spec_BookOk.f
  by_cases h : (l.length : Int) > 40
  · exact ⟨false, ev_pos h (Ev.now _), ⟨fun h => (by cases h), fun h' => by have := h'.1; omega⟩⟩
  · obtain ⟨b, hb, hi⟩ := specBookOk_l l hl hw l.length 0 (by omega)
    refine ⟨b, ev_neg h hb, ?_⟩
    rw [hi]
    exact ⟨fun h => ⟨by omega, fun j => h j (Nat.zero_le _)⟩, fun h j _ => h.2 j⟩

theorem wrapmod (x : Int) : IntKind.u64.wrap x = x % 18446744073709551616 := by simp [IntKind.wrap, IntKind.signed, IntKind.bits]
theorem implIsBook_l (l : List S53) (hl : l.length ≤ 1048576) (hw : ∀ x ∈ l, wfA x) (d : Nat) : ∀ (i : Nat), l.length = i + d → ∃ b, Ev (fun k => impl_isBook.l0 k l l.length i l) b ∧ (b = true ↔ l.length ≤ 40 ∧ ∀ j, i ≤ j → j < l.length → AP l j) := by
  induction d with
  | zero =>
    intro i hd
    refine ⟨decide ((l.length : Int) ≤ 40), ?_, ?_⟩
    · refine Ev.step (fun k => by rw [impl_isBook.l0]) ?_
      exact ev_neg (by omega) (Ev.now _)
    · rw [decide_eq_true_iff]
      exact ⟨fun h => ⟨by omega, fun j h1 h2 => by omega⟩, fun h => by have := h.1; omega⟩
  | succ d ih =>
    intro i hd
    obtain ⟨⟨a0, b0⟩, ⟨a1, b1⟩, ⟨a2, b2⟩, ⟨a3, b3⟩, ⟨a4, b4⟩⟩ := wf_at hw i (by omega)
    obtain ⟨b, hb, hi⟩ := ih (i + 1) (by omega)
    have hall : (l.length ≤ 40 ∧ ∀ j, i ≤ j → j < l.length → AP l j) ↔ AP l i ∧ b = true := by
      rw [hi]
      refine ⟨fun h => ⟨h.2 i (Nat.le_refl _) (by omega), h.1, fun j h1 h2 => h.2 j (by omega) h2⟩, fun h => ⟨h.2.1, fun j h1 h2 => ?_⟩⟩
      by_cases e : j = i
      · rw [e]; exact h.1
      · exact h.2.2 j (by omega) h2
    have hsum : (IntKind.u64.wrap ((((rd_T53 l i).f1 + (rd_T53 l i).f2) / 18446744073709551616) + ((IntKind.u64.wrap ((rd_T53 l i).f1 + (rd_T53 l i).f2) + (rd_T53 l i).f3) / 18446744073709551616)) > 0) ↔ ¬ (rd_T53 l i).f1 + (rd_T53 l i).f2 + (rd_T53 l i).f3 ≤ 18446744073709551615 := by
      rw [wrapmod, wrapmod]; omega
    have hwr : 0 ≤ IntKind.u64.wrap ((rd_T53 l i).f1 + (rd_T53 l i).f2) := by rw [wrapmod]; omega
    have no : ∀ {P : Prop}, ¬ P → (false = true ↔ P ∧ b = true) := fun h => ⟨fun h => (by cases h), fun h' => absurd h'.1 h⟩
    -- the test of the id before
    have hlast : AP l i ∨ (¬ AP l i ∧ (¬ (rd_T53 l i).f4 < 0 ∧ ((rd_T53 l i).f4 = 0 → (rd_T53 l i).f2 = 0 ∧ (rd_T53 l i).f3 = 0) ∧ (rd_T53 l i).f1 + (rd_T53 l i).f2 + (rd_T53 l i).f3 ≤ 18446744073709551615) ∧ 0 < i ∧ (rd_T53 l (i - 1 : Nat)).f0 ≥ (rd_T53 l i).f0) ∨ (¬ AP l i ∧ ¬ (¬ (rd_T53 l i).f4 < 0 ∧ ((rd_T53 l i).f4 = 0 → (rd_T53 l i).f2 = 0 ∧ (rd_T53 l i).f3 = 0) ∧ (rd_T53 l i).f1 + (rd_T53 l i).f2 + (rd_T53 l i).f3 ≤ 18446744073709551615)) := by
      by_cases h : AP l i
      · exact .inl h
      · by_cases h2 : (¬ (rd_T53 l i).f4 < 0 ∧ ((rd_T53 l i).f4 = 0 → (rd_T53 l i).f2 = 0 ∧ (rd_T53 l i).f3 = 0) ∧ (rd_T53 l i).f1 + (rd_T53 l i).f2 + (rd_T53 l i).f3 ≤ 18446744073709551615)
        · refine .inr (.inl ⟨h, h2, ?_⟩)
          by_cases h0 : 0 < i
          · refine ⟨h0, ?_⟩
            by_cases h3 : (rd_T53 l (i - 1 : Nat)).f0 ≥ (rd_T53 l i).f0
            · exact h3
            · exact absurd ⟨h2.1, h2.2.1, h2.2.2, fun _ => by omega⟩ h
          · exact absurd ⟨h2.1, h2.2.1, h2.2.2, fun h' => absurd h' h0⟩ h
        · exact .inr (.inr ⟨h, h2⟩)
    have htail : (AP l i ∨ (¬ AP l i ∧ 0 < i ∧ (rd_T53 l (i - 1 : Nat)).f0 ≥ (rd_T53 l i).f0)) → ∃ r, Ev (fun k => if (i : Int) > 0 then (if 0 ≤ (wrap64 ((i : Int) - 1)) then (if (wrap64 ((i : Int) - 1)) < (l.length : Int) then (if ((rd_T53 l (wrap64 ((i : Int) - 1))).f0) ≥ ((rd_T53 l i).f0) then (some false) else (impl_isBook.l0 k l l.length (wrap64 ((i : Int) + 1)) l)) else (none)) else (none)) else (impl_isBook.l0 k l l.length (wrap64 ((i : Int) + 1)) l)) r ∧ (r = true ↔ AP l i ∧ b = true) := by
      intro h
      rcases h with h | ⟨h, h0, h1⟩
      · refine ⟨b, ?_, by simp [h]⟩
        by_cases h0 : 0 < i
        · refine ev_pos (by omega) ?_
          rw [wpred h0 (by omega), wsucc (n := l.length) (by omega) (by omega)]
          have := h.2.2.2 h0
          exact ev_pos (by omega) (ev_pos (by omega) (ev_neg (by omega) hb))
        · rw [wsucc (n := l.length) (by omega) (by omega)]
          exact ev_neg (by omega) hb
      · refine ⟨false, ?_, no h⟩
        refine ev_pos (by omega) ?_
        rw [wpred h0 (by omega)]
        exact ev_pos (by omega) (ev_pos (by omega) (ev_pos h1 (Ev.now _)))
    rw [hall]
    rcases hlast with h | ⟨h, h2, h3⟩ | ⟨h, h2⟩
    · obtain ⟨r, hr, hri⟩ := htail (.inl h)
      refine ⟨r, ?_, hri⟩
      refine Ev.step (fun k => by rw [impl_isBook.l0]) ?_
      refine ev_pos (by omega) (ev_pos (by omega) (ev_pos (by omega) (ev_pos a1 (ev_pos a2 (ev_pos hwr (ev_pos a3 (ev_neg (by rw [hsum]; exact fun h' => h' h.2.2.1) (ev_neg h.1 ?_))))))))
      by_cases h4 : (rd_T53 l i).f4 = 0
      · exact ev_pos h4 (ev_pos (h.2.1 h4).1 (ev_pos (h.2.1 h4).2 hr))
      · exact ev_neg h4 hr
    · obtain ⟨r, hr, hri⟩ := htail (.inr ⟨h, h3⟩)
      refine ⟨r, ?_, hri⟩
      refine Ev.step (fun k => by rw [impl_isBook.l0]) ?_
      refine ev_pos (by omega) (ev_pos (by omega) (ev_pos (by omega) (ev_pos a1 (ev_pos a2 (ev_pos hwr (ev_pos a3 (ev_neg (by rw [hsum]; exact fun h' => h' h2.2.2) (ev_neg h2.1 ?_))))))))
      by_cases h4 : (rd_T53 l i).f4 = 0
      · exact ev_pos h4 (ev_pos (h2.2.1 h4).1 (ev_pos (h2.2.1 h4).2 hr))
      · exact ev_neg h4 hr
    · refine ⟨false, ?_, no h⟩
      refine Ev.step (fun k => by rw [impl_isBook.l0]) ?_
      refine ev_pos (by omega) (ev_pos (by omega) (ev_pos (by omega) (ev_pos a1 (ev_pos a2 (ev_pos hwr (ev_pos a3 ?_))))))
      by_cases h5 : (rd_T53 l i).f1 + (rd_T53 l i).f2 + (rd_T53 l i).f3 ≤ 18446744073709551615
      · refine ev_neg (by rw [hsum]; exact fun h' => h' h5) ?_
        by_cases h6 : (rd_T53 l i).f4 < 0
        · exact ev_pos h6 (Ev.now _)
        · refine ev_neg h6 ?_
          by_cases h4 : (rd_T53 l i).f4 = 0
          · refine ev_pos h4 ?_
            by_cases h7 : (rd_T53 l i).f2 = 0
            · refine ev_pos h7 ?_
              by_cases h8 : (rd_T53 l i).f3 = 0
              · exact absurd ⟨h6, fun _ => ⟨h7, h8⟩, h5⟩ h2
              · exact ev_neg h8 (Ev.now _)
            · exact ev_neg h7 (Ev.now _)
          · exact absurd ⟨h6, fun h' => absurd h' h4, h5⟩ h2
      · exact ev_pos (by rw [hsum]; exact h5) (Ev.now _)
theorem implIsBook_ev (l : List S53) (hl : l.length ≤ 1048576) (hw : ∀ x ∈ l, wfA x) : ∃ b, Ev (fun k => impl_isBook.f k l) b ∧ (b = true ↔ BookP l) := by
  obtain ⟨b, hb, hi⟩ := implIsBook_l l hl hw l.length 0 (by omega)
  refine ⟨b, hb, ?_⟩
  rw [hi]
  exact ⟨fun h => ⟨h.1, fun j => h.2 j (Nat.zero_le _)⟩, fun h => ⟨h.1, fun j _ => h.2 j⟩⟩
/-- Both tests of a book give the same. -/
theorem books_ev (l : List S53) (hl : l.length ≤ 1048576) (hw : ∀ x ∈ l, wfA x) (b : Bool) (hb : Ev (fun k => spec_BookOk.f k l) b) (hi : b = true ↔ BookP l) : Ev (fun k => impl_isBook.f k l) b := by
  obtain ⟨b', hb', hi'⟩ := implIsBook_ev l hl hw
  have : b = b' := by
    cases b <;> cases b' <;> simp_all
  rw [this]; exact hb'

/-- The first account that bears the id, or none. -/
theorem l10Find_l (l : List S53) (hl : l.length ≤ 1048576) (id : Int) (d : Nat) : ∀ i : Nat, l.length = i + d → ∃ r : Int, Ev (fun k => spec_l10Find.l0 k id i l) r ∧ ((∃ j : Nat, i ≤ j ∧ j < l.length ∧ r = j ∧ (rd_T53 l j).f0 = id) ∨ (r = -1 ∧ ∀ j : Nat, i ≤ j → j < l.length → (rd_T53 l j).f0 ≠ id)) := by
  induction d with
  | zero =>
    intro i hd
    refine ⟨-1, ?_, .inr ⟨rfl, fun j h1 h2 => by omega⟩⟩
    refine Ev.step (fun k => by rw [spec_l10Find.l0]) ?_
    exact ev_neg (by omega) (Ev.now _)
  | succ d ih =>
    intro i hd
    by_cases h : (rd_T53 l i).f0 = id
    · refine ⟨i, ?_, .inl ⟨i, Nat.le_refl _, by omega, rfl, h⟩⟩
      refine Ev.step (fun k => by rw [spec_l10Find.l0]) ?_
      exact ev_pos (by omega) (ev_pos (by omega) (ev_pos h (Ev.now _)))
    · obtain ⟨r, hr, hc⟩ := ih (i + 1) (by omega)
      refine ⟨r, ?_, ?_⟩
      · refine Ev.step (fun k => by rw [spec_l10Find.l0]) ?_
        refine ev_pos (by omega) (ev_pos (by omega) (ev_neg h ?_))
        rw [wsucc (n := l.length) (by omega) (by omega)]
        exact hr
      · rcases hc with ⟨j, h1, h2, h3, h4⟩ | ⟨h1, h2⟩
        · exact .inl ⟨j, by omega, h2, h3, h4⟩
        · refine .inr ⟨h1, fun j h3 h4 => ?_⟩
          by_cases e : j = i
          · rw [e]; exact h
          · exact h2 j (by omega) h4
theorem accountOf_l (l : List S53) (hl : l.length ≤ 1048576) (id : Int) (d : Nat) : ∀ i : Nat, l.length = i + d → (∀ j : Nat, j < i → (rd_T53 l j).f0 < id) →
    ∃ p : Nat, p ≤ l.length ∧ (∀ j : Nat, j < p → (rd_T53 l j).f0 < id) ∧ (p < l.length → ¬ (rd_T53 l p).f0 < id) ∧ Ev (fun k => impl_accountOf.l0 k id i l) ((p : Int), decide (p < l.length ∧ (rd_T53 l p).f0 = id)) := by
  induction d with
  | zero =>
    intro i hd hb
    refine ⟨i, by omega, hb, fun h => by omega, ?_⟩
    rw [decide_eq_false (by omega)]
    refine Ev.step (fun k => by rw [impl_accountOf.l0]) ?_
    exact ev_neg (by omega) (Ev.now _)
  | succ d ih =>
    intro i hd hb
    by_cases h : (rd_T53 l i).f0 < id
    · obtain ⟨p, h1, h2, h3, h4⟩ := ih (i + 1) (by omega) (fun j hj => by
        by_cases e : j = i
        · rw [e]; exact h
        · exact hb j (by omega))
      refine ⟨p, h1, h2, h3, ?_⟩
      refine Ev.step (fun k => by rw [impl_accountOf.l0]) ?_
      refine ev_pos (by omega) (ev_pos (by omega) (ev_pos h ?_))
      rw [wsucc (n := l.length) (by omega) (by omega)]
      exact h4
    · refine ⟨i, by omega, hb, fun _ => h, ?_⟩
      have e : decide (i < l.length ∧ (rd_T53 l i).f0 = id) = ((rd_T53 l i).f0 == id) := by
        by_cases h5 : (rd_T53 l i).f0 = id
        · simp [h5]; omega
        · simp [h5]
      rw [e]
      refine Ev.step (fun k => by rw [impl_accountOf.l0]) ?_
      exact ev_pos (by omega) (ev_pos (by omega) (ev_neg h (Ev.now _)))
/-- Account j is the one of the id. -/
def AtJ (l : List S53) (id : Int) (j : Nat) : Prop := j < l.length ∧ (rd_T53 l j).f0 = id
def NoJ (l : List S53) (id : Int) : Prop := ∀ j : Nat, j < l.length → (rd_T53 l j).f0 ≠ id
theorem accountOf_any (l : List S53) (hl : l.length ≤ 1048576) (id : Int) : ∃ r, Ev (fun k => impl_accountOf.f k l id) r := by
  obtain ⟨p, _, _, _, h⟩ := accountOf_l l hl id l.length 0 (by omega) (fun j h => by omega)
  exact ⟨_, h⟩
theorem find_ev (l : List S53) (hl : l.length ≤ 1048576) (hP : BookP l) (id : Int) :
    (∃ j, AtJ l id j ∧ Ev (fun k => spec_l10Find.f k l id) (j : Int) ∧ Ev (fun k => impl_accountOf.f k l id) ((j : Int), true)) ∨
    (∃ p : Nat, NoJ l id ∧ p ≤ l.length ∧ (∀ j : Nat, j < p → (rd_T53 l j).f0 < id) ∧ (∀ j : Nat, p ≤ j → j < l.length → id < (rd_T53 l j).f0) ∧ Ev (fun k => spec_l10Find.f k l id) (-1) ∧ Ev (fun k => impl_accountOf.f k l id) ((p : Int), false)) := by
  obtain ⟨r, hr, hc⟩ := l10Find_l l hl id l.length 0 (by omega)
  obtain ⟨p, h1, h2, h3, h4⟩ := accountOf_l l hl id l.length 0 (by omega) (fun j h => by omega)
  rcases hc with ⟨j, _, hj, rfl, he⟩ | ⟨rfl, hn⟩
  · left
    have hpj : p = j := by
      rcases Nat.lt_trichotomy p j with h | h | h
      · have := sorted_lt hP h hj
        have := h3 (by omega)
        omega
      · exact h
      · have := h2 j h
        omega
    subst hpj
    rw [decide_eq_true ⟨hj, he⟩] at h4
    exact ⟨p, ⟨hj, he⟩, hr, h4⟩
  · right
    have hn' : NoJ l id := fun j hj => hn j (Nat.zero_le _) hj
    rw [decide_eq_false (fun h => hn' p h.1 h.2)] at h4
    refine ⟨p, hn', h1, h2, fun j hp hj => ?_, hr, h4⟩
    have hpl : p < l.length := by omega
    have a := h3 hpl
    have b := hn' p hpl
    by_cases e : j = p
    · rw [e]; omega
    · have := sorted_lt hP (show p < j by omega) hj
      omega

theorem rd_set_ne (l : List S53) (i j : Nat) (x : S53) (h : i ≠ j) : rd_T53 (l.set i x) (j : Int) = rd_T53 l j := by
  unfold rd_T53
  rw [toNat_cast, List.getD_eq_getElem?_getD, List.getD_eq_getElem?_getD, List.getElem?_set_ne h]
theorem rd_set_eq (l : List S53) (i : Nat) (x : S53) (h : i < l.length) : rd_T53 (l.set i x) (i : Int) = x := by
  unfold rd_T53
  rw [toNat_cast, getD_lt _ _ _ (by simpa using h), List.getElem_set_self]
/-- The changed account stands in the place of the one that bears its id. -/
theorem l10With_l (l : List S53) (hl : l.length ≤ 1048576) (x : S53) (j : Nat) (hj : j < l.length) (he : (rd_T53 l j).f0 = x.f0) (ho : ∀ i : Nat, i < l.length → i ≠ j → (rd_T53 l i).f0 ≠ x.f0) (d : Nat) :
    ∀ i : Nat, l.length = i + d → Ev (fun k => spec_l10With.l0 k i x.f0 x.f1 x.f2 x.f3 x.f4 (if j < i then l.set j x else l)) (l.set j x) := by
  induction d with
  | zero =>
    intro i hd
    refine Ev.step (fun k => by rw [spec_l10With.l0]) ?_
    rw [if_pos (show j < i by omega)]
    refine ev_neg (by simp; omega) (Ev.now _)
  | succ d ih =>
    intro i hd
    have := ih (i + 1) (by omega)
    refine Ev.step (fun k => by rw [spec_l10With.l0]) ?_
    rw [wsucc (n := l.length) (by omega) (by omega), toNat_cast]
    rcases Nat.lt_trichotomy j i with h | h | h
    · rw [if_pos h]
      rw [if_pos (show j < i + 1 by omega)] at this
      rw [rd_set_ne l j i x (by omega)]
      exact ev_pos (by simp; omega) (ev_pos (by omega) (ev_neg (ho i (by omega) (by omega)) this))
    · subst h
      rw [if_neg (by omega)]
      rw [if_pos (by omega)] at this
      exact ev_pos (by omega) (ev_pos (by omega) (ev_pos he this))
    · rw [if_neg (by omega)]
      rw [if_neg (by omega)] at this
      exact ev_pos (by omega) (ev_pos (by omega) (ev_neg (ho i (by omega) (by omega)) this))
theorem l10With_ev (l : List S53) (hl : l.length ≤ 1048576) (x : S53) (j : Nat) (hj : j < l.length) (he : (rd_T53 l j).f0 = x.f0) (ho : ∀ i : Nat, i < l.length → i ≠ j → (rd_T53 l i).f0 ≠ x.f0) :
    Ev (fun k => spec_l10With.f k l x.f0 x.f1 x.f2 x.f3 x.f4) (l.set j x) := by
  unfold spec_l10With.f
  refine Ev.bind (l10Copy_ev l hl) ?_
  have := l10With_l l hl x j hj he ho l.length 0 (by omega)
  rw [if_neg (by omega)] at this
  exact this
/-- .. in a book as it should be. -/
theorem l10With_at {l : List S53} (hl : l.length ≤ 1048576) (hP : BookP l) (x : S53) (j : Nat) (h : AtJ l x.f0 j) : Ev (fun k => spec_l10With.f k l x.f0 x.f1 x.f2 x.f3 x.f4) (l.set j x) :=
  l10With_ev l hl x j h.1 h.2 fun i hi hn he => hn (only hP hi h.1 (he.trans h.2.symm))

theorem l10Of_bad (l : List S53) (hl : l.length ≤ 1048576) (hw : ∀ x ∈ l, wfA x) (id tx : Int) (h : ¬ (BookP l ∧ 1 ≤ tx)) : Ev (fun k => spec_l10Of.f k l id tx) (0, 0, 0, 0, 0, 1) := by
  obtain ⟨b, hb, hi⟩ := specBookOk_ev l hl hw
  have hj : ∀ x : Bool, x = true → Ev (fun k => spec_l10Of.j0 k id x l) (0, 0, 0, 0, 0, 1) := fun x hx => by
    refine Ev.step (fun k => by rw [spec_l10Of.j0]) ?_
    exact ev_pos hx (Ev.now _)
  unfold spec_l10Of.f
  by_cases h1 : b = true
  · exact Ev.bind hb (ev_pos h1 (hj _ (decide_eq_true (by have : ¬ 1 ≤ tx := fun h' => h ⟨hi.1 h1, h'⟩; omega))))
  · exact Ev.bind hb (ev_neg h1 (hj _ rfl))
theorem l10Of_none (l : List S53) (hl : l.length ≤ 1048576) (hw : ∀ x ∈ l, wfA x) (id tx : Int) (hP : BookP l) (ht : 1 ≤ tx) (hf : Ev (fun k => spec_l10Find.f k l id) (-1)) : Ev (fun k => spec_l10Of.f k l id tx) (0, 0, 0, 0, 0, 2) := by
  obtain ⟨b, hb, hi⟩ := specBookOk_ev l hl hw
  unfold spec_l10Of.f
  refine Ev.bind hb (ev_pos (hi.2 hP) ?_)
  refine Ev.step (fun k => by rw [spec_l10Of.j0]) ?_
  exact ev_neg (by simp; omega) (Ev.bind hf (ev_pos (by omega) (Ev.now _)))
theorem l10Of_at (l : List S53) (hl : l.length ≤ 1048576) (hw : ∀ x ∈ l, wfA x) (id tx : Int) (hP : BookP l) (ht : 1 ≤ tx) (j : Nat) (hj : j < l.length) (hf : Ev (fun k => spec_l10Find.f k l id) (j : Int)) :
    Ev (fun k => spec_l10Of.f k l id tx) ((rd_T53 l j).f0, (rd_T53 l j).f1, (rd_T53 l j).f2, (rd_T53 l j).f3, (rd_T53 l j).f4, 0) := by
  obtain ⟨b, hb, hi⟩ := specBookOk_ev l hl hw
  unfold spec_l10Of.f
  refine Ev.bind hb (ev_pos (hi.2 hP) ?_)
  refine Ev.step (fun k => by rw [spec_l10Of.j0]) ?_
  exact ev_neg (by simp; omega) (Ev.bind hf (ev_neg (by omega) (ev_pos (by omega) (ev_pos (by omega) (Ev.now _)))))

/-- What is asked of an account alone. -/
def APx (x : S53) : Prop := ¬ x.f4 < 0 ∧ (x.f4 = 0 → x.f2 = 0 ∧ x.f3 = 0) ∧ x.f1 + x.f2 + x.f3 ≤ 18446744073709551615
theorem apx_at {l : List S53} (h : BookP l) {j : Nat} (hj : j < l.length) : APx (rd_T53 l j) := ⟨(h.2 j hj).1, (h.2 j hj).2.1, (h.2 j hj).2.2.1⟩
theorem bookP_set {l : List S53} (h : BookP l) {j : Nat} (hj : j < l.length) (Y : S53) (h0 : Y.f0 = (rd_T53 l j).f0) (hY : APx Y) : BookP (l.set j Y) := by
  refine ⟨by simpa using h.1, fun i hi => ?_⟩
  have hi' : i < l.length := by simpa using hi
  obtain ⟨a1, a2, a3, a4⟩ := h.2 i hi'
  have e1 : (rd_T53 (l.set j Y) (i - 1 : Nat)).f0 = (rd_T53 l (i - 1 : Nat)).f0 := by
    by_cases e : j = i - 1
    · rw [← e, rd_set_eq l j Y hj, h0]
    · rw [rd_set_ne l j _ Y e]
  unfold AP
  rw [e1]
  by_cases e : j = i
  · subst e
    rw [rd_set_eq l j Y hj]
    exact ⟨hY.1, hY.2.1, hY.2.2, fun hp => by rw [h0]; exact a4 hp⟩
  · rw [rd_set_ne l j i Y e]
    exact ⟨a1, a2, a3, a4⟩
theorem wf_set {l : List S53} (h : ∀ x ∈ l, wfA x) (j : Nat) {Y : S53} (hY : wfA Y) : ∀ x ∈ l.set j Y, wfA x := fun x hx => by
  rcases List.mem_or_eq_of_mem_set hx with h1 | rfl
  · exact h x h1
  · exact hY
theorem rd_ins (l : List S53) (p : Nat) (hp : p ≤ l.length) (y : S53) (i : Nat) : rd_T53 (l.take p ++ y :: l.drop p) i = if i < p then rd_T53 l i else if i = p then y else rd_T53 l (i - 1 : Nat) := by
  unfold rd_T53
  simp only [toNat_cast, List.getD_eq_getElem?_getD]
  by_cases h : i < p
  · rw [if_pos h, List.getElem?_append_left (by rw [List.length_take]; omega), List.getElem?_take_of_lt h]
  · rw [if_neg h, List.getElem?_append_right (by rw [List.length_take]; omega), List.length_take, Nat.min_eq_left hp]
    by_cases e : i = p
    · subst e; simp
    · rw [if_neg e]
      obtain ⟨m, hm⟩ : ∃ m, i - p = m + 1 := ⟨i - p - 1, by omega⟩
      rw [hm, List.getElem?_cons_succ, List.getElem?_drop]
      congr 2; omega
/-- A new account. -/
def newA (id : Int) : S53 := ⟨id, 0, 0, 0, 0⟩
theorem bookP_ins {l : List S53} (h : BookP l) (h40 : l.length ≠ 40) (id : Int) (p : Nat) (hp : p ≤ l.length) (hlo : ∀ j : Nat, j < p → (rd_T53 l j).f0 < id) (hhi : ∀ j : Nat, p ≤ j → j < l.length → id < (rd_T53 l j).f0) : BookP (l.take p ++ newA id :: l.drop p) := by
  have hlen : (l.take p ++ newA id :: l.drop p).length = l.length + 1 := by simp; omega
  refine ⟨by have := h.1; omega, fun i hi => ?_⟩
  rw [hlen] at hi
  unfold AP
  rw [rd_ins l p hp, rd_ins l p hp]
  by_cases h1 : i < p
  · rw [if_pos h1, if_pos (by omega)]
    exact h.2 i (by omega)
  · rw [if_neg h1]
    by_cases h2 : i = p
    · subst h2
      rw [if_pos rfl]
      refine ⟨by simp [newA], fun _ => ⟨rfl, rfl⟩, by simp [newA], fun h0 => ?_⟩
      rw [if_pos (by omega)]
      exact hlo (i - 1) (by omega)
    · rw [if_neg h2]
      obtain ⟨a1, a2, a3, a4⟩ := h.2 (i - 1) (by omega)
      refine ⟨a1, a2, a3, fun _ => ?_⟩
      by_cases h3 : i - 1 = p
      · rw [if_neg (by omega), if_pos h3]
        exact hhi (i - 1) (by omega) (by omega)
      · rw [if_neg (by omega), if_neg h3]
        exact a4 (by omega)
theorem wf_ins {l : List S53} (h : ∀ x ∈ l, wfA x) (p : Nat) {y : S53} (hy : wfA y) : ∀ x ∈ l.take p ++ y :: l.drop p, wfA x := fun x hx => by
  rcases List.mem_append.1 hx with h1 | h1
  · exact h x (List.mem_of_mem_take h1)
  · rcases List.mem_cons.1 h1 with rfl | h2
    · exact hy
    · exact h x (List.mem_of_mem_drop h2)
noncomputable instance (l : List S53) (id : Int) : Decidable (∃ j, AtJ l id j) := Classical.propDecidable _
/-- A change of the account of an id, if there is one and g lets it be. -/
noncomputable def chg (g : S53 → S53 × Int) (l : List S53) (id : Int) : List S53 × Int :=
  if h : ∃ j, AtJ l id j then (if (g (rd_T53 l (Classical.choose h : Nat))).2 = 0 then (l.set (Classical.choose h) (g (rd_T53 l (Classical.choose h : Nat))).1, 0) else (l, (g (rd_T53 l (Classical.choose h : Nat))).2)) else (l, 2)
theorem chg_at {l : List S53} (hP : BookP l) (g : S53 → S53 × Int) {id : Int} {j : Nat} (h : AtJ l id j) : chg g l id = if (g (rd_T53 l j)).2 = 0 then (l.set j (g (rd_T53 l j)).1, 0) else (l, (g (rd_T53 l j)).2) := by
  have he : ∃ j, AtJ l id j := ⟨j, h⟩
  have hc := Classical.choose_spec he
  have e : Classical.choose he = j := only hP hc.1 h.1 (hc.2.trans h.2.symm)
  unfold chg
  rw [dif_pos he, e]
theorem chg_no {l : List S53} (g : S53 → S53 × Int) {id : Int} (h : NoJ l id) : chg g l id = (l, 2) := by
  unfold chg
  rw [dif_neg (fun ⟨j, h1, h2⟩ => h j h1 h2)]
/-- g keeps an account as it should be. -/
def Keeps (g : S53 → S53 × Int) : Prop := ∀ x, APx x → wfA x → (g x).2 = 0 → (g x).1.f0 = x.f0 ∧ APx (g x).1 ∧ wfA (g x).1
theorem chg_keeps {g : S53 → S53 × Int} (hg : Keeps g) {l : List S53} (hP : BookP l) (hw : ∀ x ∈ l, wfA x) (id : Int) : BookP (chg g l id).1 ∧ (∀ x ∈ (chg g l id).1, wfA x) ∧ (chg g l id).1.length = l.length := by
  by_cases h : ∃ j, AtJ l id j
  · obtain ⟨j, h⟩ := h
    rw [chg_at hP g h]
    by_cases h0 : (g (rd_T53 l j)).2 = 0
    · rw [if_pos h0]
      obtain ⟨h1, h2, h3⟩ := hg _ (apx_at hP h.1) (wf_at hw j h.1) h0
      exact ⟨bookP_set hP h.1 _ h1 h2, wf_set hw j h3, by simp⟩
    · rw [if_neg h0]
      exact ⟨hP, hw, rfl⟩
  · rw [chg_no g (fun j h1 h2 => h ⟨j, h1, h2⟩)]
    exact ⟨hP, hw, rfl⟩
def gDep (m : Int) (x : S53) : S53 × Int := if x.f4 ≠ 0 then (x, 6) else if m > 18446744073709551615 - x.f1 then (x, 5) else (⟨x.f0, x.f1 + m, x.f2, x.f3, x.f4⟩, 0)
def gWdr (m : Int) (x : S53) : S53 × Int := if x.f4 ≠ 0 then (x, 6) else if m > x.f1 then (x, 4) else (⟨x.f0, x.f1 - m, x.f2, x.f3, x.f4⟩, 0)
def gLD (m tx : Int) (x : S53) : S53 × Int := if x.f4 ≠ 0 then (x, 6) else if m > x.f1 then (x, 4) else (⟨x.f0, x.f1 - m, m, x.f3, tx⟩, 0)
def gLC (m tx : Int) (x : S53) : S53 × Int := if x.f4 ≠ 0 then (x, 6) else if m > 18446744073709551615 - x.f1 then (x, 5) else (⟨x.f0, x.f1, x.f2, m, tx⟩, 0)
def gSet (tx : Int) (x : S53) : S53 × Int := if x.f4 ≠ tx then (x, 7) else (⟨x.f0, x.f1 + x.f3, 0, 0, 0⟩, 0)
def gRel (tx : Int) (x : S53) : S53 × Int := if x.f4 ≠ tx then (x, 7) else (⟨x.f0, x.f1 + x.f2, 0, 0, 0⟩, 0)
theorem gDep_keeps (m : Int) (h0 : 0 ≤ m) : Keeps (gDep m) := by
  intro x ⟨h1, h2, h3⟩ ⟨w0, w1, w2, w3, w4⟩ h
  unfold gDep at h ⊢
  by_cases c1 : x.f4 ≠ 0
  · rw [if_pos c1] at h; cases h
  rw [if_neg c1] at h ⊢
  by_cases c2 : m > 18446744073709551615 - x.f1
  · rw [if_pos c2] at h; cases h
  rw [if_neg c2]
  have := h2 (by omega)
  refine ⟨rfl, ⟨h1, h2, by show x.f1 + m + x.f2 + x.f3 ≤ _; omega⟩, w0, ?_, w2, w3, w4⟩
  show 0 ≤ x.f1 + m ∧ x.f1 + m ≤ _
  omega
theorem gWdr_keeps (m : Int) (h0 : 0 ≤ m) : Keeps (gWdr m) := by
  intro x ⟨h1, h2, h3⟩ ⟨w0, w1, w2, w3, w4⟩ h
  unfold gWdr at h ⊢
  by_cases c1 : x.f4 ≠ 0
  · rw [if_pos c1] at h; cases h
  rw [if_neg c1] at h ⊢
  by_cases c2 : m > x.f1
  · rw [if_pos c2] at h; cases h
  rw [if_neg c2]
  refine ⟨rfl, ⟨h1, h2, by show x.f1 - m + x.f2 + x.f3 ≤ _; omega⟩, w0, ?_, w2, w3, w4⟩
  show 0 ≤ x.f1 - m ∧ x.f1 - m ≤ _
  omega
theorem gLD_keeps (m tx : Int) (h0 : 0 ≤ m) (ht : 1 ≤ tx) (ht' : tx ≤ 9223372036854775807) : Keeps (gLD m tx) := by
  intro x ⟨h1, h2, h3⟩ ⟨w0, w1, w2, w3, w4⟩ h
  unfold gLD at h ⊢
  by_cases c1 : x.f4 ≠ 0
  · rw [if_pos c1] at h; cases h
  rw [if_neg c1] at h ⊢
  by_cases c2 : m > x.f1
  · rw [if_pos c2] at h; cases h
  rw [if_neg c2]
  have := h2 (by omega)
  refine ⟨rfl, ⟨by show ¬ tx < 0; omega, fun e => by have : tx = 0 := e; omega, by show x.f1 - m + m + x.f3 ≤ _; omega⟩, w0, ?_, ?_, w3, ?_⟩
  · show 0 ≤ x.f1 - m ∧ x.f1 - m ≤ _; omega
  · show 0 ≤ m ∧ m ≤ _; omega
  · show _ ≤ tx ∧ tx ≤ _; omega
theorem gLC_keeps (m tx : Int) (h0 : 0 ≤ m) (ht : 1 ≤ tx) (ht' : tx ≤ 9223372036854775807) : Keeps (gLC m tx) := by
  intro x ⟨h1, h2, h3⟩ ⟨w0, w1, w2, w3, w4⟩ h
  unfold gLC at h ⊢
  by_cases c1 : x.f4 ≠ 0
  · rw [if_pos c1] at h; cases h
  rw [if_neg c1] at h ⊢
  by_cases c2 : m > 18446744073709551615 - x.f1
  · rw [if_pos c2] at h; cases h
  rw [if_neg c2]
  have := h2 (by omega)
  refine ⟨rfl, ⟨by show ¬ tx < 0; omega, fun e => by have : tx = 0 := e; omega, by show x.f1 + x.f2 + m ≤ _; omega⟩, w0, w1, w2, ?_, ?_⟩
  · show 0 ≤ m ∧ m ≤ _; omega
  · show _ ≤ tx ∧ tx ≤ _; omega
theorem gSet_keeps (tx : Int) : Keeps (gSet tx) := by
  intro x ⟨h1, h2, h3⟩ ⟨w0, w1, w2, w3, w4⟩ h
  unfold gSet at h ⊢
  by_cases c1 : x.f4 ≠ tx
  · rw [if_pos c1] at h; cases h
  rw [if_neg c1]
  refine ⟨rfl, ⟨by simp, fun _ => ⟨rfl, rfl⟩, by show x.f1 + x.f3 + 0 + 0 ≤ _; omega⟩, w0, ?_, by simp, by simp, by simp⟩
  show 0 ≤ x.f1 + x.f3 ∧ x.f1 + x.f3 ≤ _
  omega
theorem gRel_keeps (tx : Int) : Keeps (gRel tx) := by
  intro x ⟨h1, h2, h3⟩ ⟨w0, w1, w2, w3, w4⟩ h
  unfold gRel at h ⊢
  by_cases c1 : x.f4 ≠ tx
  · rw [if_pos c1] at h; cases h
  rw [if_neg c1]
  refine ⟨rfl, ⟨by simp, fun _ => ⟨rfl, rfl⟩, by show x.f1 + x.f2 + 0 + 0 ≤ _; omega⟩, w0, ?_, by simp, by simp, by simp⟩
  show 0 ≤ x.f1 + x.f2 ∧ x.f1 + x.f2 ≤ _
  omega

theorem drop53 (l : List S53) (i : Nat) (h : i < l.length) : l.drop i = rd_T53 l i :: l.drop (i + 1) := by
  unfold rd_T53
  rw [toNat_cast, getD_lt l i z53 h]
  exact List.drop_eq_getElem_cons h
theorem open_2 (l : List S53) (hl : l.length ≤ 1048576) (id : Int) (d : Nat) : ∀ (i : Nat) (acc : List S53), l.length = i + d → acc.length ≤ i + 1 → Ev (fun k => spec_OpenAccount.l0 k id true i l acc) (acc ++ l.drop i, 0) := by
  induction d with
  | zero =>
    intro i acc hd ha
    refine Ev.step (fun k => by rw [spec_OpenAccount.l0]) ?_
    refine ev_neg (by omega) (ev_pos rfl ?_)
    rw [List.drop_of_length_le (by omega), List.append_nil]
    exact Ev.now _
  | succ d ih =>
    intro i acc hd ha
    refine Ev.step (fun k => by rw [spec_OpenAccount.l0]) ?_
    refine ev_pos (by omega) (ev_pos rfl (ev_pos (by omega) (ev_pos (by omega) ?_)))
    rw [wsucc (n := l.length) (by omega) (by omega)]
    have := ih (i + 1) (acc ++ [rd_T53 l i]) (by omega) (by simp; omega)
    rw [List.append_assoc, List.singleton_append, ← drop53 l i (by omega)] at this
    exact this
theorem open_1 (l : List S53) (hl : l.length ≤ 1048576) (id : Int) (p : Nat) (hp : p ≤ l.length) (hb : ∀ j : Nat, j < p → (rd_T53 l j).f0 < id) (ha : ∀ j : Nat, p ≤ j → j < l.length → id < (rd_T53 l j).f0) (d : Nat) : ∀ i : Nat, i + d = p → Ev (fun k => spec_OpenAccount.l0 k id false i l (l.take i)) (l.take p ++ ⟨id, 0, 0, 0, 0⟩ :: l.drop p, 0) := by
  induction d with
  | zero =>
    intro i hd
    obtain rfl : i = p := by omega
    have h1 := List.length_take_le i l
    refine Ev.step (fun k => by rw [spec_OpenAccount.l0]) ?_
    by_cases hn : i < l.length
    · have := ha i (Nat.le_refl _) hn
      refine ev_pos (by omega) (ev_neg (by simp) (ev_pos (by omega) (ev_pos (by omega) (ev_pos (by omega) (Ev.bind (Ev.now _) (ev_pos (by simp; omega) ?_))))))
      rw [wsucc (n := l.length) (by omega) (by omega)]
      have := open_2 l hl id (l.length - (i + 1)) (i + 1) (l.take i ++ [⟨id, 0, 0, 0, 0⟩] ++ [rd_T53 l i]) (by omega) (by simp; omega)
      have e : l.take i ++ [⟨id, 0, 0, 0, 0⟩] ++ [rd_T53 l i] ++ l.drop (i + 1) = l.take i ++ (⟨id, 0, 0, 0, 0⟩ : S53) :: l.drop i := by rw [drop53 l i hn]; simp
      rw [e] at this
      exact this
    · refine ev_neg (by omega) (ev_neg (by simp) (ev_pos (by omega) ?_))
      rw [List.drop_of_length_le (by omega)]
      exact Ev.now _
  | succ d ih =>
    intro i hd
    have h1 := List.length_take_le i l
    have := hb i (by omega)
    refine Ev.step (fun k => by rw [spec_OpenAccount.l0]) ?_
    refine ev_pos (by omega) (ev_neg (by simp) (ev_pos (by omega) (ev_neg (by omega) (ev_pos (by omega) ?_))))
    rw [wsucc (n := l.length) (by omega) (by omega)]
    have := ih (i + 1) (by omega)
    rw [take_succ_getD l i z53 (by omega)] at this
    unfold rd_T53
    rw [toNat_cast]
    exact this
/-- What the opening of an account answers. -/
def OpenR (l : List S53) (id : Int) (r : List S53 × Int) : Prop :=
  (∃ j, AtJ l id j ∧ r = (l, 3)) ∨ (NoJ l id ∧ l.length = 40 ∧ r = (l, 1)) ∨
  (NoJ l id ∧ l.length ≠ 40 ∧ ∃ p : Nat, p ≤ l.length ∧ (∀ j : Nat, j < p → (rd_T53 l j).f0 < id) ∧ (∀ j : Nat, p ≤ j → j < l.length → id < (rd_T53 l j).f0) ∧ r = (l.take p ++ newA id :: l.drop p, 0))
theorem openR_keeps {l : List S53} (hP : BookP l) (hw : ∀ x ∈ l, wfA x) {id : Int} (h0 : 0 ≤ id) (h1 : id ≤ 18446744073709551615) {r : List S53 × Int} (h : OpenR l id r) : BookP r.1 ∧ ∀ x ∈ r.1, wfA x := by
  rcases h with ⟨_, _, rfl⟩ | ⟨_, _, rfl⟩ | ⟨_, h40, p, hp, hlo, hhi, rfl⟩
  · exact ⟨hP, hw⟩
  · exact ⟨hP, hw⟩
  · exact ⟨bookP_ins hP h40 id p hp hlo hhi, wf_ins hw p ⟨⟨h0, h1⟩, by simp [newA], by simp [newA], by simp [newA], by simp [newA]⟩⟩
theorem sOpen_ev (l : List S53) (hl : l.length ≤ 1048576) (hw : ∀ x ∈ l, wfA x) (hP : BookP l) (a1 : Int) : ∃ r, OpenR l a1 r ∧ Ev (fun k => spec_OpenAccount.f k l a1) r := by
  have hcp := l10Copy_ev l hl
  obtain ⟨b, hb, hi⟩ := specBookOk_ev l hl hw
  have ht := hi.2 hP
  unfold spec_OpenAccount.f
  rcases find_ev l hl hP a1 with ⟨j, hj, hs, hi'⟩ | ⟨p, hn, hp, hlo, hhi, hs, hi'⟩
  · exact ⟨(l, 3), .inl ⟨j, hj, rfl⟩, Ev.bind hb (ev_pos ht (Ev.bind hs (ev_pos (by omega) (Ev.bind hcp (Ev.now _)))))⟩
  by_cases h40 : (l.length : Int) = 40
  · exact ⟨(l, 1), .inr (.inl ⟨hn, by omega, rfl⟩), Ev.bind hb (ev_pos ht (Ev.bind hs (ev_neg (by omega) (ev_pos h40 (Ev.bind hcp (Ev.now _))))))⟩
  refine ⟨(l.take p ++ newA a1 :: l.drop p, 0), .inr (.inr ⟨hn, by omega, p, hp, hlo, hhi, rfl⟩), Ev.bind hb (ev_pos ht (Ev.bind hs (ev_neg (by omega) (ev_neg h40 ?_))))⟩
  exact open_1 l hl a1 p hp hlo hhi p 0 (by omega)

theorem sDeposit_ev (l : List S53) (hl : l.length ≤ 1048576) (hw : ∀ x ∈ l, wfA x) (hP : BookP l) (a1 a2 : Int) (h0 : 0 ≤ a2) (h1 : a2 ≤ 18446744073709551615) : Ev (fun k => spec_Deposit.f k l a1 a2) (chg (gDep a2) l a1) := by
  have hcp := l10Copy_ev l hl
  unfold spec_Deposit.f
  rcases find_ev l hl hP a1 with ⟨j, hj, hs, hi⟩ | ⟨p, hno, _, _, _, hs, hi⟩
  rotate_left
  · rw [chg_no _ hno]
    exact Ev.bind (l10Of_none l hl hw a1 1 hP (by omega) hs) (ev_neg (by simp) (Ev.bind hcp (Ev.now _)))
  rw [chg_at hP _ hj]
  obtain ⟨q1, q2, q3⟩ := apx_at hP hj.1
  obtain ⟨⟨a0, b0⟩, ⟨c1, d1⟩, ⟨c2, d2⟩, ⟨c3, d3⟩, ⟨c4, d4⟩⟩ := wf_at hw j hj.1
  have hO := l10Of_at l hl hw a1 1 hP (by omega) j hj.1 hs
  by_cases h4 : (rd_T53 l j).f4 = 0
  rotate_left
  · rw [show (gDep a2) (rd_T53 l j) = ((rd_T53 l j), 6) from if_pos h4, if_neg (by simp)]
    exact Ev.bind hO (ev_pos rfl (ev_neg h4 (Ev.bind hcp (Ev.now _))))
  have gU := u64w (x := 18446744073709551615 - (rd_T53 l j).f1) (by omega) (by omega)
  by_cases h5 : a2 > 18446744073709551615 - (rd_T53 l j).f1
  · rw [show (gDep a2) (rd_T53 l j) = ((rd_T53 l j), 5) from (if_neg (not_not_intro h4)).trans (if_pos h5), if_neg (by simp)]
    exact Ev.bind hO (ev_pos rfl (ev_pos h4 (ev_pos (by rw [gU]; exact h5) (Ev.bind hcp (Ev.now _)))))
  rw [show (gDep a2) (rd_T53 l j) = (⟨(rd_T53 l j).f0, (rd_T53 l j).f1 + a2, (rd_T53 l j).f2, (rd_T53 l j).f3, (rd_T53 l j).f4⟩, 0) from (if_neg (not_not_intro h4)).trans (if_neg h5), if_pos rfl]
  have w1 := l10With_at hl hP ⟨(rd_T53 l j).f0, (rd_T53 l j).f1 + a2, (rd_T53 l j).f2, (rd_T53 l j).f3, (rd_T53 l j).f4⟩ j ⟨hj.1, rfl⟩
  refine Ev.bind hO (ev_pos rfl (ev_pos h4 (ev_neg (by rw [gU]; exact h5) ?_)))
  rw [u64w (x := (rd_T53 l j).f1 + a2) (by omega) (by omega)]
  exact Ev.bind w1 (Ev.now _)

theorem sWithdraw_ev (l : List S53) (hl : l.length ≤ 1048576) (hw : ∀ x ∈ l, wfA x) (hP : BookP l) (a1 a2 : Int) (h0 : 0 ≤ a2) (h1 : a2 ≤ 18446744073709551615) : Ev (fun k => spec_Withdraw.f k l a1 a2) (chg (gWdr a2) l a1) := by
  have hcp := l10Copy_ev l hl
  unfold spec_Withdraw.f
  rcases find_ev l hl hP a1 with ⟨j, hj, hs, hi⟩ | ⟨p, hno, _, _, _, hs, hi⟩
  rotate_left
  · rw [chg_no _ hno]
    exact Ev.bind (l10Of_none l hl hw a1 1 hP (by omega) hs) (ev_neg (by simp) (Ev.bind hcp (Ev.now _)))
  rw [chg_at hP _ hj]
  obtain ⟨q1, q2, q3⟩ := apx_at hP hj.1
  obtain ⟨⟨a0, b0⟩, ⟨c1, d1⟩, ⟨c2, d2⟩, ⟨c3, d3⟩, ⟨c4, d4⟩⟩ := wf_at hw j hj.1
  have hO := l10Of_at l hl hw a1 1 hP (by omega) j hj.1 hs
  by_cases h4 : (rd_T53 l j).f4 = 0
  rotate_left
  · rw [show (gWdr a2) (rd_T53 l j) = ((rd_T53 l j), 6) from if_pos h4, if_neg (by simp)]
    exact Ev.bind hO (ev_pos rfl (ev_neg h4 (Ev.bind hcp (Ev.now _))))
  by_cases h5 : a2 > (rd_T53 l j).f1
  · rw [show (gWdr a2) (rd_T53 l j) = ((rd_T53 l j), 4) from (if_neg (not_not_intro h4)).trans (if_pos h5), if_neg (by simp)]
    exact Ev.bind hO (ev_pos rfl (ev_pos h4 (ev_pos h5 (Ev.bind hcp (Ev.now _)))))
  rw [show (gWdr a2) (rd_T53 l j) = (⟨(rd_T53 l j).f0, (rd_T53 l j).f1 - a2, (rd_T53 l j).f2, (rd_T53 l j).f3, (rd_T53 l j).f4⟩, 0) from (if_neg (not_not_intro h4)).trans (if_neg h5), if_pos rfl]
  have w1 := l10With_at hl hP ⟨(rd_T53 l j).f0, (rd_T53 l j).f1 - a2, (rd_T53 l j).f2, (rd_T53 l j).f3, (rd_T53 l j).f4⟩ j ⟨hj.1, rfl⟩
  refine Ev.bind hO (ev_pos rfl (ev_pos h4 (ev_neg h5 ?_)))
  rw [u64w (x := (rd_T53 l j).f1 - a2) (by omega) (by omega)]
  exact Ev.bind w1 (Ev.now _)

theorem sLockDebit_ev (l : List S53) (hl : l.length ≤ 1048576) (hw : ∀ x ∈ l, wfA x) (hP : BookP l) (a1 a2 a3 : Int) (h0 : 0 ≤ a2) (h1 : a2 ≤ 18446744073709551615) (ht : 1 ≤ a3) (ht' : a3 ≤ 9223372036854775807) : Ev (fun k => spec_LockDebit.f k l a1 a2 a3) (chg (gLD a2 a3) l a1) := by
  have hcp := l10Copy_ev l hl
  unfold spec_LockDebit.f
  rcases find_ev l hl hP a1 with ⟨j, hj, hs, hi⟩ | ⟨p, hno, _, _, _, hs, hi⟩
  rotate_left
  · rw [chg_no _ hno]
    exact Ev.bind (l10Of_none l hl hw a1 a3 hP (by omega) hs) (ev_neg (by simp) (Ev.bind hcp (Ev.now _)))
  rw [chg_at hP _ hj]
  obtain ⟨q1, q2, q3⟩ := apx_at hP hj.1
  obtain ⟨⟨a0, b0⟩, ⟨c1, d1⟩, ⟨c2, d2⟩, ⟨c3, d3⟩, ⟨c4, d4⟩⟩ := wf_at hw j hj.1
  have hO := l10Of_at l hl hw a1 a3 hP (by omega) j hj.1 hs
  by_cases h4 : (rd_T53 l j).f4 = 0
  rotate_left
  · rw [show (gLD a2 a3) (rd_T53 l j) = ((rd_T53 l j), 6) from if_pos h4, if_neg (by simp)]
    exact Ev.bind hO (ev_pos rfl (ev_neg h4 (Ev.bind hcp (Ev.now _))))
  by_cases h5 : a2 > (rd_T53 l j).f1
  · rw [show (gLD a2 a3) (rd_T53 l j) = ((rd_T53 l j), 4) from (if_neg (not_not_intro h4)).trans (if_pos h5), if_neg (by simp)]
    exact Ev.bind hO (ev_pos rfl (ev_pos h4 (ev_pos h5 (Ev.bind hcp (Ev.now _)))))
  rw [show (gLD a2 a3) (rd_T53 l j) = (⟨(rd_T53 l j).f0, (rd_T53 l j).f1 - a2, a2, (rd_T53 l j).f3, a3⟩, 0) from (if_neg (not_not_intro h4)).trans (if_neg h5), if_pos rfl]
  have w1 := l10With_at hl hP ⟨(rd_T53 l j).f0, (rd_T53 l j).f1 - a2, a2, (rd_T53 l j).f3, a3⟩ j ⟨hj.1, rfl⟩
  refine Ev.bind hO (ev_pos rfl (ev_pos h4 (ev_neg h5 ?_)))
  rw [u64w (x := (rd_T53 l j).f1 - a2) (by omega) (by omega)]
  exact Ev.bind w1 (Ev.now _)

theorem sLockCredit_ev (l : List S53) (hl : l.length ≤ 1048576) (hw : ∀ x ∈ l, wfA x) (hP : BookP l) (a1 a2 a3 : Int) (h0 : 0 ≤ a2) (h1 : a2 ≤ 18446744073709551615) (ht : 1 ≤ a3) (ht' : a3 ≤ 9223372036854775807) : Ev (fun k => spec_LockCredit.f k l a1 a2 a3) (chg (gLC a2 a3) l a1) := by
  have hcp := l10Copy_ev l hl
  unfold spec_LockCredit.f
  rcases find_ev l hl hP a1 with ⟨j, hj, hs, hi⟩ | ⟨p, hno, _, _, _, hs, hi⟩
  rotate_left
  · rw [chg_no _ hno]
    exact Ev.bind (l10Of_none l hl hw a1 a3 hP (by omega) hs) (ev_neg (by simp) (Ev.bind hcp (Ev.now _)))
  rw [chg_at hP _ hj]
  obtain ⟨q1, q2, q3⟩ := apx_at hP hj.1
  obtain ⟨⟨a0, b0⟩, ⟨c1, d1⟩, ⟨c2, d2⟩, ⟨c3, d3⟩, ⟨c4, d4⟩⟩ := wf_at hw j hj.1
  have hO := l10Of_at l hl hw a1 a3 hP (by omega) j hj.1 hs
  by_cases h4 : (rd_T53 l j).f4 = 0
  rotate_left
  · rw [show (gLC a2 a3) (rd_T53 l j) = ((rd_T53 l j), 6) from if_pos h4, if_neg (by simp)]
    exact Ev.bind hO (ev_pos rfl (ev_neg h4 (Ev.bind hcp (Ev.now _))))
  have gU := u64w (x := 18446744073709551615 - (rd_T53 l j).f1) (by omega) (by omega)
  by_cases h5 : a2 > 18446744073709551615 - (rd_T53 l j).f1
  · rw [show (gLC a2 a3) (rd_T53 l j) = ((rd_T53 l j), 5) from (if_neg (not_not_intro h4)).trans (if_pos h5), if_neg (by simp)]
    exact Ev.bind hO (ev_pos rfl (ev_pos h4 (ev_pos (by rw [gU]; exact h5) (Ev.bind hcp (Ev.now _)))))
  rw [show (gLC a2 a3) (rd_T53 l j) = (⟨(rd_T53 l j).f0, (rd_T53 l j).f1, (rd_T53 l j).f2, a2, a3⟩, 0) from (if_neg (not_not_intro h4)).trans (if_neg h5), if_pos rfl]
  have w1 := l10With_at hl hP ⟨(rd_T53 l j).f0, (rd_T53 l j).f1, (rd_T53 l j).f2, a2, a3⟩ j ⟨hj.1, rfl⟩
  refine Ev.bind hO (ev_pos rfl (ev_pos h4 (ev_neg (by rw [gU]; exact h5) ?_)))
  exact Ev.bind w1 (Ev.now _)

theorem sSettleHold_ev (l : List S53) (hl : l.length ≤ 1048576) (hw : ∀ x ∈ l, wfA x) (hP : BookP l) (a1 a2 : Int) (ht : 1 ≤ a2) : Ev (fun k => spec_SettleHold.f k l a1 a2) (chg (gSet a2) l a1) := by
  have hcp := l10Copy_ev l hl
  unfold spec_SettleHold.f
  rcases find_ev l hl hP a1 with ⟨j, hj, hs, hi⟩ | ⟨p, hno, _, _, _, hs, hi⟩
  rotate_left
  · rw [chg_no _ hno]
    exact Ev.bind (l10Of_none l hl hw a1 a2 hP (by omega) hs) (ev_neg (by simp) (Ev.bind hcp (Ev.now _)))
  rw [chg_at hP _ hj]
  obtain ⟨q1, q2, q3⟩ := apx_at hP hj.1
  obtain ⟨⟨a0, b0⟩, ⟨c1, d1⟩, ⟨c2, d2⟩, ⟨c3, d3⟩, ⟨c4, d4⟩⟩ := wf_at hw j hj.1
  have hO := l10Of_at l hl hw a1 a2 hP (by omega) j hj.1 hs
  by_cases h4 : (rd_T53 l j).f4 = a2
  rotate_left
  · rw [show (gSet a2) (rd_T53 l j) = ((rd_T53 l j), 7) from if_pos h4, if_neg (by simp)]
    exact Ev.bind hO (ev_pos rfl (ev_neg h4 (Ev.bind hcp (Ev.now _))))
  rw [show (gSet a2) (rd_T53 l j) = (⟨(rd_T53 l j).f0, (rd_T53 l j).f1 + (rd_T53 l j).f3, 0, 0, 0⟩, 0) from if_neg (not_not_intro h4), if_pos rfl]
  have w1 := l10With_at hl hP ⟨(rd_T53 l j).f0, (rd_T53 l j).f1 + (rd_T53 l j).f3, 0, 0, 0⟩ j ⟨hj.1, rfl⟩
  refine Ev.bind hO (ev_pos rfl (ev_pos h4 ?_))
  rw [u64w (x := (rd_T53 l j).f1 + (rd_T53 l j).f3) (by omega) (by omega)]
  rw [show a1 = (rd_T53 l j).f0 from hj.2.symm]
  exact Ev.bind w1 (Ev.now _)

theorem sReleaseHold_ev (l : List S53) (hl : l.length ≤ 1048576) (hw : ∀ x ∈ l, wfA x) (hP : BookP l) (a1 a2 : Int) (ht : 1 ≤ a2) : Ev (fun k => spec_ReleaseHold.f k l a1 a2) (chg (gRel a2) l a1) := by
  have hcp := l10Copy_ev l hl
  unfold spec_ReleaseHold.f
  rcases find_ev l hl hP a1 with ⟨j, hj, hs, hi⟩ | ⟨p, hno, _, _, _, hs, hi⟩
  rotate_left
  · rw [chg_no _ hno]
    exact Ev.bind (l10Of_none l hl hw a1 a2 hP (by omega) hs) (ev_neg (by simp) (Ev.bind hcp (Ev.now _)))
  rw [chg_at hP _ hj]
  obtain ⟨q1, q2, q3⟩ := apx_at hP hj.1
  obtain ⟨⟨a0, b0⟩, ⟨c1, d1⟩, ⟨c2, d2⟩, ⟨c3, d3⟩, ⟨c4, d4⟩⟩ := wf_at hw j hj.1
  have hO := l10Of_at l hl hw a1 a2 hP (by omega) j hj.1 hs
  by_cases h4 : (rd_T53 l j).f4 = a2
  rotate_left
  · rw [show (gRel a2) (rd_T53 l j) = ((rd_T53 l j), 7) from if_pos h4, if_neg (by simp)]
    exact Ev.bind hO (ev_pos rfl (ev_neg h4 (Ev.bind hcp (Ev.now _))))
  rw [show (gRel a2) (rd_T53 l j) = (⟨(rd_T53 l j).f0, (rd_T53 l j).f1 + (rd_T53 l j).f2, 0, 0, 0⟩, 0) from if_neg (not_not_intro h4), if_pos rfl]
  have w1 := l10With_at hl hP ⟨(rd_T53 l j).f0, (rd_T53 l j).f1 + (rd_T53 l j).f2, 0, 0, 0⟩ j ⟨hj.1, rfl⟩
  refine Ev.bind hO (ev_pos rfl (ev_pos h4 ?_))
  rw [u64w (x := (rd_T53 l j).f1 + (rd_T53 l j).f2) (by omega) (by omega)]
  rw [show a1 = (rd_T53 l j).f0 from hj.2.symm]
  exact Ev.bind w1 (Ev.now _)

theorem bl {l : List S53} (h : BookP l) : l.length ≤ 1048576 := by have := h.1; omega
/-- All ids are of those that are drawn. -/
def Ids (l : List S53) : Prop := ∀ j : Nat, j < l.length → In8 (rd_T53 l j).f0
theorem chg_ids {g : S53 → S53 × Int} (hg : Keeps g) {l : List S53} (hP : BookP l) (hw : ∀ x ∈ l, wfA x) (hI : Ids l) (id : Int) : Ids (chg g l id).1 := by
  by_cases h : ∃ j, AtJ l id j
  · obtain ⟨j, h⟩ := h
    rw [chg_at hP g h]
    by_cases h0 : (g (rd_T53 l j)).2 = 0
    · rw [if_pos h0]
      intro i hi
      have hi' : i < l.length := by simpa using hi
      by_cases e : j = i
      · subst e
        rw [rd_set_eq l j _ h.1, (hg _ (apx_at hP h.1) (wf_at hw j h.1) h0).1]
        exact hI j h.1
      · rw [rd_set_ne l j i _ e]
        exact hI i hi'
    · rw [if_neg h0]; exact hI
  · rw [chg_no g (fun j h1 h2 => h ⟨j, h1, h2⟩)]; exact hI
theorem openR_ids {l : List S53} (hI : Ids l) {id : Int} (h8 : In8 id) {r : List S53 × Int} (h : OpenR l id r) : Ids r.1 := by
  rcases h with ⟨_, _, rfl⟩ | ⟨_, _, rfl⟩ | ⟨_, h40, p, hp, hlo, hhi, rfl⟩
  · exact hI
  · exact hI
  · intro i hi
    have hlen : (l.take p ++ newA id :: l.drop p).length = l.length + 1 := by simp; omega
    rw [hlen] at hi
    rw [rd_ins l p hp]
    by_cases h1 : i < p
    · rw [if_pos h1]; exact hI i (by omega)
    · rw [if_neg h1]
      by_cases h2 : i = p
      · rw [if_pos h2]; exact h8
      · rw [if_neg h2]; exact hI (i - 1) (by omega)
/-- A drawn book has few accounts. -/
theorem few {l : List S53} (hP : BookP l) (hI : Ids l) : l.length ≤ 8 := by
  apply Classical.byContradiction
  intro hn
  have h0 : (rd_T53 l (0 : Nat)).f0 ≥ 0 := by have := hI 0 (by omega); unfold In8 at this; omega
  have h1 : (rd_T53 l (1 : Nat)).f0 ≥ 1 := by have := hI 1 (by omega); have := sorted_lt hP (show 0 < 1 by omega) (show 1 < l.length by omega); omega
  have h2 : (rd_T53 l (2 : Nat)).f0 ≥ 2 := by have := hI 2 (by omega); have := sorted_lt hP (show 1 < 2 by omega) (show 2 < l.length by omega); omega
  have h3 : (rd_T53 l (3 : Nat)).f0 ≥ 5 := by have z := hI 3 (by omega); have := sorted_lt hP (show 2 < 3 by omega) (show 3 < l.length by omega); unfold In8 at z; omega
  have h4 : (rd_T53 l (4 : Nat)).f0 ≥ 9 := by have z := hI 4 (by omega); have := sorted_lt hP (show 3 < 4 by omega) (show 4 < l.length by omega); unfold In8 at z; omega
  have h5 : (rd_T53 l (5 : Nat)).f0 ≥ 100 := by have z := hI 5 (by omega); have := sorted_lt hP (show 4 < 5 by omega) (show 5 < l.length by omega); unfold In8 at z; omega
  have h6 : (rd_T53 l (6 : Nat)).f0 ≥ 9223372036854775808 := by have z := hI 6 (by omega); have := sorted_lt hP (show 5 < 6 by omega) (show 6 < l.length by omega); unfold In8 at z; omega
  have h7 : (rd_T53 l (7 : Nat)).f0 ≥ 18446744073709551615 := by have z := hI 7 (by omega); have := sorted_lt hP (show 6 < 7 by omega) (show 7 < l.length by omega); unfold In8 at z; omega
  have z := hI 8 (by omega)
  have := sorted_lt hP (show 7 < 8 by omega) (show 8 < l.length by omega)
  unfold In8 at z
  omega
theorem drawRight_1 (b : List Int) (hb : b.length ≤ 1048576) (d : Nat) : ∀ (i h : Int) (l : List S53), d ≤ 1000 → 0 ≤ i → BookP l → (∀ x ∈ l, wfA x) → Ids l → ∃ r i' h', Ev (fun k => spec_l10DrawRight.l1 k d b i h l) (r, i', h') ∧ 0 ≤ i' ∧ BookP r ∧ (∀ x ∈ r, wfA x) ∧ Ids r := by
  induction d with
  | zero =>
    intro i h l _ h0 hP hw hI
    refine ⟨l, i, h, ?_, h0, hP, hw, hI⟩
    refine Ev.step (fun k => by rw [spec_l10DrawRight.l1]) ?_
    exact ev_neg (by omega) (Ev.now _)
  | succ d ih =>
    intro i h l hd h0 hP hw hI
    obtain ⟨id, i1, h1, e1, g1, id8⟩ := drawId_ev b hb i h h0
    obtain ⟨am, i2, h2, e2, g2, am0, am1⟩ := drawAmount_ev b hb i1 h1 g1
    obtain ⟨t, i3, h3, e3, g3, t0, t1, _⟩ := below_ev b hb i2 h2 4 g2
    obtain ⟨q, i4, h4, e4, g4, q0, q1, _⟩ := below_ev b hb i3 h3 9 g3
    have ht := t1 (by decide)
    have hwt : wrap64 (1 + t) = 1 + t := w64 (by omega) (by omega)
    have hwd : wrap64 (((d + 1 : Nat) : Int) - 1) = (d : Int) := by rw [w64 (by omega) (by omega)]; omega
    have fin : ∀ l' : List S53, BookP l' → (∀ x ∈ l', wfA x) → Ids l' → ∃ r i' h', Ev (fun k => spec_l10DrawRight.l1 k (d : Int) b i4 h4 l') (r, i', h') ∧ 0 ≤ i' ∧ BookP r ∧ (∀ x ∈ r, wfA x) ∧ Ids r := fun l' hP' hw' hI' => ih i4 h4 l' (by omega) g4 hP' hw' hI'
    have pre : ∀ {r i' h'} (c : Bool), (q = 0 → c = true) → (q = 1 → c = true) → (q = 2 → c = true) → (q > 2 → c = false) → Ev (fun k => spec_l10DrawRight.j2 k ((d + 1 : Nat) : Int) id am (1 + t) q c b i4 h4 l) (r, i', h') → Ev (fun k => spec_l10DrawRight.l1 k ((d + 1 : Nat) : Int) b i h l) (r, i', h') := fun {r i' h'} c c0 c1 c2 c3 hc => by
      refine Ev.step (fun k => by rw [spec_l10DrawRight.l1]) ?_
      refine ev_pos (by omega) (Ev.bind (ev_const e1) (Ev.bind e2 (Ev.bind (ev_const e3) (Ev.bind (ev_const e4) ?_))))
      show Ev (fun k => if q = 0 then (spec_l10DrawRight.j2 k ((d + 1 : Nat) : Int) id am (wrap64 (1 + t)) q (q == 0) b i4 h4 l) else (if q = 1 then (spec_l10DrawRight.j2 k ((d + 1 : Nat) : Int) id am (wrap64 (1 + t)) q (q == 1) b i4 h4 l) else (spec_l10DrawRight.j2 k ((d + 1 : Nat) : Int) id am (wrap64 (1 + t)) q (q == 2) b i4 h4 l))) _
      rw [hwt]
      by_cases z0 : q = 0
      · refine ev_pos z0 ?_
        rw [show (q == 0) = c by rw [c0 z0]; simpa using z0]; exact hc
      · refine ev_neg z0 ?_
        by_cases z1 : q = 1
        · refine ev_pos z1 ?_
          rw [show (q == 1) = c by rw [c1 z1]; simpa using z1]; exact hc
        · refine ev_neg z1 ?_
          by_cases z2 : q = 2
          · rw [show (q == 2) = c by rw [c2 z2]; simpa using z2]; exact hc
          · rw [show (q == 2) = c by rw [c3 (by omega)]; simpa using z2]; exact hc
    have hl := bl hP
    by_cases z2 : q ≤ 2
    · have hk := chg_keeps (gDep_keeps am am0) hP hw id
      obtain ⟨r, i', h', hr, k0, k1, k2⟩ := fin _ hk.1 hk.2.1 (chg_ids (gDep_keeps am am0) hP hw hI id)
      refine ⟨r, i', h', pre true (fun _ => rfl) (fun _ => rfl) (fun _ => rfl) (fun h => by omega) ?_, k0, k1, k2⟩
      refine Ev.step (fun k => by rw [spec_l10DrawRight.j2]) ?_
      rw [hwd]
      exact ev_pos rfl (Ev.bind (sDeposit_ev l hl hw hP id am am0 am1) hr)
    have pre' : ∀ {r i' h'}, Ev (fun k => if q = 3 then ((spec_Withdraw.f k l id am).bind fun bt447 => (spec_l10DrawRight.l1 k (d : Int) b i4 h4 bt447.1)) else (if q = 4 then ((spec_LockDebit.f k l id am (1 + t)).bind fun bt451 => (spec_l10DrawRight.l1 k (d : Int) b i4 h4 bt451.1)) else (if q = 5 then ((spec_LockCredit.f k l id am (1 + t)).bind fun bt455 => (spec_l10DrawRight.l1 k (d : Int) b i4 h4 bt455.1)) else (if q = 6 then ((spec_SettleHold.f k l id (1 + t)).bind fun bt459 => (spec_l10DrawRight.l1 k (d : Int) b i4 h4 bt459.1)) else (if q = 7 then ((spec_ReleaseHold.f k l id (1 + t)).bind fun bt463 => (spec_l10DrawRight.l1 k (d : Int) b i4 h4 bt463.1)) else ((spec_OpenAccount.f k l id).bind fun bt467 => (spec_l10DrawRight.l1 k (d : Int) b i4 h4 bt467.1))))))) (r, i', h') → Ev (fun k => spec_l10DrawRight.l1 k ((d + 1 : Nat) : Int) b i h l) (r, i', h') := fun {r i' h'} hc => by
      refine pre false (fun h => by omega) (fun h => by omega) (fun h => by omega) (fun _ => rfl) ?_
      refine Ev.step (fun k => by rw [spec_l10DrawRight.j2]) ?_
      rw [hwd]
      exact ev_neg (by simp) hc
    by_cases z3 : q = 3
    · have hk := chg_keeps (gWdr_keeps am am0) hP hw id
      obtain ⟨r, i', h', hr, k0, k1, k2⟩ := fin _ hk.1 hk.2.1 (chg_ids (gWdr_keeps am am0) hP hw hI id)
      exact ⟨r, i', h', pre' (ev_pos z3 (Ev.bind (sWithdraw_ev l hl hw hP id am am0 am1) hr)), k0, k1, k2⟩
    by_cases z4 : q = 4
    · have hk := chg_keeps (gLD_keeps am (1 + t) am0 (by omega) (by omega)) hP hw id
      obtain ⟨r, i', h', hr, k0, k1, k2⟩ := fin _ hk.1 hk.2.1 (chg_ids (gLD_keeps am (1 + t) am0 (by omega) (by omega)) hP hw hI id)
      exact ⟨r, i', h', pre' (ev_neg z3 (ev_pos z4 (Ev.bind (sLockDebit_ev l hl hw hP id am (1 + t) am0 am1 (by omega) (by omega)) hr))), k0, k1, k2⟩
    by_cases z5 : q = 5
    · have hk := chg_keeps (gLC_keeps am (1 + t) am0 (by omega) (by omega)) hP hw id
      obtain ⟨r, i', h', hr, k0, k1, k2⟩ := fin _ hk.1 hk.2.1 (chg_ids (gLC_keeps am (1 + t) am0 (by omega) (by omega)) hP hw hI id)
      exact ⟨r, i', h', pre' (ev_neg z3 (ev_neg z4 (ev_pos z5 (Ev.bind (sLockCredit_ev l hl hw hP id am (1 + t) am0 am1 (by omega) (by omega)) hr)))), k0, k1, k2⟩
    by_cases z6 : q = 6
    · have hk := chg_keeps (gSet_keeps (1 + t)) hP hw id
      obtain ⟨r, i', h', hr, k0, k1, k2⟩ := fin _ hk.1 hk.2.1 (chg_ids (gSet_keeps (1 + t)) hP hw hI id)
      exact ⟨r, i', h', pre' (ev_neg z3 (ev_neg z4 (ev_neg z5 (ev_pos z6 (Ev.bind (sSettleHold_ev l hl hw hP id (1 + t) (by omega)) hr))))), k0, k1, k2⟩
    by_cases z7 : q = 7
    · have hk := chg_keeps (gRel_keeps (1 + t)) hP hw id
      obtain ⟨r, i', h', hr, k0, k1, k2⟩ := fin _ hk.1 hk.2.1 (chg_ids (gRel_keeps (1 + t)) hP hw hI id)
      exact ⟨r, i', h', pre' (ev_neg z3 (ev_neg z4 (ev_neg z5 (ev_neg z6 (ev_pos z7 (Ev.bind (sReleaseHold_ev l hl hw hP id (1 + t) (by omega)) hr)))))), k0, k1, k2⟩
    · obtain ⟨ro, hR, ho⟩ := sOpen_ev l hl hw hP id
      have hk := openR_keeps hP hw (in8_range id8).1 (in8_range id8).2 hR
      obtain ⟨r, i', h', hr, k0, k1, k2⟩ := fin _ hk.1 hk.2 (openR_ids hI id8 hR)
      exact ⟨r, i', h', pre' (ev_neg z3 (ev_neg z4 (ev_neg z5 (ev_neg z6 (ev_neg z7 (Ev.bind ho hr)))))), k0, k1, k2⟩
theorem drawRight_0 (b code : List Int) (hb : b.length ≤ 1048576) (hc : code.length ≤ 1048576) (d : Nat) : ∀ (i h : Int) (l : List S53), d ≤ 1000 → 0 ≤ i → BookP l → (∀ x ∈ l, wfA x) → Ids l → ∃ r i' h', Ev (fun k => spec_l10DrawRight.l0 k code d b i h l) (r, i', h') ∧ 0 ≤ i' ∧ BookP r ∧ (∀ x ∈ r, wfA x) ∧ Ids r := by
  induction d with
  | zero =>
    intro i h l _ h0 hP hw hI
    obtain ⟨n, e1, n0, n1⟩ := size_ev code hc 16
    have := n1 (by decide)
    have hwn : wrap64 (4 + n) = 4 + n := w64 (by omega) (by omega)
    obtain ⟨x, i1, h1, e2, g1, x0, x1, _⟩ := below_ev b hb i h (4 + n) h0
    have hx := x1 (by omega)
    obtain ⟨m, rfl⟩ := Int.eq_ofNat_of_zero_le x0
    obtain ⟨r, i', h', hr, k0, k1, k2⟩ := drawRight_1 b hb m i1 h1 l (by omega) g1 hP hw hI
    refine ⟨r, i', h', ?_, k0, k1, k2⟩
    refine Ev.step (fun k => by rw [spec_l10DrawRight.l0]) ?_
    refine ev_neg (by omega) (Ev.bind (ev_const e1) ?_)
    rw [hwn]
    exact Ev.bind (ev_const e2) hr
  | succ d ih =>
    intro i h l hd h0 hP hw hI
    obtain ⟨id, i1, h1, e1, g1, id8⟩ := drawId_ev b hb i h h0
    obtain ⟨ro, hR, ho⟩ := sOpen_ev l (bl hP) hw hP id
    have hk := openR_keeps hP hw (in8_range id8).1 (in8_range id8).2 hR
    obtain ⟨r, i', h', hr, k0, k1, k2⟩ := ih i1 h1 ro.1 (by omega) g1 hk.1 hk.2 (openR_ids hI id8 hR)
    refine ⟨r, i', h', ?_, k0, k1, k2⟩
    refine Ev.step (fun k => by rw [spec_l10DrawRight.l0]) ?_
    rw [show wrap64 (((d + 1 : Nat) : Int) - 1) = (d : Int) by rw [w64 (by omega) (by omega)]; omega]
    exact ev_pos (by omega) (Ev.bind (ev_const e1) (Ev.bind ho hr))
theorem bookP_nil : BookP [] := ⟨by simp, fun j hj => by simp at hj⟩
theorem drawBook_ev (code : List Int) (hc : code.length ≤ 1048576) : ∃ l from_ to_ am tx, Ev (fun k => spec_DrawRightBook.f k code) (l, from_, to_, am, tx) ∧ BookP l ∧ (∀ x ∈ l, wfA x) ∧ (0 ≤ from_ ∧ from_ ≤ 18446744073709551615) ∧ (0 ≤ to_ ∧ to_ ≤ 18446744073709551615) ∧ (0 ≤ am ∧ am ≤ 18446744073709551615) ∧ (1 ≤ tx ∧ tx ≤ 4) ∧ l.length ≤ 8 := by
  obtain ⟨h0, e0⟩ := new_ev code hc
  obtain ⟨x, i1, h1, e1, g1, x0, x1, _⟩ := below_ev code hc 0 h0 7 (by omega)
  have hx := x1 (by decide)
  have hwx : wrap64 (2 + x) = ((2 + x.toNat : Nat) : Int) := by rw [w64 (by omega) (by omega)]; omega
  obtain ⟨l, i2, h2, e2, g2, hP, hw, hI⟩ := drawRight_0 code code hc hc (2 + x.toNat) i1 h1 [] (by omega) g1 bookP_nil (fun x hx => by simp at hx) (fun j hj => by simp at hj)
  obtain ⟨fr, i3, h3, e3, g3, f8⟩ := drawId_ev code hc i2 h2 g2
  obtain ⟨tt, i4, h4, e4, g4, t8⟩ := drawId_ev code hc i3 h3 g3
  obtain ⟨am, i5, h5, e5, g5, a0, a1⟩ := drawAmount_ev code hc i4 h4 g4
  obtain ⟨q, i6, h6, e6, g6, q0, q1, _⟩ := below_ev code hc i5 h5 4 g5
  have hq := q1 (by decide)
  refine ⟨l, fr, tt, am, 1 + q, ?_, hP, hw, in8_range f8, in8_range t8, ⟨a0, a1⟩, ⟨by omega, by omega⟩, few hP hI⟩
  unfold spec_DrawRightBook.f
  refine Ev.bind e0 (Ev.bind (a := (l, i2, h2)) ?_ (Ev.bind (ev_const e3) (Ev.bind (ev_const e4) (Ev.bind e5 (Ev.bind (ev_const e6) ?_)))))
  · unfold spec_l10DrawRight.f
    refine Ev.bind (ev_const e1) ?_
    show Ev (fun k => spec_l10DrawRight.l0 k code (wrap64 (2 + x)) code i1 h1 []) _
    rw [hwx]
    exact e2
  · show Ev (fun k => some (l, fr, tt, am, wrap64 (1 + q))) _
    rw [w64 (by omega) (by omega)]
    exact Ev.now _

theorem big_law (l : List Int) : laws_big.f l = some (decide ((l.length : Int) > 1048576)) := rfl
theorem same_l (l : List S53) (hl : l.length ≤ 1048576) (d : Nat) : ∀ i : Nat, l.length = i + d → Ev (fun k => laws_sameBook.l0 k i l l) true := by
  induction d with
  | zero =>
    intro i hd
    refine Ev.step (fun k => by rw [laws_sameBook.l0]) ?_
    exact ev_neg (by omega) (Ev.now _)
  | succ d ih =>
    intro i hd
    refine Ev.step (fun k => by rw [laws_sameBook.l0]) ?_
    refine ev_pos (by omega) (ev_pos (by omega) (ev_pos (by omega) (ev_neg (by simp) ?_)))
    rw [wsucc (n := l.length) (by omega) (by omega)]
    exact ih (i + 1) (by omega)
theorem same_ev (l : List S53) (hl : l.length ≤ 1048576) : Ev (fun k => laws_sameBook.f k l l) true := by
  unfold laws_sameBook.f
  exact ev_pos rfl (same_l l hl l.length 0 (by omega))
theorem bookOk_ev {l : List S53} (hP : BookP l) (hw : ∀ x ∈ l, wfA x) : Ev (fun k => impl_BookOk.f k l) true := by
  obtain ⟨b, hb, hi⟩ := implIsBook_ev l (by have := hP.1; omega) hw
  unfold impl_BookOk.f
  rw [hi.2 hP] at hb
  exact Ev.bind hb (Ev.now _)
theorem atJ_set {l : List S53} {id : Int} {j : Nat} (h : AtJ l id j) {Y : S53} (hY : Y.f0 = (rd_T53 l j).f0) : AtJ (l.set j Y) id j := ⟨by simpa using h.1, by rw [rd_set_eq l j Y h.1, hY]; exact h.2⟩
theorem set_back {l : List S53} {j : Nat} (hj : j < l.length) (Y Z : S53) (hZ : Z = rd_T53 l j) : (l.set j Y).set j Z = l := by
  rw [List.set_set, hZ]
  unfold rd_T53
  rw [toNat_cast, getD_lt _ _ _ hj, List.set_getElem_self]
theorem some_or_no (l : List S53) (id : Int) : (∃ j, AtJ l id j) ∨ NoJ l id := by
  by_cases h : ∃ j, AtJ l id j
  · exact .inl h
  · exact .inr fun j hj e => h ⟨j, hj, e⟩

theorem cf_bad_LockDebit (l : List S53) (hl : l.length ≤ 1048576) (hw : ∀ x ∈ l, wfA x) (id a2 a3 : Int) (hP : ¬ BookP l) : Ev (fun k => impl_LockDebit.cf k l id a2 a3) (l, 1) := by
  obtain ⟨b, hb, hi⟩ := implIsBook_ev l hl hw
  unfold impl_LockDebit.cf
  exact ev_pos (by omega) (Ev.bind hb (ev_neg (fun h => hP (hi.1 h)) (Ev.now _)))
theorem cf_none_LockDebit (l : List S53) (hl : l.length ≤ 1048576) (hw : ∀ x ∈ l, wfA x) (id a2 a3 : Int) (hP : BookP l) (p : Int) (hf : Ev (fun k => impl_accountOf.f k l id) (p, false)) : Ev (fun k => impl_LockDebit.cf k l id a2 a3) (l, 2) := by
  obtain ⟨b, hb, hi⟩ := implIsBook_ev l hl hw
  unfold impl_LockDebit.cf
  exact ev_pos (by omega) (Ev.bind hb (ev_pos (hi.2 hP) (Ev.bind hf (ev_neg (by simp) (Ev.now _)))))
theorem cf_at_LockDebit (l : List S53) (hl : l.length ≤ 1048576) (hw : ∀ x ∈ l, wfA x) (id a2 a3 : Int) (hP : BookP l) (j : Nat) (hj : j < l.length) (hf : Ev (fun k => impl_accountOf.f k l id) ((j : Int), true)) (Y : S53 × Int) (hY : impl_LockDebit.g a2 a3 (rd_T53 l j) = Y) :
    Ev (fun k => impl_LockDebit.cf k l id a2 a3) (if Y.2 = 0 then (if Y.1.f4 = -1 then ((l.set j Y.1).eraseIdx j, 0) else (l.set j Y.1, 0)) else (l, Y.2)) := by
  obtain ⟨b, hb, hi⟩ := implIsBook_ev l hl hw
  unfold impl_LockDebit.cf
  refine ev_pos (by omega) (Ev.bind hb (ev_pos (hi.2 hP) (Ev.bind hf (ev_pos rfl (ev_pos ⟨by omega, by omega⟩ ?_)))))
  have e : impl_LockDebit.g a2 a3 (l.getD ((j : Int)).toNat z53) = Y := by rw [← hY]; rfl
  rw [e, toNat_cast]
  obtain ⟨R, hR⟩ : ∃ R, R = (if Y.2 = 0 then (if Y.1.f4 = -1 then ((l.set j Y.1).eraseIdx j, (0 : Int)) else (l.set j Y.1, 0)) else (l, Y.2)) := ⟨_, rfl⟩
  rw [← hR]
  by_cases h1 : Y.2 = 0
  · rw [if_pos h1] at hR
    by_cases h2 : Y.1.f4 = -1
    · rw [if_pos h2] at hR; rw [hR]; exact ev_pos h1 (ev_pos h2 (Ev.now _))
    · rw [if_neg h2] at hR; rw [hR]; exact ev_pos h1 (ev_neg h2 (Ev.now _))
  · rw [if_neg h1] at hR; rw [hR]; exact ev_neg h1 (Ev.now _)
theorem iLockDebit_ev (l : List S53) (hl : l.length ≤ 1048576) (hw : ∀ x ∈ l, wfA x) (hP : BookP l) (a1 a2 a3 : Int) (h0 : 0 ≤ a2) (h1 : a2 ≤ 18446744073709551615) (ht : 1 ≤ a3) (ht' : a3 ≤ 9223372036854775807) : Ev (fun k => impl_LockDebit.f k l a1 a2 a3) (chg (gLD a2 a3) l a1) := by
  unfold impl_LockDebit.f
  refine ev_neg (show ¬ a3 < 1 by omega) ?_
  rcases find_ev l hl hP a1 with ⟨j, hj, hs, hi⟩ | ⟨p, hno, _, _, _, hs, hi⟩
  rotate_left
  · rw [chg_no _ hno]
    exact cf_none_LockDebit l hl hw a1 a2 a3 hP p hi
  rw [chg_at hP _ hj]
  have hA := apx_at hP hj.1
  have hW := wf_at hw j hj.1
  have hk := gLD_keeps a2 a3 h0 ht ht' _ hA hW
  have e : impl_LockDebit.g a2 a3 (rd_T53 l j) = (gLD a2 a3) (rd_T53 l j) := by
    obtain ⟨q1, q2, q3⟩ := hA
    obtain ⟨⟨a0, b0⟩, ⟨c1, d1⟩, ⟨c2, d2⟩, ⟨c3, d3⟩, ⟨c4, d4⟩⟩ := hW
    by_cases h4 : (rd_T53 l j).f4 = 0
    rotate_left
    · simp [impl_LockDebit.g, gLD, h4]
    by_cases h5 : a2 > (rd_T53 l j).f1
    · have h6 : (rd_T53 l j).f1 < a2 := by omega
      simp [impl_LockDebit.g, gLD, h4, h5, h6]
    · have h6 : ¬ (rd_T53 l j).f1 < a2 := by omega
      have h7 := u64w (x := (rd_T53 l j).f1 - a2) (by omega) (by omega)
      simp [impl_LockDebit.g, gLD, h4, h5, h6, h7]
  have hc := cf_at_LockDebit l hl hw a1 a2 a3 hP j hj.1 hi _ e
  by_cases h0' : ((gLD a2 a3) (rd_T53 l j)).2 = 0
  · rw [if_pos h0'] at hc ⊢
    rw [if_neg (by have := (hk h0').2.1.1; omega)] at hc
    exact hc
  · rw [if_neg h0'] at hc ⊢
    exact hc

theorem cf_bad_LockCredit (l : List S53) (hl : l.length ≤ 1048576) (hw : ∀ x ∈ l, wfA x) (id a2 a3 : Int) (hP : ¬ BookP l) : Ev (fun k => impl_LockCredit.cf k l id a2 a3) (l, 1) := by
  obtain ⟨b, hb, hi⟩ := implIsBook_ev l hl hw
  unfold impl_LockCredit.cf
  exact ev_pos (by omega) (Ev.bind hb (ev_neg (fun h => hP (hi.1 h)) (Ev.now _)))
theorem cf_none_LockCredit (l : List S53) (hl : l.length ≤ 1048576) (hw : ∀ x ∈ l, wfA x) (id a2 a3 : Int) (hP : BookP l) (p : Int) (hf : Ev (fun k => impl_accountOf.f k l id) (p, false)) : Ev (fun k => impl_LockCredit.cf k l id a2 a3) (l, 2) := by
  obtain ⟨b, hb, hi⟩ := implIsBook_ev l hl hw
  unfold impl_LockCredit.cf
  exact ev_pos (by omega) (Ev.bind hb (ev_pos (hi.2 hP) (Ev.bind hf (ev_neg (by simp) (Ev.now _)))))
theorem cf_at_LockCredit (l : List S53) (hl : l.length ≤ 1048576) (hw : ∀ x ∈ l, wfA x) (id a2 a3 : Int) (hP : BookP l) (j : Nat) (hj : j < l.length) (hf : Ev (fun k => impl_accountOf.f k l id) ((j : Int), true)) (Y : S53 × Int) (hY : impl_LockCredit.g a2 a3 (rd_T53 l j) = Y) :
    Ev (fun k => impl_LockCredit.cf k l id a2 a3) (if Y.2 = 0 then (if Y.1.f4 = -1 then ((l.set j Y.1).eraseIdx j, 0) else (l.set j Y.1, 0)) else (l, Y.2)) := by
  obtain ⟨b, hb, hi⟩ := implIsBook_ev l hl hw
  unfold impl_LockCredit.cf
  refine ev_pos (by omega) (Ev.bind hb (ev_pos (hi.2 hP) (Ev.bind hf (ev_pos rfl (ev_pos ⟨by omega, by omega⟩ ?_)))))
  have e : impl_LockCredit.g a2 a3 (l.getD ((j : Int)).toNat z53) = Y := by rw [← hY]; rfl
  rw [e, toNat_cast]
  obtain ⟨R, hR⟩ : ∃ R, R = (if Y.2 = 0 then (if Y.1.f4 = -1 then ((l.set j Y.1).eraseIdx j, (0 : Int)) else (l.set j Y.1, 0)) else (l, Y.2)) := ⟨_, rfl⟩
  rw [← hR]
  by_cases h1 : Y.2 = 0
  · rw [if_pos h1] at hR
    by_cases h2 : Y.1.f4 = -1
    · rw [if_pos h2] at hR; rw [hR]; exact ev_pos h1 (ev_pos h2 (Ev.now _))
    · rw [if_neg h2] at hR; rw [hR]; exact ev_pos h1 (ev_neg h2 (Ev.now _))
  · rw [if_neg h1] at hR; rw [hR]; exact ev_neg h1 (Ev.now _)
theorem iLockCredit_ev (l : List S53) (hl : l.length ≤ 1048576) (hw : ∀ x ∈ l, wfA x) (hP : BookP l) (a1 a2 a3 : Int) (h0 : 0 ≤ a2) (h1 : a2 ≤ 18446744073709551615) (ht : 1 ≤ a3) (ht' : a3 ≤ 9223372036854775807) : Ev (fun k => impl_LockCredit.f k l a1 a2 a3) (chg (gLC a2 a3) l a1) := by
  unfold impl_LockCredit.f
  refine ev_neg (show ¬ a3 < 1 by omega) ?_
  rcases find_ev l hl hP a1 with ⟨j, hj, hs, hi⟩ | ⟨p, hno, _, _, _, hs, hi⟩
  rotate_left
  · rw [chg_no _ hno]
    exact cf_none_LockCredit l hl hw a1 a2 a3 hP p hi
  rw [chg_at hP _ hj]
  have hA := apx_at hP hj.1
  have hW := wf_at hw j hj.1
  have hk := gLC_keeps a2 a3 h0 ht ht' _ hA hW
  have e : impl_LockCredit.g a2 a3 (rd_T53 l j) = (gLC a2 a3) (rd_T53 l j) := by
    obtain ⟨q1, q2, q3⟩ := hA
    obtain ⟨⟨a0, b0⟩, ⟨c1, d1⟩, ⟨c2, d2⟩, ⟨c3, d3⟩, ⟨c4, d4⟩⟩ := hW
    by_cases h4 : (rd_T53 l j).f4 = 0
    rotate_left
    · simp [impl_LockCredit.g, gLC, h4]
    by_cases h5 : a2 > 18446744073709551615 - (rd_T53 l j).f1
    · have h6 : IntKind.u64.wrap ((rd_T53 l j).f1 + a2) < (rd_T53 l j).f1 := by rw [wrapmod]; omega
      simp [impl_LockCredit.g, gLC, h4, h5, h6]
    · have h6 : ¬ IntKind.u64.wrap ((rd_T53 l j).f1 + a2) < (rd_T53 l j).f1 := by rw [wrapmod]; omega
      simp [impl_LockCredit.g, gLC, h4, h5, h6]
  have hc := cf_at_LockCredit l hl hw a1 a2 a3 hP j hj.1 hi _ e
  by_cases h0' : ((gLC a2 a3) (rd_T53 l j)).2 = 0
  · rw [if_pos h0'] at hc ⊢
    rw [if_neg (by have := (hk h0').2.1.1; omega)] at hc
    exact hc
  · rw [if_neg h0'] at hc ⊢
    exact hc

theorem cf_bad_ReleaseHold (l : List S53) (hl : l.length ≤ 1048576) (hw : ∀ x ∈ l, wfA x) (id a2 a3 : Int) (hP : ¬ BookP l) : Ev (fun k => impl_ReleaseHold.cf k l id a2 a3) (l, 1) := by
  obtain ⟨b, hb, hi⟩ := implIsBook_ev l hl hw
  unfold impl_ReleaseHold.cf
  exact ev_pos (by omega) (Ev.bind hb (ev_neg (fun h => hP (hi.1 h)) (Ev.now _)))
theorem cf_none_ReleaseHold (l : List S53) (hl : l.length ≤ 1048576) (hw : ∀ x ∈ l, wfA x) (id a2 a3 : Int) (hP : BookP l) (p : Int) (hf : Ev (fun k => impl_accountOf.f k l id) (p, false)) : Ev (fun k => impl_ReleaseHold.cf k l id a2 a3) (l, 2) := by
  obtain ⟨b, hb, hi⟩ := implIsBook_ev l hl hw
  unfold impl_ReleaseHold.cf
  exact ev_pos (by omega) (Ev.bind hb (ev_pos (hi.2 hP) (Ev.bind hf (ev_neg (by simp) (Ev.now _)))))
theorem cf_at_ReleaseHold (l : List S53) (hl : l.length ≤ 1048576) (hw : ∀ x ∈ l, wfA x) (id a2 a3 : Int) (hP : BookP l) (j : Nat) (hj : j < l.length) (hf : Ev (fun k => impl_accountOf.f k l id) ((j : Int), true)) (Y : S53 × Int) (hY : impl_ReleaseHold.g a2 a3 (rd_T53 l j) = Y) :
    Ev (fun k => impl_ReleaseHold.cf k l id a2 a3) (if Y.2 = 0 then (if Y.1.f4 = -1 then ((l.set j Y.1).eraseIdx j, 0) else (l.set j Y.1, 0)) else (l, Y.2)) := by
  obtain ⟨b, hb, hi⟩ := implIsBook_ev l hl hw
  unfold impl_ReleaseHold.cf
  refine ev_pos (by omega) (Ev.bind hb (ev_pos (hi.2 hP) (Ev.bind hf (ev_pos rfl (ev_pos ⟨by omega, by omega⟩ ?_)))))
  have e : impl_ReleaseHold.g a2 a3 (l.getD ((j : Int)).toNat z53) = Y := by rw [← hY]; rfl
  rw [e, toNat_cast]
  obtain ⟨R, hR⟩ : ∃ R, R = (if Y.2 = 0 then (if Y.1.f4 = -1 then ((l.set j Y.1).eraseIdx j, (0 : Int)) else (l.set j Y.1, 0)) else (l, Y.2)) := ⟨_, rfl⟩
  rw [← hR]
  by_cases h1 : Y.2 = 0
  · rw [if_pos h1] at hR
    by_cases h2 : Y.1.f4 = -1
    · rw [if_pos h2] at hR; rw [hR]; exact ev_pos h1 (ev_pos h2 (Ev.now _))
    · rw [if_neg h2] at hR; rw [hR]; exact ev_pos h1 (ev_neg h2 (Ev.now _))
  · rw [if_neg h1] at hR; rw [hR]; exact ev_neg h1 (Ev.now _)
theorem iReleaseHold_ev (l : List S53) (hl : l.length ≤ 1048576) (hw : ∀ x ∈ l, wfA x) (hP : BookP l) (a1 a2 : Int) (ht : 1 ≤ a2) : Ev (fun k => impl_ReleaseHold.f k l a1 a2) (chg (gRel a2) l a1) := by
  unfold impl_ReleaseHold.f
  refine ev_neg (show ¬ a2 < 1 by omega) ?_
  rcases find_ev l hl hP a1 with ⟨j, hj, hs, hi⟩ | ⟨p, hno, _, _, _, hs, hi⟩
  rotate_left
  · rw [chg_no _ hno]
    exact cf_none_ReleaseHold l hl hw a1 a2 a1 hP p hi
  rw [chg_at hP _ hj]
  have hA := apx_at hP hj.1
  have hW := wf_at hw j hj.1
  have hk := gRel_keeps a2 _ hA hW
  have e : impl_ReleaseHold.g a2 a1 (rd_T53 l j) = (gRel a2) (rd_T53 l j) := by
    obtain ⟨q1, q2, q3⟩ := hA
    obtain ⟨⟨a0, b0⟩, ⟨c1, d1⟩, ⟨c2, d2⟩, ⟨c3, d3⟩, ⟨c4, d4⟩⟩ := hW
    by_cases h4 : (rd_T53 l j).f4 = a2
    rotate_left
    · simp [impl_ReleaseHold.g, gRel, h4]
    have h7 := u64w (x := (rd_T53 l j).f1 + (rd_T53 l j).f2) (by omega) (by omega)
    simp [impl_ReleaseHold.g, gRel, h4, h7, hj.2]
  have hc := cf_at_ReleaseHold l hl hw a1 a2 a1 hP j hj.1 hi _ e
  by_cases h0' : ((gRel a2) (rd_T53 l j)).2 = 0
  · rw [if_pos h0'] at hc ⊢
    rw [if_neg (by have := (hk h0').2.1.1; omega)] at hc
    exact hc
  · rw [if_neg h0'] at hc ⊢
    exact hc

theorem cf_bad_SettleHold (l : List S53) (hl : l.length ≤ 1048576) (hw : ∀ x ∈ l, wfA x) (id a2 a3 : Int) (hP : ¬ BookP l) : Ev (fun k => impl_SettleHold.cf k l id a2 a3) (l, 1) := by
  obtain ⟨b, hb, hi⟩ := implIsBook_ev l hl hw
  unfold impl_SettleHold.cf
  exact ev_pos (by omega) (Ev.bind hb (ev_neg (fun h => hP (hi.1 h)) (Ev.now _)))
theorem cf_none_SettleHold (l : List S53) (hl : l.length ≤ 1048576) (hw : ∀ x ∈ l, wfA x) (id a2 a3 : Int) (hP : BookP l) (p : Int) (hf : Ev (fun k => impl_accountOf.f k l id) (p, false)) : Ev (fun k => impl_SettleHold.cf k l id a2 a3) (l, 2) := by
  obtain ⟨b, hb, hi⟩ := implIsBook_ev l hl hw
  unfold impl_SettleHold.cf
  exact ev_pos (by omega) (Ev.bind hb (ev_pos (hi.2 hP) (Ev.bind hf (ev_neg (by simp) (Ev.now _)))))
theorem cf_at_SettleHold (l : List S53) (hl : l.length ≤ 1048576) (hw : ∀ x ∈ l, wfA x) (id a2 a3 : Int) (hP : BookP l) (j : Nat) (hj : j < l.length) (hf : Ev (fun k => impl_accountOf.f k l id) ((j : Int), true)) (Y : S53 × Int) (hY : impl_SettleHold.g a2 a3 (rd_T53 l j) = Y) :
    Ev (fun k => impl_SettleHold.cf k l id a2 a3) (if Y.2 = 0 then (if Y.1.f4 = -1 then ((l.set j Y.1).eraseIdx j, 0) else (l.set j Y.1, 0)) else (l, Y.2)) := by
  obtain ⟨b, hb, hi⟩ := implIsBook_ev l hl hw
  unfold impl_SettleHold.cf
  refine ev_pos (by omega) (Ev.bind hb (ev_pos (hi.2 hP) (Ev.bind hf (ev_pos rfl (ev_pos ⟨by omega, by omega⟩ ?_)))))
  have e : impl_SettleHold.g a2 a3 (l.getD ((j : Int)).toNat z53) = Y := by rw [← hY]; rfl
  rw [e, toNat_cast]
  obtain ⟨R, hR⟩ : ∃ R, R = (if Y.2 = 0 then (if Y.1.f4 = -1 then ((l.set j Y.1).eraseIdx j, (0 : Int)) else (l.set j Y.1, 0)) else (l, Y.2)) := ⟨_, rfl⟩
  rw [← hR]
  by_cases h1 : Y.2 = 0
  · rw [if_pos h1] at hR
    by_cases h2 : Y.1.f4 = -1
    · rw [if_pos h2] at hR; rw [hR]; exact ev_pos h1 (ev_pos h2 (Ev.now _))
    · rw [if_neg h2] at hR; rw [hR]; exact ev_pos h1 (ev_neg h2 (Ev.now _))
  · rw [if_neg h1] at hR; rw [hR]; exact ev_neg h1 (Ev.now _)
theorem iSettleHold_ev (l : List S53) (hl : l.length ≤ 1048576) (hw : ∀ x ∈ l, wfA x) (hP : BookP l) (a1 a2 : Int) (ht : 1 ≤ a2) : Ev (fun k => impl_SettleHold.f k l a1 a2) (chg (gSet a2) l a1) := by
  unfold impl_SettleHold.f
  refine ev_neg (show ¬ a2 < 1 by omega) ?_
  rcases find_ev l hl hP a1 with ⟨j, hj, hs, hi⟩ | ⟨p, hno, _, _, _, hs, hi⟩
  rotate_left
  · rw [chg_no _ hno]
    exact cf_none_SettleHold l hl hw a1 a2 a1 hP p hi
  rw [chg_at hP _ hj]
  have hA := apx_at hP hj.1
  have hW := wf_at hw j hj.1
  have hk := gSet_keeps a2 _ hA hW
  have e : impl_SettleHold.g a2 a1 (rd_T53 l j) = (gSet a2) (rd_T53 l j) := by
    obtain ⟨q1, q2, q3⟩ := hA
    obtain ⟨⟨a0, b0⟩, ⟨c1, d1⟩, ⟨c2, d2⟩, ⟨c3, d3⟩, ⟨c4, d4⟩⟩ := hW
    by_cases h4 : (rd_T53 l j).f4 = a2
    rotate_left
    · simp [impl_SettleHold.g, gSet, h4]
    have h7 := u64w (x := (rd_T53 l j).f1 + (rd_T53 l j).f3) (by omega) (by omega)
    simp [impl_SettleHold.g, gSet, h4, h7, hj.2]
  have hc := cf_at_SettleHold l hl hw a1 a2 a1 hP j hj.1 hi _ e
  by_cases h0' : ((gSet a2) (rd_T53 l j)).2 = 0
  · rw [if_pos h0'] at hc ⊢
    rw [if_neg (by have := (hk h0').2.1.1; omega)] at hc
    exact hc
  · rw [if_neg h0'] at hc ⊢
    exact hc

theorem cf_bad_Withdraw (l : List S53) (hl : l.length ≤ 1048576) (hw : ∀ x ∈ l, wfA x) (id a2 : Int) (hP : ¬ BookP l) : Ev (fun k => impl_Withdraw.cf k l id a2) (l, 1) := by
  obtain ⟨b, hb, hi⟩ := implIsBook_ev l hl hw
  unfold impl_Withdraw.cf
  exact ev_pos (by omega) (Ev.bind hb (ev_neg (fun h => hP (hi.1 h)) (Ev.now _)))
theorem cf_none_Withdraw (l : List S53) (hl : l.length ≤ 1048576) (hw : ∀ x ∈ l, wfA x) (id a2 : Int) (hP : BookP l) (p : Int) (hf : Ev (fun k => impl_accountOf.f k l id) (p, false)) : Ev (fun k => impl_Withdraw.cf k l id a2) (l, 2) := by
  obtain ⟨b, hb, hi⟩ := implIsBook_ev l hl hw
  unfold impl_Withdraw.cf
  exact ev_pos (by omega) (Ev.bind hb (ev_pos (hi.2 hP) (Ev.bind hf (ev_neg (by simp) (Ev.now _)))))
theorem cf_at_Withdraw (l : List S53) (hl : l.length ≤ 1048576) (hw : ∀ x ∈ l, wfA x) (id a2 : Int) (hP : BookP l) (j : Nat) (hj : j < l.length) (hf : Ev (fun k => impl_accountOf.f k l id) ((j : Int), true)) (Y : S53 × Int) (hY : impl_Withdraw.g a2 (rd_T53 l j) = Y) :
    Ev (fun k => impl_Withdraw.cf k l id a2) (if Y.2 = 0 then (if Y.1.f4 = -1 then ((l.set j Y.1).eraseIdx j, 0) else (l.set j Y.1, 0)) else (l, Y.2)) := by
  obtain ⟨b, hb, hi⟩ := implIsBook_ev l hl hw
  unfold impl_Withdraw.cf
  refine ev_pos (by omega) (Ev.bind hb (ev_pos (hi.2 hP) (Ev.bind hf (ev_pos rfl (ev_pos ⟨by omega, by omega⟩ ?_)))))
  have e : impl_Withdraw.g a2 (l.getD ((j : Int)).toNat z53) = Y := by rw [← hY]; rfl
  rw [e, toNat_cast]
  obtain ⟨R, hR⟩ : ∃ R, R = (if Y.2 = 0 then (if Y.1.f4 = -1 then ((l.set j Y.1).eraseIdx j, (0 : Int)) else (l.set j Y.1, 0)) else (l, Y.2)) := ⟨_, rfl⟩
  rw [← hR]
  by_cases h1 : Y.2 = 0
  · rw [if_pos h1] at hR
    by_cases h2 : Y.1.f4 = -1
    · rw [if_pos h2] at hR; rw [hR]; exact ev_pos h1 (ev_pos h2 (Ev.now _))
    · rw [if_neg h2] at hR; rw [hR]; exact ev_pos h1 (ev_neg h2 (Ev.now _))
  · rw [if_neg h1] at hR; rw [hR]; exact ev_neg h1 (Ev.now _)
theorem iWithdraw_ev (l : List S53) (hl : l.length ≤ 1048576) (hw : ∀ x ∈ l, wfA x) (hP : BookP l) (a1 a2 : Int) (h0 : 0 ≤ a2) (h1 : a2 ≤ 18446744073709551615) : Ev (fun k => impl_Withdraw.f k l a1 a2) (chg (gWdr a2) l a1) := by
  unfold impl_Withdraw.f
  rcases find_ev l hl hP a1 with ⟨j, hj, hs, hi⟩ | ⟨p, hno, _, _, _, hs, hi⟩
  rotate_left
  · rw [chg_no _ hno]
    exact cf_none_Withdraw l hl hw a1 a2 hP p hi
  rw [chg_at hP _ hj]
  have hA := apx_at hP hj.1
  have hW := wf_at hw j hj.1
  have hk := gWdr_keeps a2 h0 _ hA hW
  have e : impl_Withdraw.g a2 (rd_T53 l j) = (gWdr a2) (rd_T53 l j) := by
    obtain ⟨q1, q2, q3⟩ := hA
    obtain ⟨⟨a0, b0⟩, ⟨c1, d1⟩, ⟨c2, d2⟩, ⟨c3, d3⟩, ⟨c4, d4⟩⟩ := hW
    by_cases h4 : (rd_T53 l j).f4 = 0
    rotate_left
    · simp [impl_Withdraw.g, gWdr, h4]
    by_cases h5 : a2 > (rd_T53 l j).f1
    · have h6 : (rd_T53 l j).f1 < a2 := by omega
      simp [impl_Withdraw.g, gWdr, h4, h5, h6]
    · have h6 : ¬ (rd_T53 l j).f1 < a2 := by omega
      have h7 := u64w (x := (rd_T53 l j).f1 - a2) (by omega) (by omega)
      simp [impl_Withdraw.g, gWdr, h4, h5, h6, h7]
  have hc := cf_at_Withdraw l hl hw a1 a2 hP j hj.1 hi _ e
  by_cases h0' : ((gWdr a2) (rd_T53 l j)).2 = 0
  · rw [if_pos h0'] at hc ⊢
    rw [if_neg (by have := (hk h0').2.1.1; omega)] at hc
    exact hc
  · rw [if_neg h0'] at hc ⊢
    exact hc

theorem sMove_at (l : List S53) (hl : l.length ≤ 1048576) (hw : ∀ x ∈ l, wfA x) (hP : BookP l) (a b m : Int) (hm0 : 0 ≤ m) (hm1 : m ≤ 18446744073709551615) (hab : a ≠ b) (j q : Nat) (hj : AtJ l a j) (hq : AtJ l b q) (h1 : (rd_T53 l j).f4 = 0) (h2 : (rd_T53 l q).f4 = 0) (h3 : ¬ m > (rd_T53 l j).f1) (h4 : ¬ m > 18446744073709551615 - (rd_T53 l q).f1) :
    Ev (fun k => spec_MoveMoney.f k l a b m) ((l.set j ⟨(rd_T53 l j).f0, (rd_T53 l j).f1 - m, (rd_T53 l j).f2, (rd_T53 l j).f3, (rd_T53 l j).f4⟩).set q ⟨(rd_T53 l q).f0, (rd_T53 l q).f1 + m, (rd_T53 l q).f2, (rd_T53 l q).f3, (rd_T53 l q).f4⟩, 0) := by
  have hfj : Ev (fun k => spec_l10Find.f k l a) (j : Int) := by
    rcases find_ev l hl hP a with ⟨j', h, h1, _⟩ | ⟨p, hno, _⟩
    · rw [only hP hj.1 h.1 (hj.2.trans h.2.symm)]; exact h1
    · exact absurd hj.2 (hno j hj.1)
  have hfq : Ev (fun k => spec_l10Find.f k l b) (q : Int) := by
    rcases find_ev l hl hP b with ⟨j', h, h1, _⟩ | ⟨p, hno, _⟩
    · rw [only hP hq.1 h.1 (hq.2.trans h.2.symm)]; exact h1
    · exact absurd hq.2 (hno q hq.1)
  have hOa := l10Of_at l hl hw a 1 hP (by omega) j hj.1 hfj
  have hOb := l10Of_at l hl hw b 1 hP (by omega) q hq.1 hfq
  have hjl := hj.1
  have hql := hq.1
  have hjq : j ≠ q := fun e => hab (by rw [← hj.2, ← hq.2, e])
  obtain ⟨⟨a0, b0⟩, ⟨a1, b1⟩, ⟨a2, b2⟩, ⟨a3, b3⟩, ⟨a4, b4⟩⟩ := wf_at hw j hjl
  obtain ⟨⟨c0, d0⟩, ⟨c1, d1⟩, ⟨c2, d2⟩, ⟨c3, d3⟩, ⟨c4, d4⟩⟩ := wf_at hw q hql
  have hx : ((rd_T53 l q).f4 != 0) = false := by simpa using h2
  have gU := u64w (x := 18446744073709551615 - (rd_T53 l q).f1) (by omega) (by omega)
  unfold spec_MoveMoney.f
  refine Ev.bind hOa (Ev.bind hOb (ev_neg (by simp) ?_))
  refine Ev.step (fun k => by rw [spec_MoveMoney.j0]) ?_
  refine ev_neg (by simpa using hab) (ev_pos rfl ?_)
  refine Ev.step (fun k => by rw [spec_MoveMoney.j1]) ?_
  refine ev_neg (by simp) (ev_pos h1 ?_)
  refine Ev.step (fun k => by rw [spec_MoveMoney.j2]) ?_
  rw [gU]
  refine ev_neg (by simp [h2]) (ev_neg h3 (ev_neg h4 ?_))
  obtain ⟨X, hX⟩ : ∃ X : S53, X = ⟨(rd_T53 l j).f0, (rd_T53 l j).f1 - m, (rd_T53 l j).f2, (rd_T53 l j).f3, (rd_T53 l j).f4⟩ := ⟨_, rfl⟩
  obtain ⟨Y, hY⟩ : ∃ Y : S53, Y = ⟨(rd_T53 l q).f0, (rd_T53 l q).f1 + m, (rd_T53 l q).f2, (rd_T53 l q).f3, (rd_T53 l q).f4⟩ := ⟨_, rfl⟩
  have w1 := l10With_at hl hP X j ⟨hj.1, by rw [hX]⟩
  have w2 := l10With_ev (l.set j X) (by simpa using hl) Y q (by simpa using hql) (by rw [rd_set_ne l j q X hjq, hY]) (fun i hi hn => by
    have hi' : i < l.length := by simpa using hi
    by_cases e : j = i
    · subst e
      rw [rd_set_eq l j X hjl, hX, hY]
      exact fun h => hjq (only hP hjl hql h)
    · rw [rd_set_ne l j i X e, hY]
      exact fun h => hn (only hP hi' hql h))
  rw [hX] at w1
  rw [hY] at w2
  rw [hX] at w2
  rw [u64w (x := (rd_T53 l j).f1 - m) (by omega) (by omega), u64w (x := (rd_T53 l q).f1 + m) (by omega) (by omega)]
  exact Ev.bind w1 (Ev.bind w2 (Ev.now _))

theorem chg_to {l : List S53} (hP : BookP l) {g : S53 → S53 × Int} {id : Int} {j : Nat} (h : AtJ l id j) {x Y : S53} (hx : rd_T53 l j = x) (hY : g x = (Y, 0)) : chg g l id = (l.set j Y, 0) := by
  rw [chg_at hP g h, hx, hY]; rfl
theorem chg_stop {l : List S53} (hP : BookP l) {g : S53 → S53 × Int} {id : Int} {j : Nat} (h : AtJ l id j) {x : S53} {c : Int} (hx : rd_T53 l j = x) (hc : c ≠ 0) (hY : g x = (x, c)) : chg g l id = (l, c) := by
  rw [chg_at hP g h, hx, hY]; exact if_neg hc
theorem FnHolds : Stated := by
  intro code ⟨hm, hw8⟩
  refine Ev.rounds (?_ : Ev (fun k => laws_FnHolds.f k code) true)
  unfold laws_FnHolds.f
  by_cases hbig : (code.length : Int) > 1048576
  · exact Ev.bind (ev_const (big_law code)) (ev_pos (decide_eq_true hbig) (Ev.now _))
  refine Ev.bind (ev_const (big_law code)) (ev_neg (by simpa using hbig) ?_)
  have hc : code.length ≤ 1048576 := by omega
  obtain ⟨l, a, b, m, tx, hd, hP, hw, ⟨a0, a1⟩, ⟨b0, b1⟩, ⟨m0, m1⟩, ⟨t1, t4⟩, h8⟩ := drawBook_ev code hc
  have hl := bl hP
  refine Ev.bind hd ?_
  show Ev (fun k => if a = b then _ else _) true
  by_cases hab : a = b
  · exact ev_pos hab (Ev.now _)
  refine ev_neg hab (Ev.bind (iLockDebit_ev l hl hw hP a m tx m0 m1 t1 (by omega)) (Ev.bind (sLockDebit_ev l hl hw hP a m tx m0 m1 t1 (by omega)) (ev_pos rfl ?_)))
  -- the ways on which nothing is locked
  have out : ∀ c : Int, c ≠ 0 → chg (gLD m tx) l a = (l, c) → (chg (gLD m tx) l a).2 ≠ 0 ∧ Ev (fun k => (laws_sameBook.f k (chg (gLD m tx) l a).1 l).bind fun t => some t) true := fun c hc e => by
    rw [e]; exact ⟨hc, Ev.bind (same_ev l hl) (Ev.now _)⟩
  rcases some_or_no l a with ⟨j, hj⟩ | hno
  rotate_left
  · obtain ⟨h1, h2⟩ := out 2 (by decide) (chg_no _ hno)
    exact ev_neg h1 h2
  obtain ⟨x, hx⟩ : ∃ x, rd_T53 l j = x := ⟨_, rfl⟩
  by_cases hx4 : x.f4 = 0
  rotate_left
  · obtain ⟨h1, h2⟩ := out 6 (by decide) (chg_stop hP hj hx (by decide) (if_pos hx4))
    exact ev_neg h1 h2
  by_cases hxm : m > x.f1
  · obtain ⟨h1, h2⟩ := out 4 (by decide) (chg_stop hP hj hx (by decide) (by unfold gLD; rw [if_neg (by omega), if_pos hxm]))
    exact ev_neg h1 h2
  have apx := apx_at hP hj.1
  rw [hx] at apx
  obtain ⟨x2, x3⟩ := apx.2.1 hx4
  obtain ⟨Y, hY⟩ : ∃ Y : S53, Y = ⟨x.f0, x.f1 - m, m, x.f3, tx⟩ := ⟨_, rfl⟩
  have e1 : chg (gLD m tx) l a = (l.set j Y, 0) := chg_to hP hj hx (by unfold gLD; rw [if_neg (by omega), if_neg hxm, hY])
  have k1 := chg_keeps (gLD_keeps m tx m0 t1 (by omega)) hP hw a
  rw [e1] at k1 ⊢
  obtain ⟨oP, ow, _⟩ := k1
  obtain ⟨o, ho⟩ : ∃ o, o = l.set j Y := ⟨_, rfl⟩
  have oP' : BookP o := by rw [ho]; exact oP
  have ow' : ∀ x ∈ o, wfA x := by rw [ho]; exact ow
  have hjo : AtJ o a j := by rw [ho]; exact atJ_set hj (by rw [hY, hx])
  have rjo : rd_T53 o j = Y := by rw [ho]; exact rd_set_eq l j Y hj.1
  have back : o.set j x = l := by rw [ho]; exact set_back hj.1 Y x hx.symm
  have relY : gRel tx Y = (x, 0) := by
    unfold gRel
    rw [hY, if_neg (by simp)]
    cases x
    simp at x2 x3 hx4 ⊢
    omega
  have e2 : chg (gRel tx) o a = (l, 0) := by rw [chg_to oP' hjo rjo relY, back]
  show Ev (fun k => if (0 : Int) = 0 then (impl_LockCredit.f k (l.set j Y) b m tx).bind _ else _) true
  rw [← ho]
  have ol := bl oP'
  refine ev_pos rfl (Ev.bind (iLockCredit_ev o ol ow' oP' b m tx m0 m1 t1 (by omega)) (Ev.bind (iReleaseHold_ev o ol ow' oP' a tx t1) ?_))
  rw [e2]
  refine ev_pos rfl (Ev.bind (same_ev l hl) (ev_pos rfl ?_))
  have out2 : ∀ c : Int, c ≠ 0 → chg (gLC m tx) o b = (o, c) → (chg (gLC m tx) o b).2 ≠ 0 ∧ Ev (fun k => (laws_sameBook.f k (chg (gLC m tx) o b).1 o).bind fun t => some t) true := fun c hc e => by
    rw [e]; exact ⟨hc, Ev.bind (same_ev o ol) (Ev.now _)⟩
  rcases some_or_no o b with ⟨q, hq⟩ | hno
  rotate_left
  · obtain ⟨h1, h2⟩ := out2 2 (by decide) (chg_no _ hno)
    exact ev_neg h1 h2
  have hjq : j ≠ q := fun e => hab (by rw [← hjo.2, ← hq.2, e])
  obtain ⟨z, hz⟩ : ∃ z, rd_T53 o q = z := ⟨_, rfl⟩
  have hzl : rd_T53 l q = z := by rw [← hz, ho, rd_set_ne l j q Y hjq]
  have hql : AtJ l b q := ⟨by have := hq.1; rw [ho] at this; simpa using this, by rw [hzl, ← hz]; exact hq.2⟩
  by_cases hz4 : z.f4 = 0
  rotate_left
  · obtain ⟨h1, h2⟩ := out2 6 (by decide) (chg_stop oP' hq hz (by decide) (if_pos hz4))
    exact ev_neg h1 h2
  by_cases hzm : m > 18446744073709551615 - z.f1
  · obtain ⟨h1, h2⟩ := out2 5 (by decide) (chg_stop oP' hq hz (by decide) (by unfold gLC; rw [if_neg (by omega), if_pos hzm]))
    exact ev_neg h1 h2
  have apz := apx_at oP' hq.1
  rw [hz] at apz
  obtain ⟨z2, z3⟩ := apz.2.1 hz4
  obtain ⟨Z, hZ⟩ : ∃ Z : S53, Z = ⟨z.f0, z.f1, z.f2, m, tx⟩ := ⟨_, rfl⟩
  have e3 : chg (gLC m tx) o b = (o.set q Z, 0) := chg_to oP' hq hz (by unfold gLC; rw [if_neg (by omega), if_neg hzm, hZ])
  have k2 := chg_keeps (gLC_keeps m tx m0 t1 (by omega)) oP' ow' b
  rw [e3] at k2 ⊢
  obtain ⟨tP, tw, _⟩ := k2
  obtain ⟨t, ht⟩ : ∃ t, t = o.set q Z := ⟨_, rfl⟩
  show Ev (fun k => if (0 : Int) = 0 then (impl_Withdraw.f k (o.set q Z) a 0).bind _ else _) true
  rw [← ht] at tP tw ⊢
  have tl := bl tP
  have hqt : AtJ t b q := by rw [ht]; exact atJ_set hq (by rw [hZ, hz])
  have hjt : AtJ t a j := by rw [ht]; exact ⟨by simpa using hjo.1, by rw [rd_set_ne o q j Z (fun e => hjq e.symm)]; exact hjo.2⟩
  have rqt : rd_T53 t q = Z := by rw [ht]; exact rd_set_eq o q Z hq.1
  have rjt : rd_T53 t j = Y := by rw [ht, rd_set_ne o q j Z (fun e => hjq e.symm)]; exact rjo
  have Y4 : Y.f4 = tx := by rw [hY]
  have Z4 : Z.f4 = tx := by rw [hZ]
  have f1 : chg (gWdr 0) t a = (t, 6) := chg_stop tP hjt rjt (by decide) (if_pos (by omega))
  have f2 : chg (gLD 0 tx) t a = (t, 6) := chg_stop tP hjt rjt (by decide) (if_pos (by omega))
  have f3 : chg (gSet (tx + 1)) t b = (t, 7) := chg_stop tP hqt rqt (by decide) (if_pos (by omega))
  refine ev_pos rfl (Ev.bind (iWithdraw_ev t tl tw tP a 0 (by omega) (by omega)) (Ev.bind (iLockDebit_ev t tl tw tP a 0 tx (by omega) (by omega) t1 (by omega)) ?_))
  rw [w64 (x := tx + 1) (by omega) (by omega)]
  refine Ev.bind (iSettleHold_ev t tl tw tP b (tx + 1) (by omega)) ?_
  rw [f1, f2, f3]
  -- settled
  obtain ⟨A, hA⟩ : ∃ A : S53, A = ⟨x.f0, x.f1 - m, 0, 0, 0⟩ := ⟨_, rfl⟩
  obtain ⟨B, hB⟩ : ∃ B : S53, B = ⟨z.f0, z.f1 + m, 0, 0, 0⟩ := ⟨_, rfl⟩
  have e4 : chg (gSet tx) t a = (t.set j A, 0) := chg_to tP hjt rjt (by unfold gSet; rw [hY, if_neg (by simp), hA]; simp [x3])
  have k4 := chg_keeps (gSet_keeps tx) tP tw a
  rw [e4] at k4
  obtain ⟨sP, sw, _⟩ := k4
  have hqs : AtJ (t.set j A) b q := ⟨by simpa using hqt.1, by rw [rd_set_ne t j q A hjq]; exact hqt.2⟩
  have rqs : rd_T53 (t.set j A) q = Z := by rw [rd_set_ne t j q A hjq]; exact rqt
  have e5 : chg (gSet tx) (t.set j A) b = ((t.set j A).set q B, 0) := chg_to sP hqs rqs (by unfold gSet; rw [hZ, if_neg (by simp), hB])
  have hmv := sMove_at l hl hw hP a b m m0 m1 hab j q hj hql (by rw [hx]; exact hx4) (by rw [hzl]; exact hz4) (by rw [hx]; exact hxm) (by rw [hzl]; exact hzm)
  have same : (t.set j A).set q B = (l.set j ⟨(rd_T53 l j).f0, (rd_T53 l j).f1 - m, (rd_T53 l j).f2, (rd_T53 l j).f3, (rd_T53 l j).f4⟩).set q ⟨(rd_T53 l q).f0, (rd_T53 l q).f1 + m, (rd_T53 l q).f2, (rd_T53 l q).f3, (rd_T53 l q).f4⟩ := by
    rw [hx, hzl, x2, x3, hx4, z2, z3, hz4, ← hA, ← hB, ht, ho, List.set_comm _ _ (fun e => hjq e.symm), List.set_set, List.set_set]
  have relZ : gRel tx Z = (z, 0) := by
    unfold gRel
    rw [hZ, if_neg (by simp)]
    cases z
    simp at z2 z3 hz4 ⊢
    omega
  have e6 : chg (gRel tx) t b = (o, 0) := by rw [chg_to tP hqt rqt relZ, ht, set_back hq.1 Z z hz.symm]
  refine ev_pos rfl (ev_pos rfl (ev_pos rfl (Ev.bind (iSettleHold_ev t tl tw tP a tx t1) ?_)))
  rw [e4]
  refine Ev.bind (iSettleHold_ev (t.set j A) (bl sP) sw sP b tx t1) ?_
  rw [e5]
  refine Ev.bind hmv (Ev.bind (iReleaseHold_ev t tl tw tP b tx t1) ?_)
  rw [e6]
  refine Ev.bind (iReleaseHold_ev o ol ow' oP' a tx t1) ?_
  rw [e2, same]
  exact ev_pos rfl (ev_pos rfl (ev_pos rfl (Ev.bind (same_ev _ (by simpa using hl)) (ev_pos rfl (ev_pos rfl (ev_pos rfl (Ev.bind (same_ev l hl) (ev_pos rfl (Ev.bind (bookOk_ev tP tw) (Ev.now _))))))))))

end Go.Proofs.Ytdbfjakhkclggaa.Pure
