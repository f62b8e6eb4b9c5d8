/- The law FnExactTotalOf answers true at every input. No condition. -/
import Derived.Test.YtdbfjakhkclggaaOpnFnExactTotalOf
import Derived.Test.YtdbfjakhkclggaaBase
namespace Go.Proofs.Ytdbfjakhkclggaa.Pure
open Go.RowKit Go.Proofs.Ytdbfjakhkclggaa.QFnExactTotalOf Go.Proofs.Ytdbfjakhkclggaa.OpnFnExactTotalOf Go.Proofs.Ytdbfjakhkclggaa.Base Go.Proofs.YtdbfjakhkclggaaW.PrintWords Go.Proofs.YtdbfjakhkclggaaW.PrintLast
set_option linter.unusedVariables false

abbrev MX : Int := 18446744073709551615
def conv (x : S77) : S53 := ⟨x.f0, x.f1, x.f2, x.f3, x.f4⟩
def wfA (x : S53) : Prop := (0 ≤ x.f0 ∧ x.f0 ≤ 18446744073709551615) ∧ (0 ≤ x.f1 ∧ x.f1 ≤ 18446744073709551615) ∧ (0 ≤ x.f2 ∧ x.f2 ≤ 18446744073709551615) ∧ (0 ≤ x.f3 ∧ x.f3 ≤ 18446744073709551615) ∧ (-9223372036854775808 ≤ x.f4 ∧ x.f4 ≤ 9223372036854775807)
theorem wf_conv {l : List S77} (h : ∀ x ∈ l, wf77 x) : ∀ x ∈ l.map conv, wfA x := by
  intro x hx
  obtain ⟨y, hy, rfl⟩ := List.mem_map.1 hx
  obtain ⟨h0, h1, h2, h3, h4⟩ := h y hy
  exact ⟨wf_u64 h0, wf_u64 h1, wf_u64 h2, wf_u64 h3, wf_i64 h4⟩
theorem wf_at {l : List S53} (h : ∀ x ∈ l, wfA x) (j : Nat) (hj : j < l.length) : wfA (rd_T53 l j) := by
  unfold rd_T53
  rw [toNat_cast]
  exact h _ (getD_mem l j z53 hj)

theorem toAccountS_l (l : List S77) (hl : l.length ≤ 1048576) (d : Nat) : ∀ (i : Nat) (ys : List S53), l.length = i + d → ys.length = l.length → ys.take i = (l.map conv).take i →
    Ev (fun k => laws_toAccountS.l0 k l ys i) (l.map conv) := by
  induction d with
  | zero =>
    intro i ys hd hy ht
    refine Ev.step (fun k => by rw [laws_toAccountS.l0]) ?_
    refine ev_neg (by omega) ?_
    have : ys = l.map conv := by
      rw [List.take_of_length_le (by omega), List.take_of_length_le (by simp; omega)] at ht
      exact ht
    rw [this]
    exact Ev.now _
  | succ d ih =>
    intro i ys hd hy ht
    refine Ev.step (fun k => by rw [laws_toAccountS.l0]) ?_
    refine ev_pos (by omega) (ev_pos (by omega) ?_)
    refine Ev.bind (ev_const rfl) ?_
    refine ev_pos (by omega) ?_
    rw [wsucc (n := l.length) (by omega) (by omega), toNat_cast]
    refine ih (i + 1) _ (by omega) (by simpa using hy) ?_
    rw [take_set_succ _ _ _ (by omega), take_succ_getD (l.map conv) i z53 (by simp; omega), ht]
    congr 2
    unfold rd_T77
    rw [toNat_cast, getD_lt l i z77 (by omega), getD_lt (l.map conv) i z53 (by simp; omega), List.getElem_map]
    rfl
theorem toBook_ev (l : List S77) (hl : l.length ≤ 1048576) : Ev (fun k => laws_toBook.f k l) (l.map conv) := by
  unfold laws_toBook.f
  refine Ev.bind (a := l.map conv) ?_ (Ev.now _)
  unfold laws_toAccountS.f
  refine ev_pos (by omega) (ev_pos (by rw [toNat_cast]; omega) ?_)
  rw [toNat_cast]
  exact toAccountS_l l hl l.length 0 _ (by omega) (by simp) (by simp)

theorem eqAccountS_l (l : List S53) (hl : l.length ≤ 1048576) (d : Nat) : ∀ (i : Nat), l.length = i + d → Ev (fun k => laws_eqAccountS.l0 k l l i) true := by
  induction d with
  | zero =>
    intro i hd
    refine Ev.step (fun k => by rw [laws_eqAccountS.l0]) ?_
    exact ev_neg (by omega) (Ev.now _)
  | succ d ih =>
    intro i hd
    refine Ev.step (fun k => by rw [laws_eqAccountS.l0]) ?_
    refine ev_pos (by omega) (ev_pos (by omega) (ev_pos (by omega) ?_))
    refine Ev.bind (a := true) (ev_const (by unfold laws_eqAccount.f; rw [if_pos rfl, if_pos rfl, if_pos rfl, if_pos rfl, if_pos rfl])) ?_
    refine ev_pos rfl ?_
    rw [wsucc (n := l.length) (by omega) (by omega)]
    exact ih (i + 1) (by omega)
theorem eqBook_ev (l : List S53) (hl : l.length ≤ 1048576) : Ev (fun k => laws_eqBook.f k l l) true := by
  unfold laws_eqBook.f
  refine Ev.bind (a := true) ?_ (ev_pos rfl (Ev.now _))
  unfold laws_eqAccountS.f
  refine ev_pos rfl ?_
  exact eqAccountS_l l hl l.length 0 (by omega)

theorem szBook_ev (l : List S77) (hm : l.length ≤ maxLen) : (laws_szBook.f l 1048576 = some (-1) ∧ (1048576 : Int) < l.length) ∨ (laws_szBook.f l 1048576 = some (1048576 - (l.length : Int)) ∧ (l.length : Int) ≤ 1048576) := by
  unfold maxLen at hm
  unfold laws_szBook.f laws_szAccountS.f
  rw [w64 (by omega) (by omega)]
  by_cases h : 1048576 - (l.length : Int) < 0
  · rw [if_pos h]; exact .inl ⟨rfl, by omega⟩
  · rw [if_neg h]
    refine .inr ⟨?_, by omega⟩
    show (if 1048576 - (l.length : Int) < 0 then _ else _) = _
    rw [if_neg h]

/-- What is asked of account j. -/
def AP (l : List S53) (j : Nat) : Prop :=
  ¬ (rd_T53 l j).f4 < 0 ∧ ((rd_T53 l j).f4 = 0 → (rd_T53 l j).f2 = 0 ∧ (rd_T53 l j).f3 = 0) ∧ (rd_T53 l j).f1 + (rd_T53 l j).f2 + (rd_T53 l j).f3 ≤ 18446744073709551615 ∧ (0 < j → (rd_T53 l (j - 1 : Nat)).f0 < (rd_T53 l j).f0)
/-- A book as it should be. -/
def BookP (l : List S53) : Prop := l.length ≤ 40 ∧ ∀ j, j < l.length → AP l j
theorem sorted {l : List S53} (h : BookP l) : ∀ d i, i + d + 1 < l.length → (rd_T53 l i).f0 < (rd_T53 l (i + d + 1 : Nat)).f0 := by
  intro d
  induction d with
  | zero =>
    intro i hi
    exact (h.2 (i + 1) hi).2.2.2 (by omega)
  | succ d ih =>
    intro i hi
    have h1 := ih i (by omega)
    have h2 := (h.2 (i + d + 2) (by omega)).2.2.2 (by omega)
    have e : i + d + 2 - 1 = i + d + 1 := by omega
    rw [e] at h2
    have e2 : i + (d + 1) + 1 = i + d + 2 := by omega
    rw [e2]
    omega
theorem sorted_lt {l : List S53} (h : BookP l) {i j : Nat} (hij : i < j) (hj : j < l.length) : (rd_T53 l i).f0 < (rd_T53 l j).f0 := by
  have := sorted h (j - i - 1) i (by omega)
  have e : i + (j - i - 1) + 1 = j := by omega
  rwa [e] at this
theorem only {l : List S53} (h : BookP l) {i j : Nat} (hi : i < l.length) (hj : j < l.length) (e : (rd_T53 l i).f0 = (rd_T53 l j).f0) : i = j := by
  rcases Nat.lt_trichotomy i j with h1 | h1 | h1
  · have := sorted_lt h h1 hj; omega
  · exact h1
  · have := sorted_lt h h1 hi; omega

theorem specBookOk_l (l : List S53) (hl : l.length ≤ 1048576) (hw : ∀ x ∈ l, wfA x) (d : Nat) : ∀ (i : Nat), l.length = i + d → ∃ b, Ev (fun k => spec_BookOk.l0 k i l) b ∧ (b = true ↔ ∀ j, i ≤ j → j < l.length → AP l j) := by
  induction d with
  | zero =>
    intro i hd
    refine ⟨true, ?_, ⟨fun _ j h1 h2 => by omega, fun _ => rfl⟩⟩
    refine Ev.step (fun k => by rw [spec_BookOk.l0]) ?_
    exact ev_neg (by omega) (Ev.now _)
  | succ d ih =>
    intro i hd
    obtain ⟨⟨a0, b0⟩, ⟨a1, b1⟩, ⟨a2, b2⟩, ⟨a3, b3⟩, ⟨a4, b4⟩⟩ := wf_at hw i (by omega)
    obtain ⟨b, hb, hi⟩ := ih (i + 1) (by omega)
    -- the joined rest of a round
    have hj : ∀ x : Bool, ∃ r, Ev (fun k => spec_BookOk.j1 k i x l (rd_T53 l i).f0 (rd_T53 l i).f1 (rd_T53 l i).f2 (rd_T53 l i).f3 (rd_T53 l i).f4) r ∧ (r = true ↔ x = false ∧ (rd_T53 l i).f1 + (rd_T53 l i).f2 + (rd_T53 l i).f3 ≤ 18446744073709551615 ∧ b = true) := by
      intro x
      by_cases hx : x = true
      · refine ⟨false, ?_, ⟨fun h => (by cases h), fun h => by rw [hx] at h; cases h.1⟩⟩
        refine Ev.step (fun k => by rw [spec_BookOk.j1]) ?_
        exact ev_pos hx (Ev.now _)
      · by_cases h1 : (rd_T53 l i).f2 > IntKind.u64.wrap (18446744073709551615 - (rd_T53 l i).f1)
        · refine ⟨false, ?_, ⟨fun h => (by cases h), fun h => ?_⟩⟩
          · refine Ev.step (fun k => by rw [spec_BookOk.j1]) ?_
            exact ev_neg hx (ev_pos h1 (Ev.now _))
          · rw [u64w (by omega) (by omega)] at h1
            omega
        · by_cases h2 : (rd_T53 l i).f3 > IntKind.u64.wrap (IntKind.u64.wrap (18446744073709551615 - (rd_T53 l i).f1) - (rd_T53 l i).f2)
          · refine ⟨false, ?_, ⟨fun h => (by cases h), fun h => ?_⟩⟩
            · refine Ev.step (fun k => by rw [spec_BookOk.j1]) ?_
              exact ev_neg hx (ev_neg h1 (ev_pos h2 (Ev.now _)))
            · rw [u64w (x := 18446744073709551615 - (rd_T53 l i).f1) (by omega) (by omega)] at h1 h2
              rw [u64w (by omega) (by omega)] at h2
              omega
          · refine ⟨b, ?_, ?_⟩
            · refine Ev.step (fun k => by rw [spec_BookOk.j1]) ?_
              refine ev_neg hx (ev_neg h1 (ev_neg h2 ?_))
              rw [wsucc (n := l.length) (by omega) (by omega)]
              exact hb
            · rw [u64w (x := 18446744073709551615 - (rd_T53 l i).f1) (by omega) (by omega)] at h1 h2
              rw [u64w (by omega) (by omega)] at h2
              have : x = false := by cases x with | true => exact absurd rfl hx | false => rfl
              exact ⟨fun h => ⟨this, by omega, h⟩, fun h => h.2.2⟩
    have hall : (∀ j, i ≤ j → j < l.length → AP l j) ↔ AP l i ∧ b = true := by
      rw [hi]
      refine ⟨fun h => ⟨h i (Nat.le_refl _) (by omega), fun j h1 h2 => h j (by omega) h2⟩, fun h j h1 h2 => ?_⟩
      by_cases e : j = i
      · rw [e]; exact h.1
      · exact h.2 j (by omega) h2
    -- the second half of the first test
    have hk : ∃ x : Bool, (Ev (fun k => if (rd_T53 l i).f4 < 0 then spec_BookOk.j1 k i true l (rd_T53 l i).f0 (rd_T53 l i).f1 (rd_T53 l i).f2 (rd_T53 l i).f3 (rd_T53 l i).f4 else (if (rd_T53 l i).f4 = 0 then (if (rd_T53 l i).f2 = 0 then spec_BookOk.j1 k i ((rd_T53 l i).f3 != 0) l (rd_T53 l i).f0 (rd_T53 l i).f1 (rd_T53 l i).f2 (rd_T53 l i).f3 (rd_T53 l i).f4 else spec_BookOk.j1 k i true l (rd_T53 l i).f0 (rd_T53 l i).f1 (rd_T53 l i).f2 (rd_T53 l i).f3 (rd_T53 l i).f4) else spec_BookOk.j1 k i false l (rd_T53 l i).f0 (rd_T53 l i).f1 (rd_T53 l i).f2 (rd_T53 l i).f3 (rd_T53 l i).f4)) (Classical.choose (hj x))) ∧ (x = false ↔ ¬ (rd_T53 l i).f4 < 0 ∧ ((rd_T53 l i).f4 = 0 → (rd_T53 l i).f2 = 0 ∧ (rd_T53 l i).f3 = 0)) := by
      have hc := fun x => (Classical.choose_spec (hj x)).1
      by_cases h1 : (rd_T53 l i).f4 < 0
      · exact ⟨true, ev_pos h1 (hc true), by simp [h1]⟩
      · by_cases h2 : (rd_T53 l i).f4 = 0
        · by_cases h3 : (rd_T53 l i).f2 = 0
          · refine ⟨_, ev_neg h1 (ev_pos h2 (ev_pos h3 (hc _))), ?_⟩
            simp [h2, h3]
          · exact ⟨true, ev_neg h1 (ev_pos h2 (ev_neg h3 (hc true))), by simp [h2, h3]⟩
        · exact ⟨false, ev_neg h1 (ev_neg h2 (hc false)), by simp [h1, h2]⟩
    obtain ⟨x, hx, hxi⟩ := hk
    have hcs := (Classical.choose_spec (hj x)).2
    by_cases h0 : 0 < i
    · by_cases h1 : (rd_T53 l (i - 1 : Nat)).f0 ≥ (rd_T53 l i).f0
      · obtain ⟨r, hr, hri⟩ := hj true
        refine ⟨r, ?_, ?_⟩
        · refine Ev.step (fun k => by rw [spec_BookOk.l0]) ?_
          refine ev_pos (by omega) (ev_pos (by omega) (ev_pos (by omega) ?_))
          rw [wpred h0 (by omega)]
          exact ev_pos (by omega) (ev_pos (by omega) (ev_pos h1 hr))
        · rw [hri, hall]
          refine ⟨fun h => (by cases h.1), fun h => ?_⟩
          have := h.1.2.2.2 h0
          omega
      · refine ⟨Classical.choose (hj x), ?_, ?_⟩
        · refine Ev.step (fun k => by rw [spec_BookOk.l0]) ?_
          refine ev_pos (by omega) (ev_pos (by omega) (ev_pos (by omega) ?_))
          rw [wpred h0 (by omega)]
          exact ev_pos (by omega) (ev_pos (by omega) (ev_neg h1 hx))
        · rw [hcs, hall, hxi]
          exact ⟨fun h => ⟨⟨h.1.1, h.1.2, h.2.1, fun _ => by omega⟩, h.2.2⟩, fun h => ⟨⟨h.1.1, h.1.2.1⟩, h.1.2.2.1, h.2⟩⟩
    · refine ⟨Classical.choose (hj x), ?_, ?_⟩
      · refine Ev.step (fun k => by rw [spec_BookOk.l0]) ?_
        exact ev_pos (by omega) (ev_pos (by omega) (ev_neg (by omega) hx))
      · rw [hcs, hall, hxi]
        exact ⟨fun h => ⟨⟨h.1.1, h.1.2, h.2.1, fun h' => absurd h' h0⟩, h.2.2⟩, fun h => ⟨⟨h.1.1, h.1.2.1⟩, h.1.2.2.1, h.2⟩⟩
theorem specBookOk_ev (l : List S53) (hl : l.length ≤ 1048576) (hw : ∀ x ∈ l, wfA x) : ∃ b, Ev (fun k => spec_BookOk.f k l) b ∧ (b = true ↔ BookP l) := by
  unfold spec_BookOk.f
  by_cases h : (l.length : Int) > 40
  · exact ⟨false, ev_pos h (Ev.now _), ⟨fun h => (by cases h), fun h' => by have := h'.1; omega⟩⟩
  · obtain ⟨b, hb, hi⟩ := specBookOk_l l hl hw l.length 0 (by omega)
    refine ⟨b, ev_neg h hb, ?_⟩
    rw [hi]
    exact ⟨fun h => ⟨by omega, fun j => h j (Nat.zero_le _)⟩, fun h j _ => h.2 j⟩

theorem wrapmod (x : Int) : IntKind.u64.wrap x = x % 18446744073709551616 := by simp [IntKind.wrap, IntKind.signed, IntKind.bits]
theorem implIsBook_l (l : List S53) (hl : l.length ≤ 1048576) (hw : ∀ x ∈ l, wfA x) (d : Nat) : ∀ (i : Nat), l.length = i + d → ∃ b, Ev (fun k => impl_isBook.l0 k l l.length i l) b ∧ (b = true ↔ l.length ≤ 40 ∧ ∀ j, i ≤ j → j < l.length → AP l j) := by
  induction d with
  | zero =>
    intro i hd
    refine ⟨decide ((l.length : Int) ≤ 40), ?_, ?_⟩
    · refine Ev.step (fun k => by rw [impl_isBook.l0]) ?_
      exact ev_neg (by omega) (Ev.now _)
    · rw [decide_eq_true_iff]
      exact ⟨fun h => ⟨by omega, fun j h1 h2 => by omega⟩, fun h => by have := h.1; omega⟩
  | succ d ih =>
    intro i hd
    obtain ⟨⟨a0, b0⟩, ⟨a1, b1⟩, ⟨a2, b2⟩, ⟨a3, b3⟩, ⟨a4, b4⟩⟩ := wf_at hw i (by omega)
    obtain ⟨b, hb, hi⟩ := ih (i + 1) (by omega)
    have hall : (l.length ≤ 40 ∧ ∀ j, i ≤ j → j < l.length → AP l j) ↔ AP l i ∧ b = true := by
      rw [hi]
      refine ⟨fun h => ⟨h.2 i (Nat.le_refl _) (by omega), h.1, fun j h1 h2 => h.2 j (by omega) h2⟩, fun h => ⟨h.2.1, fun j h1 h2 => ?_⟩⟩
      by_cases e : j = i
      · rw [e]; exact h.1
      · exact h.2.2 j (by omega) h2
    have hsum : (IntKind.u64.wrap ((((rd_T53 l i).f1 + (rd_T53 l i).f2) / 18446744073709551616) + ((IntKind.u64.wrap ((rd_T53 l i).f1 + (rd_T53 l i).f2) + (rd_T53 l i).f3) / 18446744073709551616)) > 0) ↔ ¬ (rd_T53 l i).f1 + (rd_T53 l i).f2 + (rd_T53 l i).f3 ≤ 18446744073709551615 := by
      rw [wrapmod, wrapmod]; omega
    have hwr : 0 ≤ IntKind.u64.wrap ((rd_T53 l i).f1 + (rd_T53 l i).f2) := by rw [wrapmod]; omega
    have no : ∀ {P : Prop}, ¬ P → (false = true ↔ P ∧ b = true) := fun h => ⟨fun h => (by cases h), fun h' => absurd h'.1 h⟩
    -- the test of the id before
    have hlast : AP l i ∨ (¬ AP l i ∧ (¬ (rd_T53 l i).f4 < 0 ∧ ((rd_T53 l i).f4 = 0 → (rd_T53 l i).f2 = 0 ∧ (rd_T53 l i).f3 = 0) ∧ (rd_T53 l i).f1 + (rd_T53 l i).f2 + (rd_T53 l i).f3 ≤ 18446744073709551615) ∧ 0 < i ∧ (rd_T53 l (i - 1 : Nat)).f0 ≥ (rd_T53 l i).f0) ∨ (¬ AP l i ∧ ¬ (¬ (rd_T53 l i).f4 < 0 ∧ ((rd_T53 l i).f4 = 0 → (rd_T53 l i).f2 = 0 ∧ (rd_T53 l i).f3 = 0) ∧ (rd_T53 l i).f1 + (rd_T53 l i).f2 + (rd_T53 l i).f3 ≤ 18446744073709551615)) := by
      by_cases h : AP l i
      · exact .inl h
      · by_cases h2 : (¬ (rd_T53 l i).f4 < 0 ∧ ((rd_T53 l i).f4 = 0 → (rd_T53 l i).f2 = 0 ∧ (rd_T53 l i).f3 = 0) ∧ (rd_T53 l i).f1 + (rd_T53 l i).f2 + (rd_T53 l i).f3 ≤ 18446744073709551615)
        · refine .inr (.inl ⟨h, h2, ?_⟩)
          by_cases h0 : 0 < i
          · refine ⟨h0, ?_⟩
            by_cases h3 : (rd_T53 l (i - 1 : Nat)).f0 ≥ (rd_T53 l i).f0
            · exact h3
            · exact absurd ⟨h2.1, h2.2.1, h2.2.2, fun _ => by omega⟩ h
          · exact absurd ⟨h2.1, h2.2.1, h2.2.2, fun h' => absurd h' h0⟩ h
        · exact .inr (.inr ⟨h, h2⟩)
    have htail : (AP l i ∨ (¬ AP l i ∧ 0 < i ∧ (rd_T53 l (i - 1 : Nat)).f0 ≥ (rd_T53 l i).f0)) → ∃ r, Ev (fun k => if (i : Int) > 0 then (if 0 ≤ (wrap64 ((i : Int) - 1)) then (if (wrap64 ((i : Int) - 1)) < (l.length : Int) then (if ((rd_T53 l (wrap64 ((i : Int) - 1))).f0) ≥ ((rd_T53 l i).f0) then (some false) else (impl_isBook.l0 k l l.length (wrap64 ((i : Int) + 1)) l)) else (none)) else (none)) else (impl_isBook.l0 k l l.length (wrap64 ((i : Int) + 1)) l)) r ∧ (r = true ↔ AP l i ∧ b = true) := by
      intro h
      rcases h with h | ⟨h, h0, h1⟩
      · refine ⟨b, ?_, by simp [h]⟩
        by_cases h0 : 0 < i
        · refine ev_pos (by omega) ?_
          rw [wpred h0 (by omega), wsucc (n := l.length) (by omega) (by omega)]
          have := h.2.2.2 h0
          exact ev_pos (by omega) (ev_pos (by omega) (ev_neg (by omega) hb))
        · rw [wsucc (n := l.length) (by omega) (by omega)]
          exact ev_neg (by omega) hb
      · refine ⟨false, ?_, no h⟩
        refine ev_pos (by omega) ?_
        rw [wpred h0 (by omega)]
        exact ev_pos (by omega) (ev_pos (by omega) (ev_pos h1 (Ev.now _)))
    rw [hall]
    rcases hlast with h | ⟨h, h2, h3⟩ | ⟨h, h2⟩
    · obtain ⟨r, hr, hri⟩ := htail (.inl h)
      refine ⟨r, ?_, hri⟩
      refine Ev.step (fun k => by rw [impl_isBook.l0]) ?_
      refine ev_pos (by omega) (ev_pos (by omega) (ev_pos (by omega) (ev_pos a1 (ev_pos a2 (ev_pos hwr (ev_pos a3 (ev_neg (by rw [hsum]; exact fun h' => h' h.2.2.1) (ev_neg h.1 ?_))))))))
      by_cases h4 : (rd_T53 l i).f4 = 0
      · exact ev_pos h4 (ev_pos (h.2.1 h4).1 (ev_pos (h.2.1 h4).2 hr))
      · exact ev_neg h4 hr
    · obtain ⟨r, hr, hri⟩ := htail (.inr ⟨h, h3⟩)
      refine ⟨r, ?_, hri⟩
      refine Ev.step (fun k => by rw [impl_isBook.l0]) ?_
      refine ev_pos (by omega) (ev_pos (by omega) (ev_pos (by omega) (ev_pos a1 (ev_pos a2 (ev_pos hwr (ev_pos a3 (ev_neg (by rw [hsum]; exact fun h' => h' h2.2.2) (ev_neg h2.1 ?_))))))))
      by_cases h4 : (rd_T53 l i).f4 = 0
      · exact ev_pos h4 (ev_pos (h2.2.1 h4).1 (ev_pos (h2.2.1 h4).2 hr))
      · exact ev_neg h4 hr
    · refine ⟨false, ?_, no h⟩
      refine Ev.step (fun k => by rw [impl_isBook.l0]) ?_
      refine ev_pos (by omega) (ev_pos (by omega) (ev_pos (by omega) (ev_pos a1 (ev_pos a2 (ev_pos hwr (ev_pos a3 ?_))))))
      by_cases h5 : (rd_T53 l i).f1 + (rd_T53 l i).f2 + (rd_T53 l i).f3 ≤ 18446744073709551615
      · refine ev_neg (by rw [hsum]; exact fun h' => h' h5) ?_
        by_cases h6 : (rd_T53 l i).f4 < 0
        · exact ev_pos h6 (Ev.now _)
        · refine ev_neg h6 ?_
          by_cases h4 : (rd_T53 l i).f4 = 0
          · refine ev_pos h4 ?_
            by_cases h7 : (rd_T53 l i).f2 = 0
            · refine ev_pos h7 ?_
              by_cases h8 : (rd_T53 l i).f3 = 0
              · exact absurd ⟨h6, fun _ => ⟨h7, h8⟩, h5⟩ h2
              · exact ev_neg h8 (Ev.now _)
            · exact ev_neg h7 (Ev.now _)
          · exact absurd ⟨h6, fun h' => absurd h' h4, h5⟩ h2
      · exact ev_pos (by rw [hsum]; exact h5) (Ev.now _)
theorem implIsBook_ev (l : List S53) (hl : l.length ≤ 1048576) (hw : ∀ x ∈ l, wfA x) : ∃ b, Ev (fun k => impl_isBook.f k l) b ∧ (b = true ↔ BookP l) := by
  obtain ⟨b, hb, hi⟩ := implIsBook_l l hl hw l.length 0 (by omega)
  refine ⟨b, hb, ?_⟩
  rw [hi]
  exact ⟨fun h => ⟨h.1, fun j => h.2 j (Nat.zero_le _)⟩, fun h => ⟨h.1, fun j _ => h.2 j⟩⟩
/-- Both tests of a book give the same. -/
theorem books_ev (l : List S53) (hl : l.length ≤ 1048576) (hw : ∀ x ∈ l, wfA x) (b : Bool) (hb : Ev (fun k => spec_BookOk.f k l) b) (hi : b = true ↔ BookP l) : Ev (fun k => impl_isBook.f k l) b := by
  obtain ⟨b', hb', hi'⟩ := implIsBook_ev l hl hw
  have : b = b' := by
    cases b <;> cases b' <;> simp_all
  rw [this]; exact hb'

theorem total_l (l : List S53) (hl : l.length ≤ 1048576) (hw : ∀ x ∈ l, wfA x) (d : Nat) : ∀ (i : Nat) (hi lo : Int), l.length = i + d → 0 ≤ hi → hi ≤ 18446744073709551615 → 0 ≤ lo → lo ≤ 18446744073709551615 →
    ∃ r, Ev (fun k => spec_TotalOf.l0 k hi lo i l) r ∧ Ev (fun k => impl_totalOf.l0 k hi lo l l.length i) r := by
  induction d with
  | zero =>
    intro i hi lo hd _ _ _ _
    refine ⟨(hi, lo), ?_, ?_⟩
    · refine Ev.step (fun k => by rw [spec_TotalOf.l0]) ?_
      exact ev_neg (by omega) (Ev.now _)
    · refine Ev.step (fun k => by rw [impl_totalOf.l0]) ?_
      exact ev_neg (by omega) (Ev.now _)
  | succ d ih =>
    intro i hi lo hd h0 h1 h2 h3
    obtain ⟨⟨a0, b0⟩, ⟨a1, b1⟩, ⟨a2, b2⟩, ⟨a3, b3⟩, ⟨a4, b4⟩⟩ := wf_at hw i (by omega)
    obtain ⟨x, hx⟩ : ∃ x, x = IntKind.u64.wrap ((rd_T53 l i).f1 + (rd_T53 l i).f2) := ⟨_, rfl⟩
    have hx0 : 0 ≤ x ∧ x ≤ 18446744073709551615 := by rw [hx, wrapmod]; omega
    have el : IntKind.u64.wrap (lo + x) = (lo + x) % 18446744073709551616 := wrapmod _
    by_cases hc : x > 18446744073709551615 - lo
    · obtain ⟨r, hr, hr'⟩ := ih (i + 1) (IntKind.u64.wrap (hi + 1)) (IntKind.u64.wrap (lo + x)) (by omega) (by rw [wrapmod]; omega) (by rw [wrapmod]; omega) (by rw [wrapmod]; omega) (by rw [wrapmod]; omega)
      refine ⟨r, ?_, ?_⟩
      · refine Ev.step (fun k => by rw [spec_TotalOf.l0]) ?_
        rw [← hx, u64w (x := 18446744073709551615 - lo) (by omega) (by omega), wsucc (n := l.length) (by omega) (by omega)]
        exact ev_pos (by omega) (ev_pos (by omega) (ev_pos hc hr))
      · refine Ev.step (fun k => by rw [impl_totalOf.l0]) ?_
        rw [← hx, wsucc (n := l.length) (by omega) (by omega), show (lo + x) / 18446744073709551616 = 1 by omega, ← el]
        exact ev_pos (by omega) (ev_pos (by omega) (ev_pos (by omega) (ev_pos (by omega) (ev_pos (by omega) hr'))))
    · obtain ⟨r, hr, hr'⟩ := ih (i + 1) hi (IntKind.u64.wrap (lo + x)) (by omega) h0 h1 (by rw [wrapmod]; omega) (by rw [wrapmod]; omega)
      refine ⟨r, ?_, ?_⟩
      · refine Ev.step (fun k => by rw [spec_TotalOf.l0]) ?_
        rw [← hx, u64w (x := 18446744073709551615 - lo) (by omega) (by omega), wsucc (n := l.length) (by omega) (by omega)]
        exact ev_pos (by omega) (ev_pos (by omega) (ev_neg hc hr))
      · refine Ev.step (fun k => by rw [impl_totalOf.l0]) ?_
        rw [← hx, wsucc (n := l.length) (by omega) (by omega), show (lo + x) / 18446744073709551616 = 0 by omega, Int.add_zero, u64w h0 h1, ← el]
        exact ev_pos (by omega) (ev_pos (by omega) (ev_pos (by omega) (ev_pos (by omega) (ev_pos (by omega) hr'))))
theorem total_ev (l : List S53) (hl : l.length ≤ 1048576) (hw : ∀ x ∈ l, wfA x) : ∃ r, Ev (fun k => spec_TotalOf.f k l) r ∧ Ev (fun k => impl_TotalOf.f k l) r := by
  obtain ⟨b, hb, hi⟩ := specBookOk_ev l hl hw
  have hb' := books_ev l hl hw b hb hi
  unfold spec_TotalOf.f impl_TotalOf.f
  by_cases h : b = true
  · obtain ⟨r, hr, hr'⟩ := total_l l hl hw l.length 0 0 0 (by omega) (by omega) (by omega) (by omega) (by omega)
    refine ⟨r, Ev.bind hb (ev_pos h hr), Ev.bind hb' (ev_pos h (Ev.bind (a := r) ?_ (Ev.now _)))⟩
    unfold impl_totalOf.f
    exact hr'
  · exact ⟨_, Ev.bind hb (ev_neg h (Ev.now _)), Ev.bind hb' (ev_neg h (Ev.now _))⟩

theorem FnExactTotalOf : Stated := by
  intro ⟨l⟩ ⟨hm, hw⟩
  refine Ev.rounds (?_ : Ev (fun k => laws_FnExactTotalOf.f k l) true)
  unfold laws_FnExactTotalOf.f
  rcases szBook_ev l hm with ⟨hs, hn⟩ | ⟨hs, hn⟩
  · exact Ev.bind (ev_const hs) (ev_pos (by omega) (Ev.now _))
  · refine Ev.bind (ev_const hs) (ev_neg (by omega) ?_)
    have hl : l.length ≤ 1048576 := by omega
    have ht := toBook_ev l hl
    have hl' : (l.map conv).length ≤ 1048576 := by simpa using hl
    obtain ⟨r, hr, hr'⟩ := total_ev _ hl' (wf_conv hw)
    refine Ev.bind ht (Ev.bind hr (Ev.bind ht (Ev.bind hr' (ev_pos rfl (ev_pos rfl ?_)))))
    exact Ev.bind ht (Ev.bind (eqBook_ev _ hl') (ev_pos rfl (Ev.now _)))

end Go.Proofs.Ytdbfjakhkclggaa.Pure
