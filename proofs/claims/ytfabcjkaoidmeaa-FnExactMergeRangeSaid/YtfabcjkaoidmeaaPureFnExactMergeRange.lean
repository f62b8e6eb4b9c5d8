/- The law FnExactMergeRange answers true at every input. No condition. -/
import Derived.Test.YtfabcjkaoidmeaaOpnFnExactMergeRange
import Derived.Test.YtfabcjkaoidmeaaBase
namespace Go.Proofs.Ytfabcjkaoidmeaa.Pure
open Go.RowKit Go.Proofs.Ytfabcjkaoidmeaa.QFnExactMergeRange Go.Proofs.Ytfabcjkaoidmeaa.OpnFnExactMergeRange Go.Proofs.Ytfabcjkaoidmeaa.Base Go.Proofs.YtfabcjkaoidmeaaW.PrintWords Go.Proofs.YtfabcjkaoidmeaaW.PrintLast
set_option linter.unusedVariables false

def wfR (x : S26) : Prop := (0 ≤ x.f0 ∧ x.f0 ≤ 18446744073709551615) ∧ (0 ≤ x.f1 ∧ x.f1 ≤ 18446744073709551615)
theorem wf_at {l : List S26} (h : ∀ x ∈ l, wfR x) (j : Nat) (hj : j < l.length) : wfR (rd_T26 l j) := by
  unfold rd_T26
  rw [toNat_cast]
  exact h _ (getD_mem l j z26 hj)

def conv (x : S24) : S26 := ⟨x.f0, x.f1, x.f2⟩
theorem wf_conv {l : List S24} (h : ∀ x ∈ l, wf24 x) : ∀ x ∈ l.map conv, wfR x := by
  intro x hx
  obtain ⟨y, hy, rfl⟩ := List.mem_map.1 hx
  obtain ⟨h0, h1, _⟩ := h y hy
  exact ⟨wf_u64 h0, wf_u64 h1⟩

theorem toRangeS_l (l : List S24) (hl : l.length ≤ 1048576) (d : Nat) : ∀ (i : Nat) (ys : List S26), l.length = i + d → ys.length = l.length → ys.take i = (l.map conv).take i →
    Ev (fun k => laws_toRangeS.l0 k l ys i) (l.map conv) := by
  induction d with
  | zero =>
    intro i ys hd hy ht
    refine Ev.step (fun k => by rw [laws_toRangeS.l0]) ?_
    refine ev_neg (by omega) ?_
    have : ys = l.map conv := by
      rw [List.take_of_length_le (by omega), List.take_of_length_le (by simp; omega)] at ht
      exact ht
    rw [this]
    exact Ev.now _
  | succ d ih =>
    intro i ys hd hy ht
    refine Ev.step (fun k => by rw [laws_toRangeS.l0]) ?_
    refine ev_pos (by omega) (ev_pos (by omega) ?_)
    refine Ev.bind (ev_const rfl) ?_
    refine ev_pos (by omega) ?_
    rw [wsucc (n := l.length) (by omega) (by omega), toNat_cast]
    refine ih (i + 1) _ (by omega) (by simpa using hy) ?_
    rw [take_set_succ _ _ _ (by omega), take_succ_getD (l.map conv) i z26 (by simp; omega), ht]
    congr 2
    unfold rd_T24
    rw [toNat_cast, getD_lt l i z24 (by omega), getD_lt (l.map conv) i z26 (by simp; omega), List.getElem_map]
    rfl
theorem toRangeS_ev (l : List S24) (hl : l.length ≤ 1048576) : Ev (fun k => laws_toRangeS.f k l) (l.map conv) := by
  unfold laws_toRangeS.f
  refine ev_pos (by omega) (ev_pos (by rw [toNat_cast]; omega) ?_)
  rw [toNat_cast]
  exact toRangeS_l l hl l.length 0 _ (by omega) (by simp) (by simp)

theorem eqRangeS_l (l : List S26) (hl : l.length ≤ 1048576) (d : Nat) : ∀ (i : Nat), l.length = i + d → Ev (fun k => laws_eqRangeS.l0 k l l i) true := by
  induction d with
  | zero =>
    intro i hd
    refine Ev.step (fun k => by rw [laws_eqRangeS.l0]) ?_
    exact ev_neg (by omega) (Ev.now _)
  | succ d ih =>
    intro i hd
    refine Ev.step (fun k => by rw [laws_eqRangeS.l0]) ?_
    refine ev_pos (by omega) (ev_pos (by omega) (ev_pos (by omega) ?_))
    refine Ev.bind (a := true) (ev_const (by unfold laws_eqRange.f; rw [if_pos rfl, if_pos rfl, if_pos rfl])) ?_
    refine ev_pos rfl ?_
    rw [wsucc (n := l.length) (by omega) (by omega)]
    exact ih (i + 1) (by omega)
theorem eqRangeS_ev (l : List S26) (hl : l.length ≤ 1048576) : Ev (fun k => laws_eqRangeS.f k l l) true := by
  unfold laws_eqRangeS.f
  refine ev_pos rfl ?_
  exact eqRangeS_l l hl l.length 0 (by omega)

/-- What is asked of range j. -/
def RP (l : List S26) (j : Nat) : Prop :=
  (rd_T26 l j).f0 ≤ (rd_T26 l j).f1 ∧ (0 ≤ (rd_T26 l j).f2 ∧ (rd_T26 l j).f2 ≤ 99) ∧ (0 < j → (rd_T26 l (j - 1 : Nat)).f1 ≠ 18446744073709551615 ∧ (rd_T26 l j).f0 = (rd_T26 l (j - 1 : Nat)).f1 + 1)
/-- Ranges are all ids. -/
def RangesP (l : List S26) : Prop :=
  1 ≤ l.length ∧ l.length ≤ 24 ∧ (rd_T26 l 0).f0 = 0 ∧ (rd_T26 l ((l.length - 1 : Nat) : Int)).f1 = 18446744073709551615 ∧ ∀ j, j < l.length → RP l j
theorem in_ev (x a b : Int) : ∃ t, spec_l01In.f x a b = some t ∧ (t = true ↔ a ≤ x ∧ x ≤ b) := by
  unfold spec_l01In.f
  by_cases h : a ≤ x
  · rw [if_pos h]
    exact ⟨_, rfl, by simp [h]⟩
  · rw [if_neg h]
    exact ⟨_, rfl, by simp [h]⟩

theorem specRangesOk_l (l : List S26) (hl : l.length ≤ 1048576) (hw : ∀ x ∈ l, wfR x) (d : Nat) : ∀ (i : Nat), l.length = i + d → ∃ b, Ev (fun k => spec_RangesOk.l0 k l i) b ∧ (b = true ↔ ∀ j, i ≤ j → j < l.length → RP l j) := by
  induction d with
  | zero =>
    intro i hd
    refine ⟨true, ?_, ⟨fun _ j h1 h2 => by omega, fun _ => rfl⟩⟩
    refine Ev.step (fun k => by rw [spec_RangesOk.l0]) ?_
    exact ev_neg (by omega) (Ev.now _)
  | succ d ih =>
    intro i hd
    have wi := wf_at hw i (by omega)
    by_cases hP : RP l i
    · obtain ⟨b, hb, hi⟩ := ih (i + 1) (by omega)
      refine ⟨b, ?_, ?_⟩
      · refine Ev.step (fun k => by rw [spec_RangesOk.l0]) ?_
        refine ev_pos (by omega) (ev_pos (by omega) (ev_neg (by have := hP.1; omega) ?_))
        obtain ⟨t, ht, hti⟩ := in_ev (rd_T26 l i).f2 0 99
        refine Ev.bind (ev_const ht) (ev_pos (hti.2 hP.2.1) ?_)
        by_cases h0 : 0 < i
        · refine ev_pos (by omega) ?_
          rw [wpred h0 (by omega), wsucc (n := l.length) (by omega) (by omega)]
          refine ev_pos (by omega) (ev_pos (by omega) (ev_neg (hP.2.2 h0).1 (ev_pos ?_ hb)))
          have wp := wf_at hw (i - 1) (by omega)
          rw [u64w (by have := wp.2.1; omega) (by have := wp.2.2; have := (hP.2.2 h0).1; omega)]
          exact (hP.2.2 h0).2
        · refine ev_neg (by omega) ?_
          rw [wsucc (n := l.length) (by omega) (by omega)]
          exact hb
      · rw [hi]
        refine ⟨fun h j h1 h2 => ?_, fun h j h1 h2 => h j (by omega) h2⟩
        by_cases e : j = i
        · subst e; exact hP
        · exact h j (by omega) h2
    · refine ⟨false, ?_, ⟨fun h => (by cases h), fun h => absurd (h i (Nat.le_refl _) (by omega)) hP⟩⟩
      refine Ev.step (fun k => by rw [spec_RangesOk.l0]) ?_
      refine ev_pos (by omega) (ev_pos (by omega) ?_)
      by_cases h1 : (rd_T26 l i).f0 > (rd_T26 l i).f1
      · exact ev_pos h1 (Ev.now _)
      · refine ev_neg h1 ?_
        obtain ⟨t, ht, hti⟩ := in_ev (rd_T26 l i).f2 0 99
        refine Ev.bind (ev_const ht) ?_
        by_cases h2 : t = true
        · refine ev_pos h2 ?_
          by_cases h0 : 0 < i
          · refine ev_pos (by omega) ?_
            rw [wpred h0 (by omega)]
            refine ev_pos (by omega) (ev_pos (by omega) ?_)
            by_cases h3 : (rd_T26 l (i - 1 : Nat)).f1 = 18446744073709551615
            · exact ev_pos h3 (Ev.now _)
            · refine ev_neg h3 (ev_neg ?_ (Ev.now _))
              have wp := wf_at hw (i - 1) (by omega)
              rw [u64w (by have := wp.2.1; omega) (by have := wp.2.2; omega)]
              exact fun h4 => hP ⟨by omega, hti.1 h2, fun _ => ⟨h3, h4⟩⟩
          · exact absurd ⟨by omega, hti.1 h2, fun h => absurd h h0⟩ hP
        · exact ev_neg h2 (Ev.now _)
theorem specRangesOk_ev (l : List S26) (hl : l.length ≤ 1048576) (hw : ∀ x ∈ l, wfR x) : ∃ b, Ev (fun k => spec_RangesOk.f k l) b ∧ (b = true ↔ RangesP l) := by
  have hj : ∀ (x : Bool), x = true → Ev (fun k => spec_RangesOk.j0 k l x) false := fun x hx => by
    refine Ev.step (fun k => by rw [spec_RangesOk.j0]) ?_
    exact ev_pos hx (Ev.now _)
  unfold spec_RangesOk.f
  obtain ⟨t, ht, hti⟩ := in_ev (l.length : Int) 1 24
  by_cases h1 : t = true
  · have h2 := hti.1 h1
    by_cases h3 : (rd_T26 l 0).f0 = 0
    · by_cases h4 : (rd_T26 l ((l.length - 1 : Nat) : Int)).f1 = 18446744073709551615
      · obtain ⟨b, hb, hi⟩ := specRangesOk_l l hl hw l.length 0 (by omega)
        refine ⟨b, ?_, ?_⟩
        · refine Ev.bind (ev_const ht) (ev_pos h1 (ev_pos (by omega) (ev_pos h3 ?_)))
          rw [wpred (by omega) (by omega)]
          refine ev_pos (by omega) (ev_pos (by omega) ?_)
          refine Ev.step (fun k => by rw [spec_RangesOk.j0]) ?_
          exact ev_neg (by rw [h4]; decide) hb
        · rw [hi]
          exact ⟨fun h => ⟨by omega, by omega, h3, h4, fun j => h j (Nat.zero_le _)⟩, fun h j _ => h.2.2.2.2 j⟩
      · refine ⟨false, ?_, ⟨fun h => (by cases h), fun h => absurd h.2.2.2.1 h4⟩⟩
        refine Ev.bind (ev_const ht) (ev_pos h1 (ev_pos (by omega) (ev_pos h3 ?_)))
        rw [wpred (by omega) (by omega)]
        refine ev_pos (by omega) (ev_pos (by omega) (hj _ (by simpa using h4)))
    · refine ⟨false, ?_, ⟨fun h => (by cases h), fun h => absurd h.2.2.1 h3⟩⟩
      exact Ev.bind (ev_const ht) (ev_pos h1 (ev_pos (by omega) (ev_neg h3 (hj _ rfl))))
  · refine ⟨false, ?_, ⟨fun h => (by cases h), fun h => absurd (hti.2 ⟨by have := h.1; omega, by have := h.2.1; omega⟩) h1⟩⟩
    exact Ev.bind (ev_const ht) (ev_neg h1 (hj _ rfl))

theorem group_ev (x : Int) : ∃ t, impl_isGroupId.f x = some t ∧ (t = true ↔ 0 ≤ x ∧ x ≤ 99) := by
  unfold impl_isGroupId.f
  by_cases h : x ≥ 0
  · rw [if_pos h]
    exact ⟨_, rfl, by simp; omega⟩
  · rw [if_neg h]
    exact ⟨_, rfl, by simp; omega⟩
theorem areRanges_l (l : List S26) (hl : l.length ≤ 1048576) (hw : ∀ x ∈ l, wfR x) (d : Nat) : ∀ (i : Nat), l.length = i + d → ∃ b, Ev (fun k => impl_areRanges.l0 k l l (l.length : Int) i) b ∧ (b = true ↔ ∀ j, i ≤ j → j < l.length → RP l j) := by
  induction d with
  | zero =>
    intro i hd
    refine ⟨true, ?_, ⟨fun _ j h1 h2 => by omega, fun _ => rfl⟩⟩
    refine Ev.step (fun k => by rw [impl_areRanges.l0]) ?_
    exact ev_neg (by omega) (Ev.now _)
  | succ d ih =>
    intro i hd
    have wi := wf_at hw i (by omega)
    by_cases hP : RP l i
    · obtain ⟨b, hb, hi⟩ := ih (i + 1) (by omega)
      refine ⟨b, ?_, ?_⟩
      · refine Ev.step (fun k => by rw [impl_areRanges.l0]) ?_
        refine ev_pos (by omega) (ev_pos (by omega) (ev_pos (by omega) (ev_neg (by have := hP.1; omega) ?_)))
        obtain ⟨t, ht, hti⟩ := group_ev (rd_T26 l i).f2
        refine Ev.bind (ev_const ht) (ev_pos (hti.2 hP.2.1) ?_)
        by_cases h0 : 0 < i
        · have wp := wf_at hw (i - 1) (by omega)
          have h5 := hP.2.2 h0
          refine ev_pos (by omega) (ev_neg (by have := wp.2.1; omega) ?_)
          rw [wpred h0 (by omega), wsucc (n := l.length) (by omega) (by omega)]
          refine ev_pos (by omega) (ev_pos (by omega) (ev_pos ?_ hb))
          rw [u64w (by have := wp.2.1; omega) (by have := wi.1.2; omega)]
          omega
        · refine ev_neg (by omega) ?_
          rw [wsucc (n := l.length) (by omega) (by omega)]
          exact hb
      · rw [hi]
        refine ⟨fun h j h1 h2 => ?_, fun h j h1 h2 => h j (by omega) h2⟩
        by_cases e : j = i
        · subst e; exact hP
        · exact h j (by omega) h2
    · refine ⟨false, ?_, ⟨fun h => (by cases h), fun h => absurd (h i (Nat.le_refl _) (by omega)) hP⟩⟩
      refine Ev.step (fun k => by rw [impl_areRanges.l0]) ?_
      refine ev_pos (by omega) (ev_pos (by omega) (ev_pos (by omega) ?_))
      by_cases h1 : (rd_T26 l i).f0 > (rd_T26 l i).f1
      · exact ev_pos h1 (Ev.now _)
      · refine ev_neg h1 ?_
        obtain ⟨t, ht, hti⟩ := group_ev (rd_T26 l i).f2
        refine Ev.bind (ev_const ht) ?_
        by_cases h2 : t = true
        · refine ev_pos h2 ?_
          by_cases h0 : 0 < i
          · refine ev_pos (by omega) ?_
            by_cases h3 : (rd_T26 l i).f0 = 0
            · exact ev_pos h3 (Ev.now _)
            · refine ev_neg h3 ?_
              have wp := wf_at hw (i - 1) (by omega)
              rw [wpred h0 (by omega)]
              refine ev_pos (by omega) (ev_pos (by omega) (ev_neg ?_ (Ev.now _)))
              rw [u64w (by have := wi.1.1; omega) (by have := wi.1.2; omega)]
              exact fun h4 => hP ⟨by omega, hti.1 h2, fun _ => ⟨by have := wi.1.2; omega, by omega⟩⟩
          · exact absurd ⟨by omega, hti.1 h2, fun h => absurd h h0⟩ hP
        · exact ev_neg h2 (Ev.now _)
theorem areRanges_ev (l : List S26) (hl : l.length ≤ 1048576) (hw : ∀ x ∈ l, wfR x) : ∃ b, Ev (fun k => impl_areRanges.f k l) b ∧ (b = true ↔ RangesP l) := by
  have hj : ∀ (x : Bool), x = true → Ev (fun k => impl_areRanges.j0 k l x) false := fun x hx => by
    refine Ev.step (fun k => by rw [impl_areRanges.j0]) ?_
    exact ev_pos hx (Ev.now _)
  unfold impl_areRanges.f
  by_cases h1 : (l.length : Int) < 1
  · exact ⟨false, ev_pos h1 (hj _ rfl), ⟨fun h => (by cases h), fun h => by have := h.1; omega⟩⟩
  by_cases h2 : (l.length : Int) > 24
  · exact ⟨false, ev_neg h1 (ev_pos h2 (hj _ rfl)), ⟨fun h => (by cases h), fun h => by have := h.2.1; omega⟩⟩
  by_cases h3 : (rd_T26 l 0).f0 = 0
  · by_cases h4 : (rd_T26 l ((l.length - 1 : Nat) : Int)).f1 = 18446744073709551615
    · obtain ⟨b, hb, hi⟩ := areRanges_l l hl hw l.length 0 (by omega)
      refine ⟨b, ?_, ?_⟩
      · refine ev_neg h1 (ev_neg h2 (ev_pos (by omega) (ev_pos h3 ?_)))
        rw [wpred (by omega) (by omega)]
        refine ev_pos (by omega) (ev_pos (by omega) ?_)
        refine Ev.step (fun k => by rw [impl_areRanges.j0]) ?_
        exact ev_neg (by rw [h4]; decide) hb
      · rw [hi]
        exact ⟨fun h => ⟨by omega, by omega, h3, h4, fun j => h j (Nat.zero_le _)⟩, fun h j _ => h.2.2.2.2 j⟩
    · refine ⟨false, ?_, ⟨fun h => (by cases h), fun h => absurd h.2.2.2.1 h4⟩⟩
      refine ev_neg h1 (ev_neg h2 (ev_pos (by omega) (ev_pos h3 ?_)))
      rw [wpred (by omega) (by omega)]
      refine ev_pos (by omega) (ev_pos (by omega) (hj _ (by simpa using h4)))
  · refine ⟨false, ?_, ⟨fun h => (by cases h), fun h => absurd h.2.2.1 h3⟩⟩
    exact ev_neg h1 (ev_neg h2 (ev_pos (by omega) (ev_neg h3 (hj _ rfl))))

def mergeM (l : List S26) (p : Nat) : List S26 := (l.set p ⟨(rd_T26 l p).f0, (rd_T26 l (p + 1 : Nat)).f1, (rd_T26 l p).f2⟩).eraseIdx (p + 1)
theorem mergeM_len (l : List S26) (p : Nat) (h : p + 1 < l.length) : (mergeM l p).length = l.length - 1 := by
  unfold mergeM
  rw [List.length_eraseIdx_of_lt (by simpa using h), List.length_set]
theorem mergeM_past (l : List S26) (p j : Nat) (h : p + 1 < l.length) (hj : p < j) (hl : j + 1 < l.length) : (mergeM l p).getD j z26 = rd_T26 l ((j + 1 : Nat) : Int) := by
  unfold rd_T26
  rw [toNat_cast, getD_lt _ _ _ (by rw [mergeM_len l p h]; omega), getD_lt l (j + 1) z26 hl]
  simp only [mergeM]
  rw [List.getElem_eraseIdx, dif_neg (by omega), List.getElem_set_ne (by omega)]
theorem mergeM_take (l : List S26) (p : Nat) (h : p + 1 < l.length) : (l.take (p + 1)).set p ⟨(rd_T26 l p).f0, (rd_T26 l (p + 1 : Nat)).f1, (rd_T26 l p).f2⟩ = (mergeM l p).take (p + 1) := by
  apply List.ext_getElem
  · rw [List.length_set, List.length_take, List.length_take, mergeM_len l p h]; omega
  · intro i h1 h2
    rw [List.length_set, List.length_take] at h1
    rw [List.getElem_take]
    simp only [mergeM]
    rw [List.getElem_eraseIdx, dif_pos (by omega)]
    by_cases e : i = p
    · subst e
      rw [List.getElem_set_self, List.getElem_set_self]
    · rw [List.getElem_set_ne (by omega), List.getElem_set_ne (by omega), List.getElem_take]
theorem rd_take (l : List S26) (p n : Nat) (h : p < n) : rd_T26 (l.take n) (p : Int) = rd_T26 l (p : Int) := by
  unfold rd_T26
  rw [toNat_cast, List.getD_eq_getElem?_getD, List.getD_eq_getElem?_getD, List.getElem?_take_of_lt h]
theorem specMerge_2 (l : List S26) (hl : l.length ≤ 1048576) (p : Nat) (h : p + 1 < l.length) (d : Nat) : ∀ i : Nat, p + 2 ≤ i → l.length = i + d → Ev (fun k => spec_MergeRange.l0 k l (p : Int) ((mergeM l p).take (i - 1)) i) (mergeM l p, true) := by
  induction d with
  | zero =>
    intro i hi hd
    refine Ev.step (fun k => by rw [spec_MergeRange.l0]) ?_
    refine ev_neg (by omega) ?_
    rw [List.take_of_length_le (by rw [mergeM_len l p h]; omega)]
    exact Ev.now _
  | succ d ih =>
    intro i hi hd
    refine Ev.step (fun k => by rw [spec_MergeRange.l0]) ?_
    have hlen : ((mergeM l p).take (i - 1)).length < 5864062014805 := by
      have := List.length_take_le (i - 1) (mergeM l p)
      omega
    refine ev_pos (by omega) ?_
    rw [wsucc (j := p) (n := l.length) (by omega) (by omega)]
    refine ev_neg (by omega) (ev_pos (by omega) (ev_pos hlen ?_))
    rw [wsucc (n := l.length) (by omega) (by omega)]
    have := ih (i + 1) (by omega) (by omega)
    rw [show i + 1 - 1 = i - 1 + 1 by omega, take_succ_getD _ (i - 1) z26 (by rw [mergeM_len l p h]; omega), mergeM_past l p (i - 1) h (by omega) (by omega), show i - 1 + 1 = i by omega] at this
    exact this
theorem specMerge_1 (l : List S26) (hl : l.length ≤ 1048576) (p : Nat) (h : p + 1 < l.length) (d : Nat) : ∀ i : Nat, i + d = p + 1 → Ev (fun k => spec_MergeRange.l0 k l (p : Int) (l.take i) i) (mergeM l p, true) := by
  induction d with
  | zero =>
    intro i hd
    obtain rfl : i = p + 1 := by omega
    have := specMerge_2 l hl p h (l.length - (p + 2)) (p + 2) (Nat.le_refl _) (by omega)
    rw [show p + 2 - 1 = p + 1 by omega, ← mergeM_take l p h] at this
    refine Ev.step (fun k => by rw [spec_MergeRange.l0]) ?_
    refine ev_pos (by omega) ?_
    rw [wsucc (j := p) (n := l.length) (by omega) (by omega)]
    refine ev_pos rfl (ev_pos (by omega) (ev_pos (by omega) (ev_pos (by rw [List.length_take]; omega) ?_)))
    rw [wsucc (j := p + 1) (n := l.length) (by omega) (by omega), toNat_cast, rd_take l p (p + 1) (by omega)]
    exact this
  | succ d ih =>
    intro i hd
    refine Ev.step (fun k => by rw [spec_MergeRange.l0]) ?_
    have hlen : (l.take i).length < 5864062014805 := by
      have := List.length_take_le i l
      omega
    refine ev_pos (by omega) ?_
    rw [wsucc (j := p) (n := l.length) (by omega) (by omega)]
    refine ev_neg (by omega) (ev_pos (by omega) (ev_pos hlen ?_))
    rw [wsucc (n := l.length) (by omega) (by omega)]
    have := ih (i + 1) (by omega)
    rw [take_succ_getD l i z26 (by omega)] at this
    unfold rd_T26
    rw [toNat_cast]
    exact this
def MergeC (l : List S26) (p : Int) : Prop := RangesP l ∧ 0 ≤ p ∧ p + 1 < l.length ∧ (rd_T26 l p).f2 = (rd_T26 l (p + 1)).f2
theorem specMerge_ev (l : List S26) (hl : l.length ≤ 1048576) (hw : ∀ x ∈ l, wfR x) (p : Int) : ∃ r, Ev (fun k => spec_MergeRange.f k l p) r ∧ (MergeC l p → r = (mergeM l p.toNat, true)) ∧ (¬ MergeC l p → r = ([], false)) := by
  have hj : ∀ (x : Bool), x = true → Ev (fun k => spec_MergeRange.j0 k l p x) ([], false) := fun x hx => by
    refine Ev.step (fun k => by rw [spec_MergeRange.j0]) ?_
    exact ev_pos hx (Ev.now _)
  obtain ⟨b, hb, hi⟩ := specRangesOk_ev l hl hw
  unfold spec_MergeRange.f
  by_cases h : b = true
  · have hP := hi.1 h
    have h1 := hP.1
    rw [w64 (x := (l.length : Int) - 2) (by omega) (by omega)]
    obtain ⟨t, ht, hti⟩ := in_ev p 0 ((l.length : Int) - 2)
    by_cases h2 : t = true
    · have h2' := hti.1 h2
      rw [w64 (x := p + 1) (by omega) (by omega)]
      by_cases h3 : (rd_T26 l p).f2 = (rd_T26 l (p + 1)).f2
      · refine ⟨_, Ev.bind hb (ev_pos h (Ev.bind (ev_const ht) (ev_pos h2 (ev_pos (by omega) (ev_pos (by omega) (ev_pos (by omega) (ev_pos (by omega) ?_))))))), fun _ => rfl, fun hn => absurd ⟨hP, by omega, by omega, h3⟩ hn⟩
        refine Ev.step (fun k => by rw [spec_MergeRange.j0]) ?_
        refine ev_neg (by rw [h3]; simp) ?_
        have := specMerge_1 l hl p.toNat (by omega) (p.toNat + 1) 0 (by omega)
        rw [Int.toNat_of_nonneg (by omega)] at this
        exact this
      · exact ⟨_, Ev.bind hb (ev_pos h (Ev.bind (ev_const ht) (ev_pos h2 (ev_pos (by omega) (ev_pos (by omega) (ev_pos (by omega) (ev_pos (by omega) (hj _ (by simpa using h3))))))))), fun hc => absurd hc.2.2.2 h3, fun _ => rfl⟩
    · exact ⟨_, Ev.bind hb (ev_pos h (Ev.bind (ev_const ht) (ev_neg h2 (hj _ rfl)))), fun hc => absurd (hti.2 ⟨hc.2.1, by have := hc.2.2.1; omega⟩) h2, fun _ => rfl⟩
  · exact ⟨_, Ev.bind hb (ev_neg h (hj _ rfl)), fun hc => absurd (hi.2 hc.1) h, fun _ => rfl⟩
theorem implMerge_ev (l : List S26) (hl : l.length ≤ 1048576) (hw : ∀ x ∈ l, wfR x) (p : Int) (hp1 : -9223372036854775808 ≤ p) (hp2 : p ≤ 9223372036854775807) : ∃ r, Ev (fun k => impl_MergeRange.f k l p) r ∧ (MergeC l p → r = (mergeM l p.toNat, true)) ∧ (¬ MergeC l p → r = ([], false)) := by
  obtain ⟨b, hb, hi⟩ := areRanges_ev l hl hw
  have key : ∃ r, Ev (fun k => impl_mergeRange.f k l p) r ∧ (MergeC l p → r = (mergeM l p.toNat, true)) ∧ (¬ MergeC l p → r = ([], false)) := by
    unfold impl_mergeRange.f
    by_cases h : b = true
    · have hP := hi.1 h
      have h1 := hP.1
      rw [w64 (x := (l.length : Int) - 1) (by omega) (by omega)]
      by_cases h2 : p < 0
      · exact ⟨_, Ev.bind hb (ev_pos h (ev_pos h2 (Ev.now _))), fun hc => by have := hc.2.1; omega, fun _ => rfl⟩
      by_cases h3 : p ≥ (l.length : Int) - 1
      · exact ⟨_, Ev.bind hb (ev_pos h (ev_neg h2 (ev_pos h3 (Ev.now _)))), fun hc => by have := hc.2.2.1; omega, fun _ => rfl⟩
      rw [w64 (x := p + 1) (by omega) (by omega), w64 (x := p + 2) (by omega) (by omega)]
      by_cases h4 : (rd_T26 l p).f2 = (rd_T26 l (p + 1)).f2
      · refine ⟨_, Ev.bind hb (ev_pos h (ev_neg h2 (ev_neg h3 (ev_pos (by omega) (ev_pos (by omega) (ev_pos (by omega) (ev_pos (by omega) (ev_pos h4 (Ev.bind (Ev.now _) (ev_pos (by simp; omega) (Ev.bind (Ev.now _) (ev_pos (by simp; omega) (Ev.bind (a := mergeM l p.toNat) (ev_const ?_) (Ev.now _)))))))))))))), fun _ => rfl, fun hn => absurd ⟨hP, by omega, by omega, h4⟩ hn⟩
        unfold impl_Range.f
        rw [List.nil_append, if_pos ⟨by omega, by omega, by rw [List.length_set]; omega⟩]
        congr 1
        unfold mergeM
        rw [Int.toNat_of_nonneg (by omega), show ((p.toNat + 1 : Nat) : Int) = p + 1 by omega, show (p + 1).toNat = p.toNat + 1 by omega]
      · exact ⟨_, Ev.bind hb (ev_pos h (ev_neg h2 (ev_neg h3 (ev_pos (by omega) (ev_pos (by omega) (ev_pos (by omega) (ev_pos (by omega) (ev_neg h4 (Ev.now _))))))))), fun hc => absurd hc.2.2.2 h4, fun _ => rfl⟩
    · exact ⟨_, Ev.bind hb (ev_neg h (Ev.now _)), fun hc => absurd (hi.2 hc.1) h, fun _ => rfl⟩
  obtain ⟨r, hr, r1, r2⟩ := key
  refine ⟨r, ?_, r1, r2⟩
  unfold impl_MergeRange.f
  exact Ev.bind hr (Ev.now _)

theorem szRangeS_ev (l : List S24) (x : Int) (hm : l.length ≤ maxLen) (h0 : 0 ≤ x) (h1 : x ≤ 1048576) : (laws_szRangeS.f l x = some (-1) ∧ x < l.length) ∨ (laws_szRangeS.f l x = some (x - l.length) ∧ (l.length : Int) ≤ x) := by
  unfold maxLen at hm
  unfold laws_szRangeS.f
  rw [w64 (by omega) (by omega)]
  by_cases h : x - (l.length : Int) < 0
  · rw [if_pos h]; exact .inl ⟨rfl, by omega⟩
  · rw [if_neg h]; exact .inr ⟨rfl, by omega⟩

theorem rd_set_self (xs : List S26) (i : Nat) (v : S26) (h : i < xs.length) : rd_T26 (xs.set i v) (i : Int) = v := by
  unfold rd_T26
  rw [toNat_cast, getD_lt _ _ _ (by simpa using h), List.getElem_set_self]
theorem mark_l (d : Nat) : ∀ (i : Nat) (xs : List S26) (c : Int), xs.length = i + d → xs.length ≤ 1048576 → 0 ≤ c → c ≤ 1 + 3 * (i : Int) →
    ∃ m ys, Ev (fun k => laws_markRangeS.l0 k xs c i) (m, ys) ∧ ys.length = xs.length ∧ 0 ≤ m ∧ (∀ j, j < i → ys[j]? = xs[j]?) ∧ Ev (fun k => laws_heldRangeS.l0 k ys c i) m := by
  induction d with
  | zero =>
    intro i xs c hd hl h0 h1
    refine ⟨c, xs, ?_, rfl, h0, fun _ _ => rfl, ?_⟩
    · refine Ev.step (fun k => by rw [laws_markRangeS.l0]) ?_
      exact ev_neg (by omega) (Ev.now _)
    · refine Ev.step (fun k => by rw [laws_heldRangeS.l0]) ?_
      exact ev_neg (by omega) (Ev.now _)
  | succ d ih =>
    intro i xs c hd hl h0 h1
    obtain ⟨m, ys, hm, hy, hm0, hk, hh⟩ := ih (i + 1) (xs.set i ⟨IntKind.u64.wrap c, IntKind.u64.wrap (wrap64 (c + 1)), wrap64 (wrap64 (c + 1) + 1)⟩) (c + 3) (by simp; omega) (by simpa using hl) (by omega) (by omega)
    have e1 : wrap64 (wrap64 (wrap64 (c + 1) + 1) + 1) = c + 3 := by unfold wrap64; omega
    refine ⟨m, ys, ?_, by simpa using hy, hm0, fun j hj => ?_, ?_⟩
    · refine Ev.step (fun k => by rw [laws_markRangeS.l0]) ?_
      refine ev_pos (by omega) (ev_pos (by omega) ?_)
      refine Ev.bind (Ev.now _) (Ev.bind (Ev.now _) ?_)
      rw [toNat_cast, rd_set_self _ _ _ (by omega), List.set_set, rd_set_self _ _ _ (by simpa using (show i < xs.length by omega)), List.set_set, e1, wsucc (n := xs.length) (by omega) (by omega)]
      exact hm
    · rw [hk j (by omega), List.getElem?_set_ne (by omega)]
    · have hi : rd_T26 ys (i : Int) = ⟨IntKind.u64.wrap c, IntKind.u64.wrap (wrap64 (c + 1)), wrap64 (wrap64 (c + 1) + 1)⟩ := by
        unfold rd_T26
        rw [toNat_cast, List.getD_eq_getElem?_getD, hk i (by omega), List.getElem?_set_self (by omega)]
        rfl
      have hyl : ys.length = xs.length := by simpa using hy
      refine Ev.step (fun k => by rw [laws_heldRangeS.l0]) ?_
      refine ev_pos (by omega) (ev_pos (by omega) ?_)
      rw [hi]
      refine ev_pos rfl (ev_pos rfl (ev_pos rfl ?_))
      rw [e1, wsucc (n := ys.length) (by omega) (by omega)]
      exact hh
theorem mark_ev (xs : List S26) (hl : xs.length ≤ 1048576) : ∃ m ys, Ev (fun k => laws_markRangeS.f k xs 1) (m, ys) ∧ 0 ≤ m ∧ Ev (fun k => laws_heldRangeS.f k ys 1) m := by
  obtain ⟨m, ys, h1, _, h2, _, h3⟩ := mark_l xs.length 0 xs 1 (by omega) hl (by omega) (by omega)
  exact ⟨m, ys, h1, h2, h3⟩

theorem FnExactMergeRange : Stated := by
  intro l p ⟨hm, hw⟩ hp
  have hp := wf_i64 hp
  refine Ev.rounds (?_ : Ev (fun k => laws_FnExactMergeRange.f k l p) true)
  unfold laws_FnExactMergeRange.f
  rcases szRangeS_ev l 1048576 hm (by omega) (by omega) with ⟨hs, hn⟩ | ⟨hs, hn⟩
  · exact Ev.bind (ev_const hs) (ev_pos (by omega) (Ev.now _))
  · refine Ev.bind (ev_const hs) (ev_neg (by omega) ?_)
    have hl : l.length ≤ 1048576 := by omega
    have ht := toRangeS_ev l hl
    have hl' : (l.map conv).length ≤ 1048576 := by simpa using hl
    obtain ⟨r, hr, r1, r2⟩ := specMerge_ev _ hl' (wf_conv hw) p
    obtain ⟨r', hr', r1', r2'⟩ := implMerge_ev _ hl' (wf_conv hw) p hp.1 hp.2
    have e : r' = r ∧ r'.1.length ≤ 1048576 := by
      by_cases h : MergeC (l.map conv) p
      · rw [r1 h, r1' h]
        refine ⟨rfl, ?_⟩
        show (mergeM (l.map conv) p.toNat).length ≤ 1048576
        rw [mergeM_len _ _ (by have := h.2.2.1; have := h.2.1; omega)]
        omega
      · rw [r2 h, r2' h]
        exact ⟨rfl, by simp⟩
    obtain ⟨e, hrl⟩ := e
    subst e
    have heq := eqRangeS_ev r'.1 hrl
    obtain ⟨m, ys, hm1, hm2, hm3⟩ := mark_ev _ hl'
    obtain ⟨m', ys', hm1', hm2', hm3'⟩ := mark_ev r'.1 hrl
    refine Ev.bind ht (Ev.bind hr (Ev.bind ht (Ev.bind hr' (Ev.bind heq (ev_pos rfl (ev_neg (by simp) ?_))))))
    refine Ev.bind ht (Ev.bind (eqRangeS_ev _ hl') (ev_pos rfl ?_))
    refine Ev.bind hm1 (ev_neg (by show ¬ m < 0; omega) (Ev.bind heq (ev_pos rfl ?_)))
    refine Ev.bind hm1' (Ev.bind hm3' (ev_neg (by omega) (ev_pos rfl ?_)))
    refine Ev.bind ht (Ev.bind hr' (Ev.bind heq (ev_pos rfl (ev_neg (by simp) ?_))))
    exact Ev.bind hm3' (ev_neg (by omega) (ev_pos rfl (Ev.now _)))

end Go.Proofs.Ytfabcjkaoidmeaa.Pure
