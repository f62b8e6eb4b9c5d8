/- The law FnExactChartOk answers true at every input. No condition. -/
import Derived.Test.YtfabcjkaoidmeaaOpnFnExactChartOk
import Derived.Test.YtfabcjkaoidmeaaBase
namespace Go.Proofs.Ytfabcjkaoidmeaa.Pure
open Go.RowKit Go.Proofs.Ytfabcjkaoidmeaa.QFnExactChartOk Go.Proofs.Ytfabcjkaoidmeaa.OpnFnExactChartOk Go.Proofs.Ytfabcjkaoidmeaa.Base Go.Proofs.YtfabcjkaoidmeaaW.PrintWords Go.Proofs.YtfabcjkaoidmeaaW.PrintLast
set_option linter.unusedVariables false

def wfR (x : S26) : Prop := (0 ≤ x.f0 ∧ x.f0 ≤ 18446744073709551615) ∧ (0 ≤ x.f1 ∧ x.f1 ≤ 18446744073709551615)
theorem wf_at {l : List S26} (h : ∀ x ∈ l, wfR x) (j : Nat) (hj : j < l.length) : wfR (rd_T26 l j) := by
  unfold rd_T26
  rw [toNat_cast]
  exact h _ (getD_mem l j z26 hj)

def conv (x : S24) : S26 := ⟨x.f0, x.f1, x.f2⟩
theorem wf_conv {l : List S24} (h : ∀ x ∈ l, wf24 x) : ∀ x ∈ l.map conv, wfR x := by
  intro x hx
  obtain ⟨y, hy, rfl⟩ := List.mem_map.1 hx
  obtain ⟨h0, h1, _⟩ := h y hy
  exact ⟨wf_u64 h0, wf_u64 h1⟩

theorem toRangeS_l (l : List S24) (hl : l.length ≤ 1048576) (d : Nat) : ∀ (i : Nat) (ys : List S26), l.length = i + d → ys.length = l.length → ys.take i = (l.map conv).take i →
    Ev (fun k => laws_toRangeS.l0 k l ys i) (l.map conv) := by
  induction d with
  | zero =>
    intro i ys hd hy ht
    refine Ev.step (fun k => by rw [laws_toRangeS.l0]) ?_
    refine ev_neg (by omega) ?_
    have : ys = l.map conv := by
      rw [List.take_of_length_le (by omega), List.take_of_length_le (by simp; omega)] at ht
      exact ht
    rw [this]
    exact Ev.now _
  | succ d ih =>
    intro i ys hd hy ht
    refine Ev.step (fun k => by rw [laws_toRangeS.l0]) ?_
    refine ev_pos (by omega) (ev_pos (by omega) ?_)
    refine Ev.bind (ev_const rfl) ?_
    refine ev_pos (by omega) ?_
    rw [wsucc (n := l.length) (by omega) (by omega), toNat_cast]
    refine ih (i + 1) _ (by omega) (by simpa using hy) ?_
    rw [take_set_succ _ _ _ (by omega), take_succ_getD (l.map conv) i z26 (by simp; omega), ht]
    congr 2
    unfold rd_T24
    rw [toNat_cast, getD_lt l i z24 (by omega), getD_lt (l.map conv) i z26 (by simp; omega), List.getElem_map]
    rfl
theorem toRangeS_ev (l : List S24) (hl : l.length ≤ 1048576) : Ev (fun k => laws_toRangeS.f k l) (l.map conv) := by
  unfold laws_toRangeS.f
  refine ev_pos (by omega) (ev_pos (by rw [toNat_cast]; omega) ?_)
  rw [toNat_cast]
  exact toRangeS_l l hl l.length 0 _ (by omega) (by simp) (by simp)

theorem eqRangeS_l (l : List S26) (hl : l.length ≤ 1048576) (d : Nat) : ∀ (i : Nat), l.length = i + d → Ev (fun k => laws_eqRangeS.l0 k l l i) true := by
  induction d with
  | zero =>
    intro i hd
    refine Ev.step (fun k => by rw [laws_eqRangeS.l0]) ?_
    exact ev_neg (by omega) (Ev.now _)
  | succ d ih =>
    intro i hd
    refine Ev.step (fun k => by rw [laws_eqRangeS.l0]) ?_
    refine ev_pos (by omega) (ev_pos (by omega) (ev_pos (by omega) ?_))
    refine Ev.bind (a := true) (ev_const (by unfold laws_eqRange.f; rw [if_pos rfl, if_pos rfl, if_pos rfl])) ?_
    refine ev_pos rfl ?_
    rw [wsucc (n := l.length) (by omega) (by omega)]
    exact ih (i + 1) (by omega)
theorem eqRangeS_ev (l : List S26) (hl : l.length ≤ 1048576) : Ev (fun k => laws_eqRangeS.f k l l) true := by
  unfold laws_eqRangeS.f
  refine ev_pos rfl ?_
  exact eqRangeS_l l hl l.length 0 (by omega)

/-- What is asked of range j. -/
def RP (l : List S26) (j : Nat) : Prop :=
  (rd_T26 l j).f0 ≤ (rd_T26 l j).f1 ∧ (0 ≤ (rd_T26 l j).f2 ∧ (rd_T26 l j).f2 ≤ 99) ∧ (0 < j → (rd_T26 l (j - 1 : Nat)).f1 ≠ 18446744073709551615 ∧ (rd_T26 l j).f0 = (rd_T26 l (j - 1 : Nat)).f1 + 1)
/-- Ranges are all ids. -/
def RangesP (l : List S26) : Prop :=
  1 ≤ l.length ∧ l.length ≤ 24 ∧ (rd_T26 l 0).f0 = 0 ∧ (rd_T26 l ((l.length - 1 : Nat) : Int)).f1 = 18446744073709551615 ∧ ∀ j, j < l.length → RP l j
theorem in_ev (x a b : Int) : ∃ t, spec_l01In.f x a b = some t ∧ (t = true ↔ a ≤ x ∧ x ≤ b) := by
  unfold spec_l01In.f
  by_cases h : a ≤ x
  · rw [if_pos h]
    exact ⟨_, rfl, by simp [h]⟩
  · rw [if_neg h]
    exact ⟨_, rfl, by simp [h]⟩

theorem specRangesOk_l (l : List S26) (hl : l.length ≤ 1048576) (hw : ∀ x ∈ l, wfR x) (d : Nat) : ∀ (i : Nat), l.length = i + d → ∃ b, Ev (fun k => spec_RangesOk.l0 k l i) b ∧ (b = true ↔ ∀ j, i ≤ j → j < l.length → RP l j) := by
  induction d with
  | zero =>
    intro i hd
    refine ⟨true, ?_, ⟨fun _ j h1 h2 => by omega, fun _ => rfl⟩⟩
    refine Ev.step (fun k => by rw [spec_RangesOk.l0]) ?_
    exact ev_neg (by omega) (Ev.now _)
  | succ d ih =>
    intro i hd
    have wi := wf_at hw i (by omega)
    by_cases hP : RP l i
    · obtain ⟨b, hb, hi⟩ := ih (i + 1) (by omega)
      refine ⟨b, ?_, ?_⟩
      · refine Ev.step (fun k => by rw [spec_RangesOk.l0]) ?_
        refine ev_pos (by omega) (ev_pos (by omega) (ev_neg (by have := hP.1; omega) ?_))
        obtain ⟨t, ht, hti⟩ := in_ev (rd_T26 l i).f2 0 99
        refine Ev.bind (ev_const ht) (ev_pos (hti.2 hP.2.1) ?_)
        by_cases h0 : 0 < i
        · refine ev_pos (by omega) ?_
          rw [wpred h0 (by omega), wsucc (n := l.length) (by omega) (by omega)]
          refine ev_pos (by omega) (ev_pos (by omega) (ev_neg (hP.2.2 h0).1 (ev_pos ?_ hb)))
          have wp := wf_at hw (i - 1) (by omega)
          rw [u64w (by have := wp.2.1; omega) (by have := wp.2.2; have := (hP.2.2 h0).1; omega)]
          exact (hP.2.2 h0).2
        · refine ev_neg (by omega) ?_
          rw [wsucc (n := l.length) (by omega) (by omega)]
          exact hb
      · rw [hi]
        refine ⟨fun h j h1 h2 => ?_, fun h j h1 h2 => h j (by omega) h2⟩
        by_cases e : j = i
        · subst e; exact hP
        · exact h j (by omega) h2
    · refine ⟨false, ?_, ⟨fun h => (by cases h), fun h => absurd (h i (Nat.le_refl _) (by omega)) hP⟩⟩
      refine Ev.step (fun k => by rw [spec_RangesOk.l0]) ?_
      refine ev_pos (by omega) (ev_pos (by omega) ?_)
      by_cases h1 : (rd_T26 l i).f0 > (rd_T26 l i).f1
      · exact ev_pos h1 (Ev.now _)
      · refine ev_neg h1 ?_
        obtain ⟨t, ht, hti⟩ := in_ev (rd_T26 l i).f2 0 99
        refine Ev.bind (ev_const ht) ?_
        by_cases h2 : t = true
        · refine ev_pos h2 ?_
          by_cases h0 : 0 < i
          · refine ev_pos (by omega) ?_
            rw [wpred h0 (by omega)]
            refine ev_pos (by omega) (ev_pos (by omega) ?_)
            by_cases h3 : (rd_T26 l (i - 1 : Nat)).f1 = 18446744073709551615
            · exact ev_pos h3 (Ev.now _)
            · refine ev_neg h3 (ev_neg ?_ (Ev.now _))
              have wp := wf_at hw (i - 1) (by omega)
              rw [u64w (by have := wp.2.1; omega) (by have := wp.2.2; omega)]
              exact fun h4 => hP ⟨by omega, hti.1 h2, fun _ => ⟨h3, h4⟩⟩
          · exact absurd ⟨by omega, hti.1 h2, fun h => absurd h h0⟩ hP
        · exact ev_neg h2 (Ev.now _)
theorem specRangesOk_ev (l : List S26) (hl : l.length ≤ 1048576) (hw : ∀ x ∈ l, wfR x) : ∃ b, Ev (fun k => spec_RangesOk.f k l) b ∧ (b = true ↔ RangesP l) := by
  have hj : ∀ (x : Bool), x = true → Ev (fun k => spec_RangesOk.j0 k l x) false := fun x hx => by
    refine Ev.step (fun k => by rw [spec_RangesOk.j0]) ?_
    exact ev_pos hx (Ev.now _)
  unfold spec_RangesOk.f
  obtain ⟨t, ht, hti⟩ := in_ev (l.length : Int) 1 24
  by_cases h1 : t = true
  · have h2 := hti.1 h1
    by_cases h3 : (rd_T26 l 0).f0 = 0
    · by_cases h4 : (rd_T26 l ((l.length - 1 : Nat) : Int)).f1 = 18446744073709551615
      · obtain ⟨b, hb, hi⟩ := specRangesOk_l l hl hw l.length 0 (by omega)
        refine ⟨b, ?_, ?_⟩
        · refine Ev.bind (ev_const ht) (ev_pos h1 (ev_pos (by omega) (ev_pos h3 ?_)))
          rw [wpred (by omega) (by omega)]
          refine ev_pos (by omega) (ev_pos (by omega) ?_)
          refine Ev.step (fun k => by rw [spec_RangesOk.j0]) ?_
          exact ev_neg (by rw [h4]; decide) hb
        · rw [hi]
          exact ⟨fun h => ⟨by omega, by omega, h3, h4, fun j => h j (Nat.zero_le _)⟩, fun h j _ => h.2.2.2.2 j⟩
      · refine ⟨false, ?_, ⟨fun h => (by cases h), fun h => absurd h.2.2.2.1 h4⟩⟩
        refine Ev.bind (ev_const ht) (ev_pos h1 (ev_pos (by omega) (ev_pos h3 ?_)))
        rw [wpred (by omega) (by omega)]
        refine ev_pos (by omega) (ev_pos (by omega) (hj _ (by simpa using h4)))
    · refine ⟨false, ?_, ⟨fun h => (by cases h), fun h => absurd h.2.2.1 h3⟩⟩
      exact Ev.bind (ev_const ht) (ev_pos h1 (ev_pos (by omega) (ev_neg h3 (hj _ rfl))))
  · refine ⟨false, ?_, ⟨fun h => (by cases h), fun h => absurd (hti.2 ⟨by have := h.1; omega, by have := h.2.1; omega⟩) h1⟩⟩
    exact Ev.bind (ev_const ht) (ev_neg h1 (hj _ rfl))

theorem group_ev (x : Int) : ∃ t, impl_isGroupId.f x = some t ∧ (t = true ↔ 0 ≤ x ∧ x ≤ 99) := by
  unfold impl_isGroupId.f
  by_cases h : x ≥ 0
  · rw [if_pos h]
    exact ⟨_, rfl, by simp; omega⟩
  · rw [if_neg h]
    exact ⟨_, rfl, by simp; omega⟩
theorem areRanges_l (l : List S26) (hl : l.length ≤ 1048576) (hw : ∀ x ∈ l, wfR x) (d : Nat) : ∀ (i : Nat), l.length = i + d → ∃ b, Ev (fun k => impl_areRanges.l0 k l l (l.length : Int) i) b ∧ (b = true ↔ ∀ j, i ≤ j → j < l.length → RP l j) := by
  induction d with
  | zero =>
    intro i hd
    refine ⟨true, ?_, ⟨fun _ j h1 h2 => by omega, fun _ => rfl⟩⟩
    refine Ev.step (fun k => by rw [impl_areRanges.l0]) ?_
    exact ev_neg (by omega) (Ev.now _)
  | succ d ih =>
    intro i hd
    have wi := wf_at hw i (by omega)
    by_cases hP : RP l i
    · obtain ⟨b, hb, hi⟩ := ih (i + 1) (by omega)
      refine ⟨b, ?_, ?_⟩
      · refine Ev.step (fun k => by rw [impl_areRanges.l0]) ?_
        refine ev_pos (by omega) (ev_pos (by omega) (ev_pos (by omega) (ev_neg (by have := hP.1; omega) ?_)))
        obtain ⟨t, ht, hti⟩ := group_ev (rd_T26 l i).f2
        refine Ev.bind (ev_const ht) (ev_pos (hti.2 hP.2.1) ?_)
        by_cases h0 : 0 < i
        · have wp := wf_at hw (i - 1) (by omega)
          have h5 := hP.2.2 h0
          refine ev_pos (by omega) (ev_neg (by have := wp.2.1; omega) ?_)
          rw [wpred h0 (by omega), wsucc (n := l.length) (by omega) (by omega)]
          refine ev_pos (by omega) (ev_pos (by omega) (ev_pos ?_ hb))
          rw [u64w (by have := wp.2.1; omega) (by have := wi.1.2; omega)]
          omega
        · refine ev_neg (by omega) ?_
          rw [wsucc (n := l.length) (by omega) (by omega)]
          exact hb
      · rw [hi]
        refine ⟨fun h j h1 h2 => ?_, fun h j h1 h2 => h j (by omega) h2⟩
        by_cases e : j = i
        · subst e; exact hP
        · exact h j (by omega) h2
    · refine ⟨false, ?_, ⟨fun h => (by cases h), fun h => absurd (h i (Nat.le_refl _) (by omega)) hP⟩⟩
      refine Ev.step (fun k => by rw [impl_areRanges.l0]) ?_
      refine ev_pos (by omega) (ev_pos (by omega) (ev_pos (by omega) ?_))
      by_cases h1 : (rd_T26 l i).f0 > (rd_T26 l i).f1
      · exact ev_pos h1 (Ev.now _)
      · refine ev_neg h1 ?_
        obtain ⟨t, ht, hti⟩ := group_ev (rd_T26 l i).f2
        refine Ev.bind (ev_const ht) ?_
        by_cases h2 : t = true
        · refine ev_pos h2 ?_
          by_cases h0 : 0 < i
          · refine ev_pos (by omega) ?_
            by_cases h3 : (rd_T26 l i).f0 = 0
            · exact ev_pos h3 (Ev.now _)
            · refine ev_neg h3 ?_
              have wp := wf_at hw (i - 1) (by omega)
              rw [wpred h0 (by omega)]
              refine ev_pos (by omega) (ev_pos (by omega) (ev_neg ?_ (Ev.now _)))
              rw [u64w (by have := wi.1.1; omega) (by have := wi.1.2; omega)]
              exact fun h4 => hP ⟨by omega, hti.1 h2, fun _ => ⟨by have := wi.1.2; omega, by omega⟩⟩
          · exact absurd ⟨by omega, hti.1 h2, fun h => absurd h h0⟩ hP
        · exact ev_neg h2 (Ev.now _)
theorem areRanges_ev (l : List S26) (hl : l.length ≤ 1048576) (hw : ∀ x ∈ l, wfR x) : ∃ b, Ev (fun k => impl_areRanges.f k l) b ∧ (b = true ↔ RangesP l) := by
  have hj : ∀ (x : Bool), x = true → Ev (fun k => impl_areRanges.j0 k l x) false := fun x hx => by
    refine Ev.step (fun k => by rw [impl_areRanges.j0]) ?_
    exact ev_pos hx (Ev.now _)
  unfold impl_areRanges.f
  by_cases h1 : (l.length : Int) < 1
  · exact ⟨false, ev_pos h1 (hj _ rfl), ⟨fun h => (by cases h), fun h => by have := h.1; omega⟩⟩
  by_cases h2 : (l.length : Int) > 24
  · exact ⟨false, ev_neg h1 (ev_pos h2 (hj _ rfl)), ⟨fun h => (by cases h), fun h => by have := h.2.1; omega⟩⟩
  by_cases h3 : (rd_T26 l 0).f0 = 0
  · by_cases h4 : (rd_T26 l ((l.length - 1 : Nat) : Int)).f1 = 18446744073709551615
    · obtain ⟨b, hb, hi⟩ := areRanges_l l hl hw l.length 0 (by omega)
      refine ⟨b, ?_, ?_⟩
      · refine ev_neg h1 (ev_neg h2 (ev_pos (by omega) (ev_pos h3 ?_)))
        rw [wpred (by omega) (by omega)]
        refine ev_pos (by omega) (ev_pos (by omega) ?_)
        refine Ev.step (fun k => by rw [impl_areRanges.j0]) ?_
        exact ev_neg (by rw [h4]; decide) hb
      · rw [hi]
        exact ⟨fun h => ⟨by omega, by omega, h3, h4, fun j => h j (Nat.zero_le _)⟩, fun h j _ => h.2.2.2.2 j⟩
    · refine ⟨false, ?_, ⟨fun h => (by cases h), fun h => absurd h.2.2.2.1 h4⟩⟩
      refine ev_neg h1 (ev_neg h2 (ev_pos (by omega) (ev_pos h3 ?_)))
      rw [wpred (by omega) (by omega)]
      refine ev_pos (by omega) (ev_pos (by omega) (hj _ (by simpa using h4)))
  · refine ⟨false, ?_, ⟨fun h => (by cases h), fun h => absurd h.2.2.1 h3⟩⟩
    exact ev_neg h1 (ev_neg h2 (ev_pos (by omega) (ev_neg h3 (hj _ rfl))))

theorem szRangeS_ev (l : List S24) (x : Int) (hm : l.length ≤ maxLen) (h0 : 0 ≤ x) (h1 : x ≤ 1048576) : (laws_szRangeS.f l x = some (-1) ∧ x < l.length) ∨ (laws_szRangeS.f l x = some (x - l.length) ∧ (l.length : Int) ≤ x) := by
  unfold maxLen at hm
  unfold laws_szRangeS.f
  rw [w64 (by omega) (by omega)]
  by_cases h : x - (l.length : Int) < 0
  · rw [if_pos h]; exact .inl ⟨rfl, by omega⟩
  · rw [if_neg h]; exact .inr ⟨rfl, by omega⟩

def findM (l : List S26) (id : Int) : Int := idxB (fun r => decide (id ≤ r.f1)) l
/-- Where an id lies in right ranges. -/
theorem find_at (l : List S26) (hP : RangesP l) (id : Int) (h0 : 0 ≤ id) (h1 : id ≤ 18446744073709551615) : ∃ i : Nat, i < l.length ∧ findM l id = (i : Int) ∧ (rd_T26 l i).f0 ≤ id ∧ id ≤ (rd_T26 l i).f1 ∧ ∀ j : Nat, j < i → (rd_T26 l j).f1 < id := by
  have hex : ∃ i : Nat, i < l.length ∧ id ≤ (rd_T26 l i).f1 := ⟨l.length - 1, by have := hP.1; omega, by rw [hP.2.2.2.1]; exact h1⟩
  have least : ∀ n : Nat, (∃ i : Nat, i < n ∧ i < l.length ∧ id ≤ (rd_T26 l i).f1) → ∃ i : Nat, i < l.length ∧ id ≤ (rd_T26 l i).f1 ∧ ∀ j : Nat, j < i → (rd_T26 l j).f1 < id := by
    intro n
    induction n with
    | zero => rintro ⟨i, hi, _⟩; omega
    | succ n ih =>
      rintro ⟨i, hi, hl, hq⟩
      by_cases h : ∃ i : Nat, i < n ∧ i < l.length ∧ id ≤ (rd_T26 l i).f1
      · exact ih h
      · refine ⟨i, hl, hq, fun j hj => ?_⟩
        by_cases hc : id ≤ (rd_T26 l j).f1
        · exact absurd ⟨j, by omega, by omega, hc⟩ h
        · omega
  obtain ⟨i0, hi0, hq0⟩ := hex
  obtain ⟨i, hi, hq, hb⟩ := least (i0 + 1) ⟨i0, by omega, hi0, hq0⟩
  refine ⟨i, hi, ?_, ?_, hq, hb⟩
  · unfold findM
    refine idxB_hit (fun r : S26 => decide (id ≤ r.f1)) l z26 i hi ?_ (fun j hj => ?_)
    · have : id ≤ (l.getD i z26).f1 := by have := hq; unfold rd_T26 at this; rwa [toNat_cast] at this
      simpa using this
    · have : (l.getD j z26).f1 < id := by have := hb j hj; unfold rd_T26 at this; rwa [toNat_cast] at this
      simp only [decide_eq_false_iff_not]; omega
  · by_cases h : 0 < i
    · have e := ((hP.2.2.2.2 i hi).2.2 h).2
      have := hb (i - 1) (by omega)
      omega
    · have e : i = 0 := by omega
      subst e
      have := hP.2.2.1
      exact Int.le_trans (Int.le_of_eq this) h0

theorem place_l (l : List S26) (hl : l.length ≤ 1048576) (lo : Int) (d : Nat) : ∀ i : Nat, l.length = i + d → ∃ r : Int, Ev (fun k => spec_l12Place.l0 k l lo i) r ∧ ((∃ j : Nat, i ≤ j ∧ j < l.length ∧ r = j ∧ (rd_T26 l j).f0 = lo) ∨ (r = -1 ∧ ∀ j : Nat, i ≤ j → j < l.length → (rd_T26 l j).f0 ≠ lo)) := by
  induction d with
  | zero =>
    intro i hd
    exact ⟨-1, Ev.step (fun k => by rw [spec_l12Place.l0]) (ev_neg (by omega) (Ev.now _)), .inr ⟨rfl, fun j h1 h2 => by omega⟩⟩
  | succ d ih =>
    intro i hd
    by_cases h : (rd_T26 l i).f0 = lo
    · exact ⟨i, Ev.step (fun k => by rw [spec_l12Place.l0]) (ev_pos (by omega) (ev_pos (by omega) (ev_pos h (Ev.now _)))), .inl ⟨i, Nat.le_refl _, by omega, rfl, h⟩⟩
    · obtain ⟨r, hr, hc⟩ := ih (i + 1) (by omega)
      refine ⟨r, Ev.step (fun k => by rw [spec_l12Place.l0]) (ev_pos (by omega) (ev_pos (by omega) (ev_neg h ?_))), ?_⟩
      · rw [wsucc (n := l.length) (by omega) (by omega)]; exact hr
      · rcases hc with ⟨j, h1, h2, h3, h4⟩ | ⟨h1, h2⟩
        · exact .inl ⟨j, by omega, h2, h3, h4⟩
        · refine .inr ⟨h1, fun j a b => ?_⟩
          by_cases e : j = i
          · subst e; exact h
          · exact h2 j (by omega) b
/-- In right ranges the one that begins with an id is the one that has it. -/
theorem place_find (l : List S26) (hP : RangesP l) (id : Int) (h0 : 0 ≤ id) (h1 : id ≤ 18446744073709551615) (i : Nat) (hi : findM l id = (i : Int)) (hl : i < l.length) (ha : (rd_T26 l i).f0 ≤ id) (hb : ∀ j : Nat, j < i → (rd_T26 l j).f1 < id) (j : Nat) (hj : j < l.length) (hq : (rd_T26 l j).f0 = id) : j = i := by
  have mono : ∀ d a : Nat, a + d < l.length → (rd_T26 l a).f0 ≤ (rd_T26 l (a + d : Nat)).f0 := by
    intro d
    induction d with
    | zero => intro a h; exact Int.le_refl _
    | succ d ih =>
      intro a h
      have e := (hP.2.2.2.2 (a + d + 1) (by omega)).2.2 (by omega)
      have f := (hP.2.2.2.2 (a + d) (by omega)).1
      have g := ih a (by omega)
      have e2 := e.2
      rw [show a + d + 1 - 1 = a + d by omega] at e2
      rw [show a + (d + 1) = a + d + 1 by omega]
      omega
  rcases Nat.lt_trichotomy j i with h | h | h
  · have := hb j h
    have := (hP.2.2.2.2 j hj).1
    omega
  · exact h
  · have e := ((hP.2.2.2.2 (i + 1) (by omega)).2.2 (by omega)).2
    rw [show i + 1 - 1 = i by omega] at e
    have m := mono (j - (i + 1)) (i + 1) (by omega)
    rw [show i + 1 + (j - (i + 1)) = j by omega] at m
    obtain ⟨i', hi', hm', ha', hb', hc'⟩ := find_at l hP id h0 h1
    have : i' = i := by omega
    subst this
    omega

theorem specChart_ev (e : Int) (l : List S26) (mv : Bool) (lo tg : Int) (hl : l.length ≤ 1048576) (hw : ∀ x ∈ l, wfR x) (h0 : 0 ≤ lo) (h1 : lo ≤ 18446744073709551615) :
    ∃ b, Ev (fun k => spec_ChartOk.f k e l mv lo tg) b ∧ Ev (fun k => impl_isChart.f k e l mv lo tg) b := by
  have sj : ∀ (x : Bool), x = true → Ev (fun k => spec_ChartOk.j0 k x e l mv lo tg) false := fun x hx => (by refine Ev.step (fun k => by rw [spec_ChartOk.j0]) ?_; exact ev_pos hx (Ev.now _))
  have ij : ∀ (x : Bool), x = true → Ev (fun k => impl_isChart.j0 k x e l mv lo tg) false := fun x hx => (by refine Ev.step (fun k => by rw [impl_isChart.j0]) ?_; exact ev_pos hx (Ev.now _))
  obtain ⟨t, ht, hti⟩ := in_ev e 1 1000000
  obtain ⟨b, hb, hbi⟩ := specRangesOk_ev l hl hw
  obtain ⟨b', hb', hbi'⟩ := areRanges_ev l hl hw
  obtain rfl : b' = b := Bool.eq_iff_iff.2 (hbi'.trans hbi.symm)
  unfold spec_ChartOk.f impl_isChart.f
  by_cases ht1 : t = true
  · have he := hti.1 ht1
    by_cases hb1 : b' = true
    · have hP := hbi.1 hb1
      have key : ∃ c, Ev (fun k => spec_ChartOk.j0 k (!b') e l mv lo tg) c ∧ Ev (fun k => impl_isChart.j0 k (!b') e l mv lo tg) c := by
        by_cases hm : mv = true
        · obtain ⟨i, hi, hf, ha, hh, hbb⟩ := find_at l hP lo h0 h1
          obtain ⟨r, hr, hc⟩ := place_l l hl lo l.length 0 (by omega)
          have hr' : Ev (fun k => spec_l12Place.f k l lo) r := hr
          obtain ⟨u, hu, hui⟩ := in_ev tg 0 99
          obtain ⟨v, hv, hvi⟩ := group_ev tg
          obtain rfl : v = u := Bool.eq_iff_iff.2 (hvi.trans hui.symm)
          have hfe : Ev (fun _ => impl_findRange.f l lo) (i : Int) := ev_const (by unfold impl_findRange.f; exact congrArg some hf)
          rcases hc with ⟨j, _, hj, hrj, hq⟩ | ⟨hrn, hno⟩
          · obtain rfl : j = i := place_find l hP lo h0 h1 i hf hi ha hbb j hj hq
            by_cases hv1 : v = true
            · refine ⟨((rd_T26 l j).f2 != tg), ?_, ?_⟩
              · refine Ev.step (fun k => by rw [spec_ChartOk.j0]) ?_
                refine ev_neg (by rw [hb1]; decide) (ev_pos hm (Ev.bind hr' (ev_pos (by omega) (Ev.bind (ev_const hu) (ev_pos hv1 (ev_pos (by omega) (ev_pos (by omega) ?_)))))))
                rw [hrj]
                exact Ev.now _
              · refine Ev.step (fun k => by rw [impl_isChart.j0]) ?_
                refine ev_neg (by rw [hb1]; decide) (ev_pos hm (Ev.bind hfe (ev_pos (by omega) (ev_pos (by omega) (ev_pos hq (Ev.bind (ev_const hv) (ev_pos hv1 ?_)))))))
                rw [show (tg != (rd_T26 l j).f2) = ((rd_T26 l j).f2 != tg) from bne_comm]
                exact Ev.now _
            · exact ⟨false, (by refine Ev.step (fun k => by rw [spec_ChartOk.j0]) ?_; exact ev_neg (by rw [hb1]; decide) (ev_pos hm (Ev.bind hr' (ev_pos (by omega) (Ev.bind (ev_const hu) (ev_neg hv1 (Ev.now _))))))),
                (by refine Ev.step (fun k => by rw [impl_isChart.j0]) ?_; exact ev_neg (by rw [hb1]; decide) (ev_pos hm (Ev.bind hfe (ev_pos (by omega) (ev_pos (by omega) (ev_pos hq (Ev.bind (ev_const hv) (ev_neg hv1 (Ev.now _)))))))))⟩
          · exact ⟨false, (by refine Ev.step (fun k => by rw [spec_ChartOk.j0]) ?_; exact ev_neg (by rw [hb1]; decide) (ev_pos hm (Ev.bind hr' (ev_neg (by omega) (Ev.now _))))),
              (by refine Ev.step (fun k => by rw [impl_isChart.j0]) ?_; exact ev_neg (by rw [hb1]; decide) (ev_pos hm (Ev.bind hfe (ev_pos (by omega) (ev_pos (by omega) (ev_neg (hno i (Nat.zero_le _) hi) (Ev.now _)))))))⟩
        · by_cases hlo : lo = 0
          · exact ⟨(tg == 0), (by refine Ev.step (fun k => by rw [spec_ChartOk.j0]) ?_; exact ev_neg (by rw [hb1]; decide) (ev_neg hm (ev_pos hlo (Ev.now _)))), (by refine Ev.step (fun k => by rw [impl_isChart.j0]) ?_; exact ev_neg (by rw [hb1]; decide) (ev_neg hm (ev_pos hlo (Ev.now _))))⟩
          · exact ⟨false, (by refine Ev.step (fun k => by rw [spec_ChartOk.j0]) ?_; exact ev_neg (by rw [hb1]; decide) (ev_neg hm (ev_neg hlo (Ev.now _)))), (by refine Ev.step (fun k => by rw [impl_isChart.j0]) ?_; exact ev_neg (by rw [hb1]; decide) (ev_neg hm (ev_neg hlo (Ev.now _))))⟩
      obtain ⟨c, hc1, hc2⟩ := key
      exact ⟨c, Ev.bind (ev_const ht) (ev_pos ht1 (Ev.bind hb hc1)), ev_neg (by omega) (ev_neg (by omega) (Ev.bind hb' hc2))⟩
    · exact ⟨false, Ev.bind (ev_const ht) (ev_pos ht1 (Ev.bind hb (sj _ (by simpa using hb1)))), ev_neg (by omega) (ev_neg (by omega) (Ev.bind hb' (ij _ (by simpa using hb1))))⟩
  · refine ⟨false, Ev.bind (ev_const ht) (ev_neg ht1 (sj _ rfl)), ?_⟩
    by_cases h2 : e < 1
    · exact ev_pos h2 (ij _ rfl)
    · refine ev_neg h2 (ev_pos ?_ (ij _ rfl))
      have : ¬ (1 ≤ e ∧ e ≤ 1000000) := fun h => ht1 (hti.2 h)
      omega
theorem FnExactChartOk : Stated := by
  rintro ⟨e, l, mv, lo, tg⟩ ⟨_, ⟨hm, hw⟩, _, hlo, _⟩
  have hlo := wf_u64 hlo
  refine Ev.rounds (?_ : Ev (fun k => laws_FnExactChartOk.f k e l mv lo tg) true)
  unfold laws_FnExactChartOk.f
  rcases szRangeS_ev l 1048576 hm (by omega) (by omega) with ⟨hs, hn⟩ | ⟨hs, hn⟩
  · exact Ev.bind (a := -1) (ev_const (by unfold laws_szChart.f; rw [hs, Option.bind_some, if_pos (by omega)])) (ev_pos (by omega) (Ev.now _))
  · refine Ev.bind (a := 1048576 - (l.length : Int)) (ev_const (by unfold laws_szChart.f; rw [hs, Option.bind_some, if_neg (by omega)])) (ev_neg (by omega) ?_)
    have hl : l.length ≤ 1048576 := by omega
    have ht : Ev (fun k => laws_toChart.f k e l mv lo tg) (e, l.map conv, mv, lo, tg) := by
      unfold laws_toChart.f
      exact Ev.bind (toRangeS_ev l hl) (Ev.now _)
    have hl' : (l.map conv).length ≤ 1048576 := by simpa using hl
    obtain ⟨b, hb, hb'⟩ := specChart_ev e (l.map conv) mv lo tg hl' (wf_conv hw) hlo.1 hlo.2
    refine Ev.bind ht (Ev.bind hb (Ev.bind ht (Ev.bind (a := b) (by unfold impl_ChartOk.f; exact Ev.bind hb' (Ev.now _)) (ev_neg (by simp) ?_))))
    refine Ev.bind ht (Ev.bind (a := true) ?_ (ev_pos rfl (Ev.now _)))
    unfold laws_eqChart.f
    exact ev_pos rfl (Ev.bind (eqRangeS_ev _ hl') (ev_pos rfl (ev_neg (by simp) (ev_pos rfl (ev_pos rfl (Ev.now _))))))

end Go.Proofs.Ytfabcjkaoidmeaa.Pure
