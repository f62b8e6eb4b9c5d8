/- The law FnExactSplitRange answers true at every input. No condition. -/
import Derived.Test.YtfabcjkaoidmeaaOpnFnExactSplitRange
import Derived.Test.YtfabcjkaoidmeaaBase
namespace Go.Proofs.Ytfabcjkaoidmeaa.Pure
open Go.RowKit Go.Proofs.Ytfabcjkaoidmeaa.QFnExactSplitRange Go.Proofs.Ytfabcjkaoidmeaa.OpnFnExactSplitRange Go.Proofs.Ytfabcjkaoidmeaa.Base Go.Proofs.YtfabcjkaoidmeaaW.PrintWords Go.Proofs.YtfabcjkaoidmeaaW.PrintLast
set_option linter.unusedVariables false

def wfR (x : S26) : Prop := (0 ≤ x.f0 ∧ x.f0 ≤ 18446744073709551615) ∧ (0 ≤ x.f1 ∧ x.f1 ≤ 18446744073709551615)
theorem wf_at {l : List S26} (h : ∀ x ∈ l, wfR x) (j : Nat) (hj : j < l.length) : wfR (rd_T26 l j) := by
  unfold rd_T26
  rw [toNat_cast]
  exact h _ (getD_mem l j z26 hj)

def conv (x : S24) : S26 := ⟨x.f0, x.f1, x.f2⟩
theorem wf_conv {l : List S24} (h : ∀ x ∈ l, wf24 x) : ∀ x ∈ l.map conv, wfR x := by
  intro x hx
  obtain ⟨y, hy, rfl⟩ := List.mem_map.1 hx
  obtain ⟨h0, h1, _⟩ := h y hy
  exact ⟨wf_u64 h0, wf_u64 h1⟩

theorem toRangeS_l (l : List S24) (hl : l.length ≤ 1048576) (d : Nat) : ∀ (i : Nat) (ys : List S26), l.length = i + d → ys.length = l.length → ys.take i = (l.map conv).take i →
    Ev (fun k => laws_toRangeS.l0 k l ys i) (l.map conv) := by
  induction d with
  | zero =>
    intro i ys hd hy ht
    refine Ev.step (fun k => by rw [laws_toRangeS.l0]) ?_
    refine ev_neg (by omega) ?_
    have : ys = l.map conv := by
      rw [List.take_of_length_le (by omega), List.take_of_length_le (by simp; omega)] at ht
      exact ht
    rw [this]
    exact Ev.now _
  | succ d ih =>
    intro i ys hd hy ht
    refine Ev.step (fun k => by rw [laws_toRangeS.l0]) ?_
    refine ev_pos (by omega) (ev_pos (by omega) ?_)
    refine Ev.bind (ev_const rfl) ?_
    refine ev_pos (by omega) ?_
    rw [wsucc (n := l.length) (by omega) (by omega), toNat_cast]
    refine ih (i + 1) _ (by omega) (by simpa using hy) ?_
    rw [take_set_succ _ _ _ (by omega), take_succ_getD (l.map conv) i z26 (by simp; omega), ht]
    congr 2
    unfold rd_T24
    rw [toNat_cast, getD_lt l i z24 (by omega), getD_lt (l.map conv) i z26 (by simp; omega), List.getElem_map]
    rfl
theorem toRangeS_ev (l : List S24) (hl : l.length ≤ 1048576) : Ev (fun k => laws_toRangeS.f k l) (l.map conv) := by
  unfold laws_toRangeS.f
  refine ev_pos (by omega) (ev_pos (by rw [toNat_cast]; omega) ?_)
  rw [toNat_cast]
  exact toRangeS_l l hl l.length 0 _ (by omega) (by simp) (by simp)

theorem eqRangeS_l (l : List S26) (hl : l.length ≤ 1048576) (d : Nat) : ∀ (i : Nat), l.length = i + d → Ev (fun k => laws_eqRangeS.l0 k l l i) true := by
  induction d with
  | zero =>
    intro i hd
    refine Ev.step (fun k => by rw [laws_eqRangeS.l0]) ?_
    exact ev_neg (by omega) (Ev.now _)
  | succ d ih =>
    intro i hd
    refine Ev.step (fun k => by rw [laws_eqRangeS.l0]) ?_
    refine ev_pos (by omega) (ev_pos (by omega) (ev_pos (by omega) ?_))
    refine Ev.bind (a := true) (ev_const (by unfold laws_eqRange.f; rw [if_pos rfl, if_pos rfl, if_pos rfl])) ?_
    refine ev_pos rfl ?_
    rw [wsucc (n := l.length) (by omega) (by omega)]
    exact ih (i + 1) (by omega)
theorem eqRangeS_ev (l : List S26) (hl : l.length ≤ 1048576) : Ev (fun k => laws_eqRangeS.f k l l) true := by
  unfold laws_eqRangeS.f
  refine ev_pos rfl ?_
  exact eqRangeS_l l hl l.length 0 (by omega)

/-- What is asked of range j. -/
def RP (l : List S26) (j : Nat) : Prop :=
  (rd_T26 l j).f0 ≤ (rd_T26 l j).f1 ∧ (0 ≤ (rd_T26 l j).f2 ∧ (rd_T26 l j).f2 ≤ 99) ∧ (0 < j → (rd_T26 l (j - 1 : Nat)).f1 ≠ 18446744073709551615 ∧ (rd_T26 l j).f0 = (rd_T26 l (j - 1 : Nat)).f1 + 1)
/-- Ranges are all ids. -/
def RangesP (l : List S26) : Prop :=
  1 ≤ l.length ∧ l.length ≤ 24 ∧ (rd_T26 l 0).f0 = 0 ∧ (rd_T26 l ((l.length - 1 : Nat) : Int)).f1 = 18446744073709551615 ∧ ∀ j, j < l.length → RP l j
theorem in_ev (x a b : Int) : ∃ t, spec_l01In.f x a b = some t ∧ (t = true ↔ a ≤ x ∧ x ≤ b) := by
  unfold spec_l01In.f
  by_cases h : a ≤ x
  · rw [if_pos h]
    exact ⟨_, rfl, by simp [h]⟩
  · rw [if_neg h]
    exact ⟨_, rfl, by simp [h]⟩

def findM (l : List S26) (id : Int) : Int := idxB (fun r => decide (id ≤ r.f1)) l
/-- Where an id lies in right ranges. -/
theorem find_at (l : List S26) (hP : RangesP l) (id : Int) (h0 : 0 ≤ id) (h1 : id ≤ 18446744073709551615) : ∃ i : Nat, i < l.length ∧ findM l id = (i : Int) ∧ (rd_T26 l i).f0 ≤ id ∧ id ≤ (rd_T26 l i).f1 ∧ ∀ j : Nat, j < i → (rd_T26 l j).f1 < id := by
  have hex : ∃ i : Nat, i < l.length ∧ id ≤ (rd_T26 l i).f1 := ⟨l.length - 1, by have := hP.1; omega, by rw [hP.2.2.2.1]; exact h1⟩
  have least : ∀ n : Nat, (∃ i : Nat, i < n ∧ i < l.length ∧ id ≤ (rd_T26 l i).f1) → ∃ i : Nat, i < l.length ∧ id ≤ (rd_T26 l i).f1 ∧ ∀ j : Nat, j < i → (rd_T26 l j).f1 < id := by
    intro n
    induction n with
    | zero => rintro ⟨i, hi, _⟩; omega
    | succ n ih =>
      rintro ⟨i, hi, hl, hq⟩
      by_cases h : ∃ i : Nat, i < n ∧ i < l.length ∧ id ≤ (rd_T26 l i).f1
      · exact ih h
      · refine ⟨i, hl, hq, fun j hj => ?_⟩
        by_cases hc : id ≤ (rd_T26 l j).f1
        · exact absurd ⟨j, by omega, by omega, hc⟩ h
        · omega
  obtain ⟨i0, hi0, hq0⟩ := hex
  obtain ⟨i, hi, hq, hb⟩ := least (i0 + 1) ⟨i0, by omega, hi0, hq0⟩
  refine ⟨i, hi, ?_, ?_, hq, hb⟩
  · unfold findM
    refine idxB_hit (fun r : S26 => decide (id ≤ r.f1)) l z26 i hi ?_ (fun j hj => ?_)
    · have : id ≤ (l.getD i z26).f1 := by have := hq; unfold rd_T26 at this; rwa [toNat_cast] at this
      simpa using this
    · have : (l.getD j z26).f1 < id := by have := hb j hj; unfold rd_T26 at this; rwa [toNat_cast] at this
      simp only [decide_eq_false_iff_not]; omega
  · by_cases h : 0 < i
    · have e := ((hP.2.2.2.2 i hi).2.2 h).2
      have := hb (i - 1) (by omega)
      omega
    · have e : i = 0 := by omega
      subst e
      have := hP.2.2.1
      exact Int.le_trans (Int.le_of_eq this) h0

theorem specRangesOk_l (l : List S26) (hl : l.length ≤ 1048576) (hw : ∀ x ∈ l, wfR x) (d : Nat) : ∀ (i : Nat), l.length = i + d → ∃ b, Ev (fun k => spec_RangesOk.l0 k l i) b ∧ (b = true ↔ ∀ j, i ≤ j → j < l.length → RP l j) := by
  induction d with
  | zero =>
    intro i hd
    refine ⟨true, ?_, ⟨fun _ j h1 h2 => by omega, fun _ => rfl⟩⟩
    refine Ev.step (fun k => by rw [spec_RangesOk.l0]) ?_
    exact ev_neg (by omega) (Ev.now _)
  | succ d ih =>
    intro i hd
    have wi := wf_at hw i (by omega)
    by_cases hP : RP l i
    · obtain ⟨b, hb, hi⟩ := ih (i + 1) (by omega)
      refine ⟨b, ?_, ?_⟩
      · refine Ev.step (fun k => by rw [spec_RangesOk.l0]) ?_
        refine ev_pos (by omega) (ev_pos (by omega) (ev_neg (by have := hP.1; omega) ?_))
        obtain ⟨t, ht, hti⟩ := in_ev (rd_T26 l i).f2 0 99
        refine Ev.bind (ev_const ht) (ev_pos (hti.2 hP.2.1) ?_)
        by_cases h0 : 0 < i
        · refine ev_pos (by omega) ?_
          rw [wpred h0 (by omega), wsucc (n := l.length) (by omega) (by omega)]
          refine ev_pos (by omega) (ev_pos (by omega) (ev_neg (hP.2.2 h0).1 (ev_pos ?_ hb)))
          have wp := wf_at hw (i - 1) (by omega)
          rw [u64w (by have := wp.2.1; omega) (by have := wp.2.2; have := (hP.2.2 h0).1; omega)]
          exact (hP.2.2 h0).2
        · refine ev_neg (by omega) ?_
          rw [wsucc (n := l.length) (by omega) (by omega)]
          exact hb
      · rw [hi]
        refine ⟨fun h j h1 h2 => ?_, fun h j h1 h2 => h j (by omega) h2⟩
        by_cases e : j = i
        · subst e; exact hP
        · exact h j (by omega) h2
    · refine ⟨false, ?_, ⟨fun h => (by cases h), fun h => absurd (h i (Nat.le_refl _) (by omega)) hP⟩⟩
      refine Ev.step (fun k => by rw [spec_RangesOk.l0]) ?_
      refine ev_pos (by omega) (ev_pos (by omega) ?_)
      by_cases h1 : (rd_T26 l i).f0 > (rd_T26 l i).f1
      · exact ev_pos h1 (Ev.now _)
      · refine ev_neg h1 ?_
        obtain ⟨t, ht, hti⟩ := in_ev (rd_T26 l i).f2 0 99
        refine Ev.bind (ev_const ht) ?_
        by_cases h2 : t = true
        · refine ev_pos h2 ?_
          by_cases h0 : 0 < i
          · refine ev_pos (by omega) ?_
            rw [wpred h0 (by omega)]
            refine ev_pos (by omega) (ev_pos (by omega) ?_)
            by_cases h3 : (rd_T26 l (i - 1 : Nat)).f1 = 18446744073709551615
            · exact ev_pos h3 (Ev.now _)
            · refine ev_neg h3 (ev_neg ?_ (Ev.now _))
              have wp := wf_at hw (i - 1) (by omega)
              rw [u64w (by have := wp.2.1; omega) (by have := wp.2.2; omega)]
              exact fun h4 => hP ⟨by omega, hti.1 h2, fun _ => ⟨h3, h4⟩⟩
          · exact absurd ⟨by omega, hti.1 h2, fun h => absurd h h0⟩ hP
        · exact ev_neg h2 (Ev.now _)
theorem specRangesOk_ev (l : List S26) (hl : l.length ≤ 1048576) (hw : ∀ x ∈ l, wfR x) : ∃ b, Ev (fun k => spec_RangesOk.f k l) b ∧ (b = true ↔ RangesP l) := by
  have hj : ∀ (x : Bool), x = true → Ev (fun k => spec_RangesOk.j0 k l x) false := fun x hx => by
    refine Ev.step (fun k => by rw [spec_RangesOk.j0]) ?_
    exact ev_pos hx (Ev.now _)
  unfold spec_RangesOk.f
  obtain ⟨t, ht, hti⟩ := in_ev (l.length : Int) 1 24
  by_cases h1 : t = true
  · have h2 := hti.1 h1
    by_cases h3 : (rd_T26 l 0).f0 = 0
    · by_cases h4 : (rd_T26 l ((l.length - 1 : Nat) : Int)).f1 = 18446744073709551615
      · obtain ⟨b, hb, hi⟩ := specRangesOk_l l hl hw l.length 0 (by omega)
        refine ⟨b, ?_, ?_⟩
        · refine Ev.bind (ev_const ht) (ev_pos h1 (ev_pos (by omega) (ev_pos h3 ?_)))
          rw [wpred (by omega) (by omega)]
          refine ev_pos (by omega) (ev_pos (by omega) ?_)
          refine Ev.step (fun k => by rw [spec_RangesOk.j0]) ?_
          exact ev_neg (by rw [h4]; decide) hb
        · rw [hi]
          exact ⟨fun h => ⟨by omega, by omega, h3, h4, fun j => h j (Nat.zero_le _)⟩, fun h j _ => h.2.2.2.2 j⟩
      · refine ⟨false, ?_, ⟨fun h => (by cases h), fun h => absurd h.2.2.2.1 h4⟩⟩
        refine Ev.bind (ev_const ht) (ev_pos h1 (ev_pos (by omega) (ev_pos h3 ?_)))
        rw [wpred (by omega) (by omega)]
        refine ev_pos (by omega) (ev_pos (by omega) (hj _ (by simpa using h4)))
    · refine ⟨false, ?_, ⟨fun h => (by cases h), fun h => absurd h.2.2.1 h3⟩⟩
      exact Ev.bind (ev_const ht) (ev_pos h1 (ev_pos (by omega) (ev_neg h3 (hj _ rfl))))
  · refine ⟨false, ?_, ⟨fun h => (by cases h), fun h => absurd (hti.2 ⟨by have := h.1; omega, by have := h.2.1; omega⟩) h1⟩⟩
    exact Ev.bind (ev_const ht) (ev_neg h1 (hj _ rfl))

theorem covers_ev (x0 x1 x2 id : Int) : ∃ t, spec_Covers.f x0 x1 x2 id = some t ∧ (t = true ↔ x0 ≤ id ∧ id ≤ x1) := by
  unfold spec_Covers.f
  by_cases h : x0 ≤ id
  · rw [if_pos h]; exact ⟨_, rfl, by simp [h]⟩
  · rw [if_neg h]; exact ⟨_, rfl, by simp [h]⟩
theorem specFind_l (l : List S26) (hl : l.length ≤ 1048576) (hw : ∀ x ∈ l, wfR x) (hP : RangesP l) (id : Int) (f : Nat) (hf : f < l.length) (h0 : (rd_T26 l f).f0 ≤ id) (h1 : id ≤ (rd_T26 l f).f1) (hb : ∀ j : Nat, j < f → (rd_T26 l j).f1 < id) (d : Nat) :
    ∀ i : Nat, f = i + d → Ev (fun k => spec_FindRange.l0 k l id i) (f : Int) := by
  obtain ⟨b, hbe, hbi⟩ := specRangesOk_ev l hl hw
  have hbt := hbi.2 hP
  induction d with
  | zero =>
    intro i hd
    obtain rfl : f = i := by omega
    refine Ev.step (fun k => by rw [spec_FindRange.l0]) (ev_pos (by omega) (Ev.bind hbe ?_))
    refine Ev.step (fun k => by rw [spec_FindRange.j1]) (ev_pos hbt (ev_pos (by omega) (ev_pos (by omega) ?_)))
    obtain ⟨t, ht, hti⟩ := covers_ev (rd_T26 l f).f0 (rd_T26 l f).f1 (rd_T26 l f).f2 id
    exact Ev.bind (ev_const ht) (ev_pos (hti.2 ⟨h0, h1⟩) (Ev.now _))
  | succ d ih =>
    intro i hd
    refine Ev.step (fun k => by rw [spec_FindRange.l0]) (ev_pos (by omega) (Ev.bind hbe ?_))
    refine Ev.step (fun k => by rw [spec_FindRange.j1]) (ev_pos hbt (ev_pos (by omega) (ev_pos (by omega) ?_)))
    obtain ⟨t, ht, hti⟩ := covers_ev (rd_T26 l i).f0 (rd_T26 l i).f1 (rd_T26 l i).f2 id
    refine Ev.bind (ev_const ht) (ev_neg (fun h => ?_) ?_)
    · have := (hti.1 h).2
      have := hb i (by omega)
      omega
    · rw [wsucc (n := l.length) (by omega) (by omega)]
      exact ih (i + 1) (by omega)
theorem specFind_ev (l : List S26) (hl : l.length ≤ 1048576) (hw : ∀ x ∈ l, wfR x) (id : Int) (h0 : 0 ≤ id) (h1 : id ≤ 18446744073709551615) : ∃ r, Ev (fun k => spec_FindRange.f k l id) r ∧ (RangesP l → r = findM l id) ∧ (¬ RangesP l → r = -1) := by
  by_cases hP : RangesP l
  · obtain ⟨i, hi, hm, h2, h3, h4⟩ := find_at l hP id h0 h1
    exact ⟨_, specFind_l l hl hw hP id i hi h2 h3 h4 i 0 (by omega), fun _ => hm.symm, fun h => absurd hP h⟩
  · refine ⟨-1, ?_, fun h => absurd h hP, fun _ => rfl⟩
    have hj : Ev (fun k => spec_FindRange.j1 k l id 0 false) (-1) := Ev.step (fun k => by rw [spec_FindRange.j1]) (ev_neg (by decide) (Ev.now _))
    unfold spec_FindRange.f
    refine Ev.step (fun k => by rw [spec_FindRange.l0]) ?_
    by_cases h : (0 : Int) < l.length
    · obtain ⟨b, hbe, hbi⟩ := specRangesOk_ev l hl hw
      have e : b = false := by
        cases b with
        | true => exact absurd (hbi.1 rfl) hP
        | false => rfl
      subst e
      exact ev_pos h (Ev.bind hbe hj)
    · exact ev_neg h hj

theorem group_ev (x : Int) : ∃ t, impl_isGroupId.f x = some t ∧ (t = true ↔ 0 ≤ x ∧ x ≤ 99) := by
  unfold impl_isGroupId.f
  by_cases h : x ≥ 0
  · rw [if_pos h]
    exact ⟨_, rfl, by simp; omega⟩
  · rw [if_neg h]
    exact ⟨_, rfl, by simp; omega⟩
theorem areRanges_l (l : List S26) (hl : l.length ≤ 1048576) (hw : ∀ x ∈ l, wfR x) (d : Nat) : ∀ (i : Nat), l.length = i + d → ∃ b, Ev (fun k => impl_areRanges.l0 k l l (l.length : Int) i) b ∧ (b = true ↔ ∀ j, i ≤ j → j < l.length → RP l j) := by
  induction d with
  | zero =>
    intro i hd
    refine ⟨true, ?_, ⟨fun _ j h1 h2 => by omega, fun _ => rfl⟩⟩
    refine Ev.step (fun k => by rw [impl_areRanges.l0]) ?_
    exact ev_neg (by omega) (Ev.now _)
  | succ d ih =>
    intro i hd
    have wi := wf_at hw i (by omega)
    by_cases hP : RP l i
    · obtain ⟨b, hb, hi⟩ := ih (i + 1) (by omega)
      refine ⟨b, ?_, ?_⟩
      · refine Ev.step (fun k => by rw [impl_areRanges.l0]) ?_
        refine ev_pos (by omega) (ev_pos (by omega) (ev_pos (by omega) (ev_neg (by have := hP.1; omega) ?_)))
        obtain ⟨t, ht, hti⟩ := group_ev (rd_T26 l i).f2
        refine Ev.bind (ev_const ht) (ev_pos (hti.2 hP.2.1) ?_)
        by_cases h0 : 0 < i
        · have wp := wf_at hw (i - 1) (by omega)
          have h5 := hP.2.2 h0
          refine ev_pos (by omega) (ev_neg (by have := wp.2.1; omega) ?_)
          rw [wpred h0 (by omega), wsucc (n := l.length) (by omega) (by omega)]
          refine ev_pos (by omega) (ev_pos (by omega) (ev_pos ?_ hb))
          rw [u64w (by have := wp.2.1; omega) (by have := wi.1.2; omega)]
          omega
        · refine ev_neg (by omega) ?_
          rw [wsucc (n := l.length) (by omega) (by omega)]
          exact hb
      · rw [hi]
        refine ⟨fun h j h1 h2 => ?_, fun h j h1 h2 => h j (by omega) h2⟩
        by_cases e : j = i
        · subst e; exact hP
        · exact h j (by omega) h2
    · refine ⟨false, ?_, ⟨fun h => (by cases h), fun h => absurd (h i (Nat.le_refl _) (by omega)) hP⟩⟩
      refine Ev.step (fun k => by rw [impl_areRanges.l0]) ?_
      refine ev_pos (by omega) (ev_pos (by omega) (ev_pos (by omega) ?_))
      by_cases h1 : (rd_T26 l i).f0 > (rd_T26 l i).f1
      · exact ev_pos h1 (Ev.now _)
      · refine ev_neg h1 ?_
        obtain ⟨t, ht, hti⟩ := group_ev (rd_T26 l i).f2
        refine Ev.bind (ev_const ht) ?_
        by_cases h2 : t = true
        · refine ev_pos h2 ?_
          by_cases h0 : 0 < i
          · refine ev_pos (by omega) ?_
            by_cases h3 : (rd_T26 l i).f0 = 0
            · exact ev_pos h3 (Ev.now _)
            · refine ev_neg h3 ?_
              have wp := wf_at hw (i - 1) (by omega)
              rw [wpred h0 (by omega)]
              refine ev_pos (by omega) (ev_pos (by omega) (ev_neg ?_ (Ev.now _)))
              rw [u64w (by have := wi.1.1; omega) (by have := wi.1.2; omega)]
              exact fun h4 => hP ⟨by omega, hti.1 h2, fun _ => ⟨by have := wi.1.2; omega, by omega⟩⟩
          · exact absurd ⟨by omega, hti.1 h2, fun h => absurd h h0⟩ hP
        · exact ev_neg h2 (Ev.now _)
theorem areRanges_ev (l : List S26) (hl : l.length ≤ 1048576) (hw : ∀ x ∈ l, wfR x) : ∃ b, Ev (fun k => impl_areRanges.f k l) b ∧ (b = true ↔ RangesP l) := by
  have hj : ∀ (x : Bool), x = true → Ev (fun k => impl_areRanges.j0 k l x) false := fun x hx => by
    refine Ev.step (fun k => by rw [impl_areRanges.j0]) ?_
    exact ev_pos hx (Ev.now _)
  unfold impl_areRanges.f
  by_cases h1 : (l.length : Int) < 1
  · exact ⟨false, ev_pos h1 (hj _ rfl), ⟨fun h => (by cases h), fun h => by have := h.1; omega⟩⟩
  by_cases h2 : (l.length : Int) > 24
  · exact ⟨false, ev_neg h1 (ev_pos h2 (hj _ rfl)), ⟨fun h => (by cases h), fun h => by have := h.2.1; omega⟩⟩
  by_cases h3 : (rd_T26 l 0).f0 = 0
  · by_cases h4 : (rd_T26 l ((l.length - 1 : Nat) : Int)).f1 = 18446744073709551615
    · obtain ⟨b, hb, hi⟩ := areRanges_l l hl hw l.length 0 (by omega)
      refine ⟨b, ?_, ?_⟩
      · refine ev_neg h1 (ev_neg h2 (ev_pos (by omega) (ev_pos h3 ?_)))
        rw [wpred (by omega) (by omega)]
        refine ev_pos (by omega) (ev_pos (by omega) ?_)
        refine Ev.step (fun k => by rw [impl_areRanges.j0]) ?_
        exact ev_neg (by rw [h4]; decide) hb
      · rw [hi]
        exact ⟨fun h => ⟨by omega, by omega, h3, h4, fun j => h j (Nat.zero_le _)⟩, fun h j _ => h.2.2.2.2 j⟩
    · refine ⟨false, ?_, ⟨fun h => (by cases h), fun h => absurd h.2.2.2.1 h4⟩⟩
      refine ev_neg h1 (ev_neg h2 (ev_pos (by omega) (ev_pos h3 ?_)))
      rw [wpred (by omega) (by omega)]
      refine ev_pos (by omega) (ev_pos (by omega) (hj _ (by simpa using h4)))
  · refine ⟨false, ?_, ⟨fun h => (by cases h), fun h => absurd h.2.2.1 h3⟩⟩
    exact ev_neg h1 (ev_neg h2 (ev_pos (by omega) (ev_neg h3 (hj _ rfl))))

def splitM (l : List S26) (p : Nat) (at_ g : Int) : List S26 := l.take p ++ [⟨(rd_T26 l p).f0, IntKind.u64.wrap (at_ - 1), (rd_T26 l p).f2⟩, ⟨at_, (rd_T26 l p).f1, g⟩] ++ l.drop (p + 1)
theorem splitM_len (l : List S26) (p : Nat) (at_ g : Int) (h : p < l.length) : (splitM l p at_ g).length = l.length + 1 := by
  simp [splitM]; omega
theorem drop_rd (l : List S26) (i : Nat) (h : i < l.length) : l.drop i = ⟨(rd_T26 l i).f0, (rd_T26 l i).f1, (rd_T26 l i).f2⟩ :: l.drop (i + 1) := by
  unfold rd_T26
  rw [toNat_cast, getD_lt l i z26 h]
  exact List.drop_eq_getElem_cons h
theorem specSplit_2 (l : List S26) (hl : l.length ≤ 1048576) (at_ g : Int) (p : Nat) (d : Nat) : ∀ (i : Nat) (acc : List S26), p < i → l.length = i + d → acc.length ≤ i + 1 → Ev (fun k => spec_SplitRange.l0 k l at_ g (p : Int) acc i) (acc ++ l.drop i, true) := by
  induction d with
  | zero =>
    intro i acc hi hd ha
    refine Ev.step (fun k => by rw [spec_SplitRange.l0]) ?_
    refine ev_neg (by omega) ?_
    rw [List.drop_of_length_le (by omega), List.append_nil]
    exact Ev.now _
  | succ d ih =>
    intro i acc hi hd ha
    refine Ev.step (fun k => by rw [spec_SplitRange.l0]) ?_
    refine ev_pos (by omega) (ev_neg (by omega) (ev_pos (by omega) (ev_pos (by omega) ?_)))
    rw [wsucc (n := l.length) (by omega) (by omega)]
    have := ih (i + 1) (acc ++ [⟨(rd_T26 l i).f0, (rd_T26 l i).f1, (rd_T26 l i).f2⟩]) (by omega) (by omega) (by simp; omega)
    rw [List.append_assoc, List.singleton_append, ← drop_rd l i (by omega)] at this
    exact this
theorem specSplit_1 (l : List S26) (hl : l.length ≤ 1048576) (at_ g : Int) (p : Nat) (hp : p < l.length) (d : Nat) : ∀ (i : Nat), i + d = p → Ev (fun k => spec_SplitRange.l0 k l at_ g (p : Int) (l.take i) i) (splitM l p at_ g, true) := by
  induction d with
  | zero =>
    intro i hd
    obtain rfl : i = p := by omega
    refine Ev.step (fun k => by rw [spec_SplitRange.l0]) ?_
    have h1 := List.length_take_le i l
    refine ev_pos (by omega) (ev_pos rfl (ev_pos (by omega) (ev_pos (by omega) (Ev.bind (Ev.now _) (ev_pos (by simp; omega) ?_)))))
    rw [wsucc (n := l.length) (by omega) (by omega)]
    have := specSplit_2 l hl at_ g i (l.length - (i + 1)) (i + 1) (l.take i ++ [⟨(rd_T26 l i).f0, IntKind.u64.wrap (at_ - 1), (rd_T26 l i).f2⟩] ++ [⟨at_, (rd_T26 l i).f1, g⟩]) (by omega) (by omega) (by simp; omega)
    rw [List.append_assoc, List.append_assoc, List.append_assoc] at this
    unfold splitM
    rw [List.append_assoc, List.append_assoc]
    exact this
  | succ d ih =>
    intro i hd
    refine Ev.step (fun k => by rw [spec_SplitRange.l0]) ?_
    have h1 := List.length_take_le i l
    refine ev_pos (by omega) (ev_neg (by omega) (ev_pos (by omega) (ev_pos (by omega) ?_)))
    rw [wsucc (n := l.length) (by omega) (by omega)]
    have := ih (i + 1) (by omega)
    rw [take_succ_getD l i z26 (by omega)] at this
    unfold rd_T26
    rw [toNat_cast]
    exact this
def SplitC (l : List S26) (at_ g : Int) : Prop := RangesP l ∧ (rd_T26 l (findM l at_)).f0 ≠ at_ ∧ (0 ≤ g ∧ g ≤ 99) ∧ l.length ≠ 24
theorem specSplit_ev (l : List S26) (hl : l.length ≤ 1048576) (hw : ∀ x ∈ l, wfR x) (at_ g : Int) (h0 : 0 ≤ at_) (h1 : at_ ≤ 18446744073709551615) : ∃ r, Ev (fun k => spec_SplitRange.f k l at_ g) r ∧ (SplitC l at_ g → r = (splitM l (findM l at_).toNat at_ g, true)) ∧ (¬ SplitC l at_ g → r = ([], false)) := by
  have hj : ∀ (x : Bool) (t : Int), x = true → Ev (fun k => spec_SplitRange.j0 k l at_ g t x) ([], false) := fun x t hx => by
    refine Ev.step (fun k => by rw [spec_SplitRange.j0]) ?_
    exact ev_pos hx (Ev.now _)
  obtain ⟨t, ht, t1, t2⟩ := specFind_ev l hl hw at_ h0 h1
  unfold spec_SplitRange.f
  by_cases hP : RangesP l
  · obtain ⟨i, hi, he, _⟩ := find_at l hP at_ h0 h1
    obtain rfl := t1 hP
    by_cases h2 : (rd_T26 l (findM l at_)).f0 = at_
    · refine ⟨_, Ev.bind ht (ev_neg (by omega) (ev_pos (by omega) (ev_pos (by omega) (ev_pos h2 (hj _ _ rfl))))), fun hc => absurd h2 hc.2.1, fun _ => rfl⟩
    · obtain ⟨b, hb, hbi⟩ := in_ev g 0 99
      by_cases h3 : b = true
      · by_cases h4 : l.length = 24
        · refine ⟨_, Ev.bind ht (ev_neg (by omega) (ev_pos (by omega) (ev_pos (by omega) (ev_neg h2 (Ev.bind (ev_const hb) (ev_pos h3 (hj _ _ (by simp; omega)))))))), fun hc => absurd h4 hc.2.2.2, fun _ => rfl⟩
        · refine ⟨_, Ev.bind ht (ev_neg (by omega) (ev_pos (by omega) (ev_pos (by omega) (ev_neg h2 (Ev.bind (ev_const hb) (ev_pos h3 ?_)))))), fun _ => rfl, fun hn => absurd ⟨hP, h2, hbi.1 h3, h4⟩ hn⟩
          refine Ev.step (fun k => by rw [spec_SplitRange.j0]) ?_
          refine ev_neg (by simp; omega) ?_
          have := specSplit_1 l hl at_ g i hi i 0 (by omega)
          rw [he, toNat_cast]
          exact this
      · refine ⟨_, Ev.bind ht (ev_neg (by omega) (ev_pos (by omega) (ev_pos (by omega) (ev_neg h2 (Ev.bind (ev_const hb) (ev_neg h3 (hj _ _ rfl))))))), fun hc => absurd (hbi.2 hc.2.2.1) h3, fun _ => rfl⟩
  · obtain rfl := t2 hP
    exact ⟨_, Ev.bind ht (ev_pos (by omega) (hj _ _ rfl)), fun hc => absurd hc.1 hP, fun _ => rfl⟩
theorem implSplit_ev (l : List S26) (hl : l.length ≤ 1048576) (hw : ∀ x ∈ l, wfR x) (at_ g : Int) (h0 : 0 ≤ at_) (h1 : at_ ≤ 18446744073709551615) : ∃ r, Ev (fun k => impl_SplitRange.f k l at_ g) r ∧ (SplitC l at_ g → r = (splitM l (findM l at_).toNat at_ g, true)) ∧ (¬ SplitC l at_ g → r = ([], false)) := by
  have hj : ∀ (x : Bool), x = true → Ev (fun k => impl_splitRange.j0 k l at_ g x) ([], false) := fun x hx => by
    refine Ev.step (fun k => by rw [impl_splitRange.j0]) ?_
    exact ev_pos hx (Ev.now _)
  obtain ⟨b, hb, hi⟩ := areRanges_ev l hl hw
  have key : ∃ r, Ev (fun k => impl_splitRange.f k l at_ g) r ∧ (SplitC l at_ g → r = (splitM l (findM l at_).toNat at_ g, true)) ∧ (¬ SplitC l at_ g → r = ([], false)) := by
    unfold impl_splitRange.f
    by_cases h : b = true
    · have hP := hi.1 h
      obtain ⟨t, ht, hti⟩ := group_ev g
      by_cases h2 : t = true
      · by_cases h3 : l.length = 24
        · exact ⟨_, Ev.bind hb (ev_pos h (Ev.bind (ev_const ht) (ev_pos h2 (hj _ (by simp; omega))))), fun hc => absurd h3 hc.2.2.2, fun _ => rfl⟩
        · obtain ⟨i, hil, he, _⟩ := find_at l hP at_ h0 h1
          have hf : impl_findRange.f l at_ = some (i : Int) := by rw [← he]; rfl
          have hlen := hP.2.1
          by_cases h4 : (rd_T26 l (i : Int)).f0 = at_
          · refine ⟨_, Ev.bind hb (ev_pos h (Ev.bind (ev_const ht) (ev_pos h2 ?_))), fun hc => absurd (by rw [he]; exact h4) hc.2.1, fun _ => rfl⟩
            refine Ev.step (fun k => by rw [impl_splitRange.j0]) ?_
            exact ev_neg (by simp; omega) (Ev.bind (ev_const hf) (ev_pos (by omega) (ev_pos (by omega) (ev_pos h4 (Ev.now _)))))
          · refine ⟨_, Ev.bind hb (ev_pos h (Ev.bind (ev_const ht) (ev_pos h2 ?_))), fun _ => rfl, fun hn => absurd ⟨hP, by rw [he]; exact h4, hti.1 h2, h3⟩ hn⟩
            refine Ev.step (fun k => by rw [impl_splitRange.j0]) ?_
            refine ev_neg (by simp; omega) (Ev.bind (ev_const hf) (ev_pos (by omega) (ev_pos (by omega) (ev_neg h4 (Ev.bind (Ev.now _) (ev_pos (by simp; omega) (Ev.bind (Ev.now _) (ev_pos (by simp; omega) (Ev.bind (a := splitM l i at_ g) (ev_const ?_) ?_)))))))))
            · unfold impl_Range.f
              rw [wsucc (n := l.length) (by omega) (by omega), toNat_cast, toNat_cast, List.nil_append, if_pos ⟨by omega, by rw [List.length_set]; omega, rfl, by rw [List.length_set]; omega⟩]
              congr 1
              rw [take_set_succ _ _ _ hil, List.drop_set_of_lt (by omega)]
              unfold splitM
              simp
            · rw [he, toNat_cast]
              exact Ev.now _
      · exact ⟨_, Ev.bind hb (ev_pos h (Ev.bind (ev_const ht) (ev_neg h2 (hj _ rfl)))), fun hc => absurd (hti.2 hc.2.2.1) h2, fun _ => rfl⟩
    · exact ⟨_, Ev.bind hb (ev_neg h (hj _ rfl)), fun hc => absurd (hi.2 hc.1) h, fun _ => rfl⟩
  obtain ⟨r, hr, r1, r2⟩ := key
  refine ⟨r, ?_, r1, r2⟩
  unfold impl_SplitRange.f
  exact Ev.bind hr (Ev.now _)

theorem szRangeS_ev (l : List S24) (x : Int) (hm : l.length ≤ maxLen) (h0 : 0 ≤ x) (h1 : x ≤ 1048576) : (laws_szRangeS.f l x = some (-1) ∧ x < l.length) ∨ (laws_szRangeS.f l x = some (x - l.length) ∧ (l.length : Int) ≤ x) := by
  unfold maxLen at hm
  unfold laws_szRangeS.f
  rw [w64 (by omega) (by omega)]
  by_cases h : x - (l.length : Int) < 0
  · rw [if_pos h]; exact .inl ⟨rfl, by omega⟩
  · rw [if_neg h]; exact .inr ⟨rfl, by omega⟩

theorem rd_set_self (xs : List S26) (i : Nat) (v : S26) (h : i < xs.length) : rd_T26 (xs.set i v) (i : Int) = v := by
  unfold rd_T26
  rw [toNat_cast, getD_lt _ _ _ (by simpa using h), List.getElem_set_self]
theorem mark_l (d : Nat) : ∀ (i : Nat) (xs : List S26) (c : Int), xs.length = i + d → xs.length ≤ 1048576 → 0 ≤ c → c ≤ 1 + 3 * (i : Int) →
    ∃ m ys, Ev (fun k => laws_markRangeS.l0 k xs c i) (m, ys) ∧ ys.length = xs.length ∧ 0 ≤ m ∧ (∀ j, j < i → ys[j]? = xs[j]?) ∧ Ev (fun k => laws_heldRangeS.l0 k ys c i) m := by
  induction d with
  | zero =>
    intro i xs c hd hl h0 h1
    refine ⟨c, xs, ?_, rfl, h0, fun _ _ => rfl, ?_⟩
    · refine Ev.step (fun k => by rw [laws_markRangeS.l0]) ?_
      exact ev_neg (by omega) (Ev.now _)
    · refine Ev.step (fun k => by rw [laws_heldRangeS.l0]) ?_
      exact ev_neg (by omega) (Ev.now _)
  | succ d ih =>
    intro i xs c hd hl h0 h1
    obtain ⟨m, ys, hm, hy, hm0, hk, hh⟩ := ih (i + 1) (xs.set i ⟨IntKind.u64.wrap c, IntKind.u64.wrap (wrap64 (c + 1)), wrap64 (wrap64 (c + 1) + 1)⟩) (c + 3) (by simp; omega) (by simpa using hl) (by omega) (by omega)
    have e1 : wrap64 (wrap64 (wrap64 (c + 1) + 1) + 1) = c + 3 := by unfold wrap64; omega
    refine ⟨m, ys, ?_, by simpa using hy, hm0, fun j hj => ?_, ?_⟩
    · refine Ev.step (fun k => by rw [laws_markRangeS.l0]) ?_
      refine ev_pos (by omega) (ev_pos (by omega) ?_)
      refine Ev.bind (Ev.now _) (Ev.bind (Ev.now _) ?_)
      rw [toNat_cast, rd_set_self _ _ _ (by omega), List.set_set, rd_set_self _ _ _ (by simpa using (show i < xs.length by omega)), List.set_set, e1, wsucc (n := xs.length) (by omega) (by omega)]
      exact hm
    · rw [hk j (by omega), List.getElem?_set_ne (by omega)]
    · have hi : rd_T26 ys (i : Int) = ⟨IntKind.u64.wrap c, IntKind.u64.wrap (wrap64 (c + 1)), wrap64 (wrap64 (c + 1) + 1)⟩ := by
        unfold rd_T26
        rw [toNat_cast, List.getD_eq_getElem?_getD, hk i (by omega), List.getElem?_set_self (by omega)]
        rfl
      have hyl : ys.length = xs.length := by simpa using hy
      refine Ev.step (fun k => by rw [laws_heldRangeS.l0]) ?_
      refine ev_pos (by omega) (ev_pos (by omega) ?_)
      rw [hi]
      refine ev_pos rfl (ev_pos rfl (ev_pos rfl ?_))
      rw [e1, wsucc (n := ys.length) (by omega) (by omega)]
      exact hh
theorem mark_ev (xs : List S26) (hl : xs.length ≤ 1048576) : ∃ m ys, Ev (fun k => laws_markRangeS.f k xs 1) (m, ys) ∧ 0 ≤ m ∧ Ev (fun k => laws_heldRangeS.f k ys 1) m := by
  obtain ⟨m, ys, h1, _, h2, _, h3⟩ := mark_l xs.length 0 xs 1 (by omega) hl (by omega) (by omega)
  exact ⟨m, ys, h1, h2, h3⟩

theorem FnExactSplitRange : Stated := by
  intro l p g ⟨hm, hw⟩ hp _
  have hp := wf_u64 hp
  refine Ev.rounds (?_ : Ev (fun k => laws_FnExactSplitRange.f k l p g) true)
  unfold laws_FnExactSplitRange.f
  rcases szRangeS_ev l 1048576 hm (by omega) (by omega) with ⟨hs, hn⟩ | ⟨hs, hn⟩
  · exact Ev.bind (ev_const hs) (ev_pos (by omega) (Ev.now _))
  · refine Ev.bind (ev_const hs) (ev_neg (by omega) ?_)
    have hl : l.length ≤ 1048576 := by omega
    have ht := toRangeS_ev l hl
    have hl' : (l.map conv).length ≤ 1048576 := by simpa using hl
    obtain ⟨r, hr, r1, r2⟩ := specSplit_ev _ hl' (wf_conv hw) p g hp.1 hp.2
    obtain ⟨r', hr', r1', r2'⟩ := implSplit_ev _ hl' (wf_conv hw) p g hp.1 hp.2
    have e : r' = r ∧ r'.1.length ≤ 1048576 := by
      by_cases h : SplitC (l.map conv) p g
      · rw [r1 h, r1' h]
        refine ⟨rfl, ?_⟩
        obtain ⟨i, hil, he, _⟩ := find_at _ h.1 p hp.1 hp.2
        show (splitM (l.map conv) (findM (l.map conv) p).toNat p g).length ≤ 1048576
        rw [he, toNat_cast, splitM_len _ _ _ _ hil]
        have := h.1.2.1
        omega
      · rw [r2 h, r2' h]
        exact ⟨rfl, by simp⟩
    obtain ⟨e, hrl⟩ := e
    subst e
    have heq := eqRangeS_ev r'.1 hrl
    obtain ⟨m, ys, hm1, hm2, hm3⟩ := mark_ev _ hl'
    obtain ⟨m', ys', hm1', hm2', hm3'⟩ := mark_ev r'.1 hrl
    refine Ev.bind ht (Ev.bind hr (Ev.bind ht (Ev.bind hr' (Ev.bind heq (ev_pos rfl (ev_neg (by simp) ?_))))))
    refine Ev.bind ht (Ev.bind (eqRangeS_ev _ hl') (ev_pos rfl ?_))
    refine Ev.bind hm1 (ev_neg (by show ¬ m < 0; omega) (Ev.bind heq (ev_pos rfl ?_)))
    refine Ev.bind hm1' (Ev.bind hm3' (ev_neg (by omega) (ev_pos rfl ?_)))
    refine Ev.bind ht (Ev.bind hr' (Ev.bind heq (ev_pos rfl (ev_neg (by simp) ?_))))
    exact Ev.bind hm3' (ev_neg (by omega) (ev_pos rfl (Ev.now _)))

end Go.Proofs.Ytfabcjkaoidmeaa.Pure
