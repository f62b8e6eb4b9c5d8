/- The law FnRanges answers true at every input. No condition. -/
import Derived.Test.YtfabcjkaoidmeaaOpnFnRanges
import Derived.Test.YtfabcjkaoidmeaaBase
namespace Go.Proofs.Ytfabcjkaoidmeaa.Pure
open Go.RowKit Go.Proofs.Ytfabcjkaoidmeaa.QFnRanges Go.Proofs.Ytfabcjkaoidmeaa.OpnFnRanges Go.Proofs.Ytfabcjkaoidmeaa.Base Go.Proofs.YtfabcjkaoidmeaaW.PrintWords Go.Proofs.YtfabcjkaoidmeaaW.PrintLast
set_option linter.unusedVariables false
set_option linter.unusedSimpArgs false

def wfR (x : S26) : Prop := (0 ≤ x.f0 ∧ x.f0 ≤ 18446744073709551615) ∧ (0 ≤ x.f1 ∧ x.f1 ≤ 18446744073709551615)
theorem wf_at {l : List S26} (h : ∀ x ∈ l, wfR x) (j : Nat) (hj : j < l.length) : wfR (rd_T26 l j) := by
  unfold rd_T26
  rw [toNat_cast]
  exact h _ (getD_mem l j z26 hj)

/-- What is asked of range j. -/
def RP (l : List S26) (j : Nat) : Prop :=
  (rd_T26 l j).f0 ≤ (rd_T26 l j).f1 ∧ (0 ≤ (rd_T26 l j).f2 ∧ (rd_T26 l j).f2 ≤ 99) ∧ (0 < j → (rd_T26 l (j - 1 : Nat)).f1 ≠ 18446744073709551615 ∧ (rd_T26 l j).f0 = (rd_T26 l (j - 1 : Nat)).f1 + 1)
/-- Ranges are all ids. -/
def RangesP (l : List S26) : Prop :=
  1 ≤ l.length ∧ l.length ≤ 24 ∧ (rd_T26 l 0).f0 = 0 ∧ (rd_T26 l ((l.length - 1 : Nat) : Int)).f1 = 18446744073709551615 ∧ ∀ j, j < l.length → RP l j
theorem in_ev (x a b : Int) : ∃ t, spec_l01In.f x a b = some t ∧ (t = true ↔ a ≤ x ∧ x ≤ b) := by
  unfold spec_l01In.f
  by_cases h : a ≤ x
  · rw [if_pos h]
    exact ⟨_, rfl, by simp [h]⟩
  · rw [if_neg h]
    exact ⟨_, rfl, by simp [h]⟩

def findM (l : List S26) (id : Int) : Int := idxB (fun r => decide (id ≤ r.f1)) l
/-- Where an id lies in right ranges. -/
theorem find_at (l : List S26) (hP : RangesP l) (id : Int) (h0 : 0 ≤ id) (h1 : id ≤ 18446744073709551615) : ∃ i : Nat, i < l.length ∧ findM l id = (i : Int) ∧ (rd_T26 l i).f0 ≤ id ∧ id ≤ (rd_T26 l i).f1 ∧ ∀ j : Nat, j < i → (rd_T26 l j).f1 < id := by
  have hex : ∃ i : Nat, i < l.length ∧ id ≤ (rd_T26 l i).f1 := ⟨l.length - 1, by have := hP.1; omega, by rw [hP.2.2.2.1]; exact h1⟩
  have least : ∀ n : Nat, (∃ i : Nat, i < n ∧ i < l.length ∧ id ≤ (rd_T26 l i).f1) → ∃ i : Nat, i < l.length ∧ id ≤ (rd_T26 l i).f1 ∧ ∀ j : Nat, j < i → (rd_T26 l j).f1 < id := by
    intro n
    induction n with
    | zero => rintro ⟨i, hi, _⟩; omega
    | succ n ih =>
      rintro ⟨i, hi, hl, hq⟩
      by_cases h : ∃ i : Nat, i < n ∧ i < l.length ∧ id ≤ (rd_T26 l i).f1
      · exact ih h
      · refine ⟨i, hl, hq, fun j hj => ?_⟩
        by_cases hc : id ≤ (rd_T26 l j).f1
        · exact absurd ⟨j, by omega, by omega, hc⟩ h
        · omega
  obtain ⟨i0, hi0, hq0⟩ := hex
  obtain ⟨i, hi, hq, hb⟩ := least (i0 + 1) ⟨i0, by omega, hi0, hq0⟩
  refine ⟨i, hi, ?_, ?_, hq, hb⟩
  · unfold findM
    refine idxB_hit (fun r : S26 => decide (id ≤ r.f1)) l z26 i hi ?_ (fun j hj => ?_)
    · have : id ≤ (l.getD i z26).f1 := by have := hq; unfold rd_T26 at this; rwa [toNat_cast] at this
      simpa using this
    · have : (l.getD j z26).f1 < id := by have := hb j hj; unfold rd_T26 at this; rwa [toNat_cast] at this
      simp only [decide_eq_false_iff_not]; omega
  · by_cases h : 0 < i
    · have e := ((hP.2.2.2.2 i hi).2.2 h).2
      have := hb (i - 1) (by omega)
      omega
    · have e : i = 0 := by omega
      subst e
      have := hP.2.2.1
      exact Int.le_trans (Int.le_of_eq this) h0

theorem specRangesOk_l (l : List S26) (hl : l.length ≤ 1048576) (hw : ∀ x ∈ l, wfR x) (d : Nat) : ∀ (i : Nat), l.length = i + d → ∃ b, Ev (fun k => spec_RangesOk.l0 k l i) b ∧ (b = true ↔ ∀ j, i ≤ j → j < l.length → RP l j) := by
  induction d with
  | zero =>
    intro i hd
    refine ⟨true, ?_, ⟨fun _ j h1 h2 => by omega, fun _ => rfl⟩⟩
    refine Ev.step (fun k => by rw [spec_RangesOk.l0]) ?_
    exact ev_neg (by omega) (Ev.now _)
  | succ d ih =>
    intro i hd
    have wi := wf_at hw i (by omega)
    by_cases hP : RP l i
    · obtain ⟨b, hb, hi⟩ := ih (i + 1) (by omega)
      refine ⟨b, ?_, ?_⟩
      · refine Ev.step (fun k => by rw [spec_RangesOk.l0]) ?_
        refine ev_pos (by omega) (ev_pos (by omega) (ev_neg (by have := hP.1; omega) ?_))
        obtain ⟨t, ht, hti⟩ := in_ev (rd_T26 l i).f2 0 99
        refine Ev.bind (ev_const ht) (ev_pos (hti.2 hP.2.1) ?_)
        by_cases h0 : 0 < i
        · refine ev_pos (by omega) ?_
          rw [wpred h0 (by omega), wsucc (n := l.length) (by omega) (by omega)]
          refine ev_pos (by omega) (ev_pos (by omega) (ev_neg (hP.2.2 h0).1 (ev_pos ?_ hb)))
          have wp := wf_at hw (i - 1) (by omega)
          rw [u64w (by have := wp.2.1; omega) (by have := wp.2.2; have := (hP.2.2 h0).1; omega)]
          exact (hP.2.2 h0).2
        · refine ev_neg (by omega) ?_
          rw [wsucc (n := l.length) (by omega) (by omega)]
          exact hb
      · rw [hi]
        refine ⟨fun h j h1 h2 => ?_, fun h j h1 h2 => h j (by omega) h2⟩
        by_cases e : j = i
        · subst e; exact hP
        · exact h j (by omega) h2
    · refine ⟨false, ?_, ⟨fun h => (by cases h), fun h => absurd (h i (Nat.le_refl _) (by omega)) hP⟩⟩
      refine Ev.step (fun k => by rw [spec_RangesOk.l0]) ?_
      refine ev_pos (by omega) (ev_pos (by omega) ?_)
      by_cases h1 : (rd_T26 l i).f0 > (rd_T26 l i).f1
      · exact ev_pos h1 (Ev.now _)
      · refine ev_neg h1 ?_
        obtain ⟨t, ht, hti⟩ := in_ev (rd_T26 l i).f2 0 99
        refine Ev.bind (ev_const ht) ?_
        by_cases h2 : t = true
        · refine ev_pos h2 ?_
          by_cases h0 : 0 < i
          · refine ev_pos (by omega) ?_
            rw [wpred h0 (by omega)]
            refine ev_pos (by omega) (ev_pos (by omega) ?_)
            by_cases h3 : (rd_T26 l (i - 1 : Nat)).f1 = 18446744073709551615
            · exact ev_pos h3 (Ev.now _)
            · refine ev_neg h3 (ev_neg ?_ (Ev.now _))
              have wp := wf_at hw (i - 1) (by omega)
              rw [u64w (by have := wp.2.1; omega) (by have := wp.2.2; omega)]
              exact fun h4 => hP ⟨by omega, hti.1 h2, fun _ => ⟨h3, h4⟩⟩
          · exact absurd ⟨by omega, hti.1 h2, fun h => absurd h h0⟩ hP
        · exact ev_neg h2 (Ev.now _)
theorem specRangesOk_ev (l : List S26) (hl : l.length ≤ 1048576) (hw : ∀ x ∈ l, wfR x) : ∃ b, Ev (fun k => spec_RangesOk.f k l) b ∧ (b = true ↔ RangesP l) := by
  have hj : ∀ (x : Bool), x = true → Ev (fun k => spec_RangesOk.j0 k l x) false := fun x hx => by
    refine Ev.step (fun k => by rw [spec_RangesOk.j0]) ?_
    exact ev_pos hx (Ev.now _)
  unfold spec_RangesOk.f
  obtain ⟨t, ht, hti⟩ := in_ev (l.length : Int) 1 24
  by_cases h1 : t = true
  · have h2 := hti.1 h1
    by_cases h3 : (rd_T26 l 0).f0 = 0
    · by_cases h4 : (rd_T26 l ((l.length - 1 : Nat) : Int)).f1 = 18446744073709551615
      · obtain ⟨b, hb, hi⟩ := specRangesOk_l l hl hw l.length 0 (by omega)
        refine ⟨b, ?_, ?_⟩
        · refine Ev.bind (ev_const ht) (ev_pos h1 (ev_pos (by omega) (ev_pos h3 ?_)))
          rw [wpred (by omega) (by omega)]
          refine ev_pos (by omega) (ev_pos (by omega) ?_)
          refine Ev.step (fun k => by rw [spec_RangesOk.j0]) ?_
          exact ev_neg (by rw [h4]; decide) hb
        · rw [hi]
          exact ⟨fun h => ⟨by omega, by omega, h3, h4, fun j => h j (Nat.zero_le _)⟩, fun h j _ => h.2.2.2.2 j⟩
      · refine ⟨false, ?_, ⟨fun h => (by cases h), fun h => absurd h.2.2.2.1 h4⟩⟩
        refine Ev.bind (ev_const ht) (ev_pos h1 (ev_pos (by omega) (ev_pos h3 ?_)))
        rw [wpred (by omega) (by omega)]
        refine ev_pos (by omega) (ev_pos (by omega) (hj _ (by simpa using h4)))
    · refine ⟨false, ?_, ⟨fun h => (by cases h), fun h => absurd h.2.2.1 h3⟩⟩
      exact Ev.bind (ev_const ht) (ev_pos h1 (ev_pos (by omega) (ev_neg h3 (hj _ rfl))))
  · refine ⟨false, ?_, ⟨fun h => (by cases h), fun h => absurd (hti.2 ⟨by have := h.1; omega, by have := h.2.1; omega⟩) h1⟩⟩
    exact Ev.bind (ev_const ht) (ev_neg h1 (hj _ rfl))

theorem covers_ev (x0 x1 x2 id : Int) : ∃ t, spec_Covers.f x0 x1 x2 id = some t ∧ (t = true ↔ x0 ≤ id ∧ id ≤ x1) := by
  unfold spec_Covers.f
  by_cases h : x0 ≤ id
  · rw [if_pos h]; exact ⟨_, rfl, by simp [h]⟩
  · rw [if_neg h]; exact ⟨_, rfl, by simp [h]⟩
theorem specFind_l (l : List S26) (hl : l.length ≤ 1048576) (hw : ∀ x ∈ l, wfR x) (hP : RangesP l) (id : Int) (f : Nat) (hf : f < l.length) (h0 : (rd_T26 l f).f0 ≤ id) (h1 : id ≤ (rd_T26 l f).f1) (hb : ∀ j : Nat, j < f → (rd_T26 l j).f1 < id) (d : Nat) :
    ∀ i : Nat, f = i + d → Ev (fun k => spec_FindRange.l0 k l id i) (f : Int) := by
  obtain ⟨b, hbe, hbi⟩ := specRangesOk_ev l hl hw
  have hbt := hbi.2 hP
  induction d with
  | zero =>
    intro i hd
    obtain rfl : f = i := by omega
    refine Ev.step (fun k => by rw [spec_FindRange.l0]) (ev_pos (by omega) (Ev.bind hbe ?_))
    refine Ev.step (fun k => by rw [spec_FindRange.j1]) (ev_pos hbt (ev_pos (by omega) (ev_pos (by omega) ?_)))
    obtain ⟨t, ht, hti⟩ := covers_ev (rd_T26 l f).f0 (rd_T26 l f).f1 (rd_T26 l f).f2 id
    exact Ev.bind (ev_const ht) (ev_pos (hti.2 ⟨h0, h1⟩) (Ev.now _))
  | succ d ih =>
    intro i hd
    refine Ev.step (fun k => by rw [spec_FindRange.l0]) (ev_pos (by omega) (Ev.bind hbe ?_))
    refine Ev.step (fun k => by rw [spec_FindRange.j1]) (ev_pos hbt (ev_pos (by omega) (ev_pos (by omega) ?_)))
    obtain ⟨t, ht, hti⟩ := covers_ev (rd_T26 l i).f0 (rd_T26 l i).f1 (rd_T26 l i).f2 id
    refine Ev.bind (ev_const ht) (ev_neg (fun h => ?_) ?_)
    · have := (hti.1 h).2
      have := hb i (by omega)
      omega
    · rw [wsucc (n := l.length) (by omega) (by omega)]
      exact ih (i + 1) (by omega)
theorem specFind_ev (l : List S26) (hl : l.length ≤ 1048576) (hw : ∀ x ∈ l, wfR x) (id : Int) (h0 : 0 ≤ id) (h1 : id ≤ 18446744073709551615) : ∃ r, Ev (fun k => spec_FindRange.f k l id) r ∧ (RangesP l → r = findM l id) ∧ (¬ RangesP l → r = -1) := by
  by_cases hP : RangesP l
  · obtain ⟨i, hi, hm, h2, h3, h4⟩ := find_at l hP id h0 h1
    exact ⟨_, specFind_l l hl hw hP id i hi h2 h3 h4 i 0 (by omega), fun _ => hm.symm, fun h => absurd hP h⟩
  · refine ⟨-1, ?_, fun h => absurd h hP, fun _ => rfl⟩
    have hj : Ev (fun k => spec_FindRange.j1 k l id 0 false) (-1) := Ev.step (fun k => by rw [spec_FindRange.j1]) (ev_neg (by decide) (Ev.now _))
    unfold spec_FindRange.f
    refine Ev.step (fun k => by rw [spec_FindRange.l0]) ?_
    by_cases h : (0 : Int) < l.length
    · obtain ⟨b, hbe, hbi⟩ := specRangesOk_ev l hl hw
      have e : b = false := by
        cases b with
        | true => exact absurd (hbi.1 rfl) hP
        | false => rfl
      subst e
      exact ev_pos h (Ev.bind hbe hj)
    · exact ev_neg h hj

theorem group_ev (x : Int) : ∃ t, impl_isGroupId.f x = some t ∧ (t = true ↔ 0 ≤ x ∧ x ≤ 99) := by
  unfold impl_isGroupId.f
  by_cases h : x ≥ 0
  · rw [if_pos h]
    exact ⟨_, rfl, by simp; omega⟩
  · rw [if_neg h]
    exact ⟨_, rfl, by simp; omega⟩
theorem areRanges_l (l : List S26) (hl : l.length ≤ 1048576) (hw : ∀ x ∈ l, wfR x) (d : Nat) : ∀ (i : Nat), l.length = i + d → ∃ b, Ev (fun k => impl_areRanges.l0 k l l (l.length : Int) i) b ∧ (b = true ↔ ∀ j, i ≤ j → j < l.length → RP l j) := by
  induction d with
  | zero =>
    intro i hd
    refine ⟨true, ?_, ⟨fun _ j h1 h2 => by omega, fun _ => rfl⟩⟩
    refine Ev.step (fun k => by rw [impl_areRanges.l0]) ?_
    exact ev_neg (by omega) (Ev.now _)
  | succ d ih =>
    intro i hd
    have wi := wf_at hw i (by omega)
    by_cases hP : RP l i
    · obtain ⟨b, hb, hi⟩ := ih (i + 1) (by omega)
      refine ⟨b, ?_, ?_⟩
      · refine Ev.step (fun k => by rw [impl_areRanges.l0]) ?_
        refine ev_pos (by omega) (ev_pos (by omega) (ev_pos (by omega) (ev_neg (by have := hP.1; omega) ?_)))
        obtain ⟨t, ht, hti⟩ := group_ev (rd_T26 l i).f2
        refine Ev.bind (ev_const ht) (ev_pos (hti.2 hP.2.1) ?_)
        by_cases h0 : 0 < i
        · have wp := wf_at hw (i - 1) (by omega)
          have h5 := hP.2.2 h0
          refine ev_pos (by omega) (ev_neg (by have := wp.2.1; omega) ?_)
          rw [wpred h0 (by omega), wsucc (n := l.length) (by omega) (by omega)]
          refine ev_pos (by omega) (ev_pos (by omega) (ev_pos ?_ hb))
          rw [u64w (by have := wp.2.1; omega) (by have := wi.1.2; omega)]
          omega
        · refine ev_neg (by omega) ?_
          rw [wsucc (n := l.length) (by omega) (by omega)]
          exact hb
      · rw [hi]
        refine ⟨fun h j h1 h2 => ?_, fun h j h1 h2 => h j (by omega) h2⟩
        by_cases e : j = i
        · subst e; exact hP
        · exact h j (by omega) h2
    · refine ⟨false, ?_, ⟨fun h => (by cases h), fun h => absurd (h i (Nat.le_refl _) (by omega)) hP⟩⟩
      refine Ev.step (fun k => by rw [impl_areRanges.l0]) ?_
      refine ev_pos (by omega) (ev_pos (by omega) (ev_pos (by omega) ?_))
      by_cases h1 : (rd_T26 l i).f0 > (rd_T26 l i).f1
      · exact ev_pos h1 (Ev.now _)
      · refine ev_neg h1 ?_
        obtain ⟨t, ht, hti⟩ := group_ev (rd_T26 l i).f2
        refine Ev.bind (ev_const ht) ?_
        by_cases h2 : t = true
        · refine ev_pos h2 ?_
          by_cases h0 : 0 < i
          · refine ev_pos (by omega) ?_
            by_cases h3 : (rd_T26 l i).f0 = 0
            · exact ev_pos h3 (Ev.now _)
            · refine ev_neg h3 ?_
              have wp := wf_at hw (i - 1) (by omega)
              rw [wpred h0 (by omega)]
              refine ev_pos (by omega) (ev_pos (by omega) (ev_neg ?_ (Ev.now _)))
              rw [u64w (by have := wi.1.1; omega) (by have := wi.1.2; omega)]
              exact fun h4 => hP ⟨by omega, hti.1 h2, fun _ => ⟨by have := wi.1.2; omega, by omega⟩⟩
          · exact absurd ⟨by omega, hti.1 h2, fun h => absurd h h0⟩ hP
        · exact ev_neg h2 (Ev.now _)
theorem areRanges_ev (l : List S26) (hl : l.length ≤ 1048576) (hw : ∀ x ∈ l, wfR x) : ∃ b, Ev (fun k => impl_areRanges.f k l) b ∧ (b = true ↔ RangesP l) := by
  have hj : ∀ (x : Bool), x = true → Ev (fun k => impl_areRanges.j0 k l x) false := fun x hx => by
    refine Ev.step (fun k => by rw [impl_areRanges.j0]) ?_
    exact ev_pos hx (Ev.now _)
  unfold impl_areRanges.f
  by_cases h1 : (l.length : Int) < 1
  · exact ⟨false, ev_pos h1 (hj _ rfl), ⟨fun h => (by cases h), fun h => by have := h.1; omega⟩⟩
  by_cases h2 : (l.length : Int) > 24
  · exact ⟨false, ev_neg h1 (ev_pos h2 (hj _ rfl)), ⟨fun h => (by cases h), fun h => by have := h.2.1; omega⟩⟩
  by_cases h3 : (rd_T26 l 0).f0 = 0
  · by_cases h4 : (rd_T26 l ((l.length - 1 : Nat) : Int)).f1 = 18446744073709551615
    · obtain ⟨b, hb, hi⟩ := areRanges_l l hl hw l.length 0 (by omega)
      refine ⟨b, ?_, ?_⟩
      · refine ev_neg h1 (ev_neg h2 (ev_pos (by omega) (ev_pos h3 ?_)))
        rw [wpred (by omega) (by omega)]
        refine ev_pos (by omega) (ev_pos (by omega) ?_)
        refine Ev.step (fun k => by rw [impl_areRanges.j0]) ?_
        exact ev_neg (by rw [h4]; decide) hb
      · rw [hi]
        exact ⟨fun h => ⟨by omega, by omega, h3, h4, fun j => h j (Nat.zero_le _)⟩, fun h j _ => h.2.2.2.2 j⟩
    · refine ⟨false, ?_, ⟨fun h => (by cases h), fun h => absurd h.2.2.2.1 h4⟩⟩
      refine ev_neg h1 (ev_neg h2 (ev_pos (by omega) (ev_pos h3 ?_)))
      rw [wpred (by omega) (by omega)]
      refine ev_pos (by omega) (ev_pos (by omega) (hj _ (by simpa using h4)))
  · refine ⟨false, ?_, ⟨fun h => (by cases h), fun h => absurd h.2.2.1 h3⟩⟩
    exact ev_neg h1 (ev_neg h2 (ev_pos (by omega) (ev_neg h3 (hj _ rfl))))

def splitM (l : List S26) (p : Nat) (at_ g : Int) : List S26 := l.take p ++ [⟨(rd_T26 l p).f0, IntKind.u64.wrap (at_ - 1), (rd_T26 l p).f2⟩, ⟨at_, (rd_T26 l p).f1, g⟩] ++ l.drop (p + 1)
theorem splitM_len (l : List S26) (p : Nat) (at_ g : Int) (h : p < l.length) : (splitM l p at_ g).length = l.length + 1 := by
  simp [splitM]; omega
theorem drop_rd (l : List S26) (i : Nat) (h : i < l.length) : l.drop i = ⟨(rd_T26 l i).f0, (rd_T26 l i).f1, (rd_T26 l i).f2⟩ :: l.drop (i + 1) := by
  unfold rd_T26
  rw [toNat_cast, getD_lt l i z26 h]
  exact List.drop_eq_getElem_cons h
theorem specSplit_2 (l : List S26) (hl : l.length ≤ 1048576) (at_ g : Int) (p : Nat) (d : Nat) : ∀ (i : Nat) (acc : List S26), p < i → l.length = i + d → acc.length ≤ i + 1 → Ev (fun k => spec_SplitRange.l0 k l at_ g (p : Int) acc i) (acc ++ l.drop i, true) := by
  induction d with
  | zero =>
    intro i acc hi hd ha
    refine Ev.step (fun k => by rw [spec_SplitRange.l0]) ?_
    refine ev_neg (by omega) ?_
    rw [List.drop_of_length_le (by omega), List.append_nil]
    exact Ev.now _
  | succ d ih =>
    intro i acc hi hd ha
    refine Ev.step (fun k => by rw [spec_SplitRange.l0]) ?_
    refine ev_pos (by omega) (ev_neg (by omega) (ev_pos (by omega) (ev_pos (by omega) ?_)))
    rw [wsucc (n := l.length) (by omega) (by omega)]
    have := ih (i + 1) (acc ++ [⟨(rd_T26 l i).f0, (rd_T26 l i).f1, (rd_T26 l i).f2⟩]) (by omega) (by omega) (by simp; omega)
    rw [List.append_assoc, List.singleton_append, ← drop_rd l i (by omega)] at this
    exact this
theorem specSplit_1 (l : List S26) (hl : l.length ≤ 1048576) (at_ g : Int) (p : Nat) (hp : p < l.length) (d : Nat) : ∀ (i : Nat), i + d = p → Ev (fun k => spec_SplitRange.l0 k l at_ g (p : Int) (l.take i) i) (splitM l p at_ g, true) := by
  induction d with
  | zero =>
    intro i hd
    obtain rfl : i = p := by omega
    refine Ev.step (fun k => by rw [spec_SplitRange.l0]) ?_
    have h1 := List.length_take_le i l
    refine ev_pos (by omega) (ev_pos rfl (ev_pos (by omega) (ev_pos (by omega) (Ev.bind (Ev.now _) (ev_pos (by simp; omega) ?_)))))
    rw [wsucc (n := l.length) (by omega) (by omega)]
    have := specSplit_2 l hl at_ g i (l.length - (i + 1)) (i + 1) (l.take i ++ [⟨(rd_T26 l i).f0, IntKind.u64.wrap (at_ - 1), (rd_T26 l i).f2⟩] ++ [⟨at_, (rd_T26 l i).f1, g⟩]) (by omega) (by omega) (by simp; omega)
    rw [List.append_assoc, List.append_assoc, List.append_assoc] at this
    unfold splitM
    rw [List.append_assoc, List.append_assoc]
    exact this
  | succ d ih =>
    intro i hd
    refine Ev.step (fun k => by rw [spec_SplitRange.l0]) ?_
    have h1 := List.length_take_le i l
    refine ev_pos (by omega) (ev_neg (by omega) (ev_pos (by omega) (ev_pos (by omega) ?_)))
    rw [wsucc (n := l.length) (by omega) (by omega)]
    have := ih (i + 1) (by omega)
    rw [take_succ_getD l i z26 (by omega)] at this
    unfold rd_T26
    rw [toNat_cast]
    exact this
def SplitC (l : List S26) (at_ g : Int) : Prop := RangesP l ∧ (rd_T26 l (findM l at_)).f0 ≠ at_ ∧ (0 ≤ g ∧ g ≤ 99) ∧ l.length ≠ 24
theorem specSplit_ev (l : List S26) (hl : l.length ≤ 1048576) (hw : ∀ x ∈ l, wfR x) (at_ g : Int) (h0 : 0 ≤ at_) (h1 : at_ ≤ 18446744073709551615) : ∃ r, Ev (fun k => spec_SplitRange.f k l at_ g) r ∧ (SplitC l at_ g → r = (splitM l (findM l at_).toNat at_ g, true)) ∧ (¬ SplitC l at_ g → r = ([], false)) := by
  have hj : ∀ (x : Bool) (t : Int), x = true → Ev (fun k => spec_SplitRange.j0 k l at_ g t x) ([], false) := fun x t hx => by
    refine Ev.step (fun k => by rw [spec_SplitRange.j0]) ?_
    exact ev_pos hx (Ev.now _)
  obtain ⟨t, ht, t1, t2⟩ := specFind_ev l hl hw at_ h0 h1
  unfold spec_SplitRange.f
  by_cases hP : RangesP l
  · obtain ⟨i, hi, he, _⟩ := find_at l hP at_ h0 h1
    obtain rfl := t1 hP
    by_cases h2 : (rd_T26 l (findM l at_)).f0 = at_
    · refine ⟨_, Ev.bind ht (ev_neg (by omega) (ev_pos (by omega) (ev_pos (by omega) (ev_pos h2 (hj _ _ rfl))))), fun hc => absurd h2 hc.2.1, fun _ => rfl⟩
    · obtain ⟨b, hb, hbi⟩ := in_ev g 0 99
      by_cases h3 : b = true
      · by_cases h4 : l.length = 24
        · refine ⟨_, Ev.bind ht (ev_neg (by omega) (ev_pos (by omega) (ev_pos (by omega) (ev_neg h2 (Ev.bind (ev_const hb) (ev_pos h3 (hj _ _ (by simp; omega)))))))), fun hc => absurd h4 hc.2.2.2, fun _ => rfl⟩
        · refine ⟨_, Ev.bind ht (ev_neg (by omega) (ev_pos (by omega) (ev_pos (by omega) (ev_neg h2 (Ev.bind (ev_const hb) (ev_pos h3 ?_)))))), fun _ => rfl, fun hn => absurd ⟨hP, h2, hbi.1 h3, h4⟩ hn⟩
          refine Ev.step (fun k => by rw [spec_SplitRange.j0]) ?_
          refine ev_neg (by simp; omega) ?_
          have := specSplit_1 l hl at_ g i hi i 0 (by omega)
          rw [he, toNat_cast]
          exact this
      · refine ⟨_, Ev.bind ht (ev_neg (by omega) (ev_pos (by omega) (ev_pos (by omega) (ev_neg h2 (Ev.bind (ev_const hb) (ev_neg h3 (hj _ _ rfl))))))), fun hc => absurd (hbi.2 hc.2.2.1) h3, fun _ => rfl⟩
  · obtain rfl := t2 hP
    exact ⟨_, Ev.bind ht (ev_pos (by omega) (hj _ _ rfl)), fun hc => absurd hc.1 hP, fun _ => rfl⟩
theorem implSplit_ev (l : List S26) (hl : l.length ≤ 1048576) (hw : ∀ x ∈ l, wfR x) (at_ g : Int) (h0 : 0 ≤ at_) (h1 : at_ ≤ 18446744073709551615) : ∃ r, Ev (fun k => impl_SplitRange.f k l at_ g) r ∧ (SplitC l at_ g → r = (splitM l (findM l at_).toNat at_ g, true)) ∧ (¬ SplitC l at_ g → r = ([], false)) := by
  have hj : ∀ (x : Bool), x = true → Ev (fun k => impl_splitRange.j0 k l at_ g x) ([], false) := fun x hx => by
    refine Ev.step (fun k => by rw [impl_splitRange.j0]) ?_
    exact ev_pos hx (Ev.now _)
  obtain ⟨b, hb, hi⟩ := areRanges_ev l hl hw
  have key : ∃ r, Ev (fun k => impl_splitRange.f k l at_ g) r ∧ (SplitC l at_ g → r = (splitM l (findM l at_).toNat at_ g, true)) ∧ (¬ SplitC l at_ g → r = ([], false)) := by
    unfold impl_splitRange.f
    by_cases h : b = true
    · have hP := hi.1 h
      obtain ⟨t, ht, hti⟩ := group_ev g
      by_cases h2 : t = true
      · by_cases h3 : l.length = 24
        · exact ⟨_, Ev.bind hb (ev_pos h (Ev.bind (ev_const ht) (ev_pos h2 (hj _ (by simp; omega))))), fun hc => absurd h3 hc.2.2.2, fun _ => rfl⟩
        · obtain ⟨i, hil, he, _⟩ := find_at l hP at_ h0 h1
          have hf : impl_findRange.f l at_ = some (i : Int) := by rw [← he]; rfl
          have hlen := hP.2.1
          by_cases h4 : (rd_T26 l (i : Int)).f0 = at_
          · refine ⟨_, Ev.bind hb (ev_pos h (Ev.bind (ev_const ht) (ev_pos h2 ?_))), fun hc => absurd (by rw [he]; exact h4) hc.2.1, fun _ => rfl⟩
            refine Ev.step (fun k => by rw [impl_splitRange.j0]) ?_
            exact ev_neg (by simp; omega) (Ev.bind (ev_const hf) (ev_pos (by omega) (ev_pos (by omega) (ev_pos h4 (Ev.now _)))))
          · refine ⟨_, Ev.bind hb (ev_pos h (Ev.bind (ev_const ht) (ev_pos h2 ?_))), fun _ => rfl, fun hn => absurd ⟨hP, by rw [he]; exact h4, hti.1 h2, h3⟩ hn⟩
            refine Ev.step (fun k => by rw [impl_splitRange.j0]) ?_
            refine ev_neg (by simp; omega) (Ev.bind (ev_const hf) (ev_pos (by omega) (ev_pos (by omega) (ev_neg h4 (Ev.bind (Ev.now _) (ev_pos (by simp; omega) (Ev.bind (Ev.now _) (ev_pos (by simp; omega) (Ev.bind (a := splitM l i at_ g) (ev_const ?_) ?_)))))))))
            · unfold impl_Range_80.f
              rw [wsucc (n := l.length) (by omega) (by omega), toNat_cast, toNat_cast, List.nil_append, if_pos ⟨by omega, by rw [List.length_set]; omega, rfl, by rw [List.length_set]; omega⟩]
              congr 1
              rw [take_set_succ _ _ _ hil, List.drop_set_of_lt (by omega)]
              unfold splitM
              simp
            · rw [he, toNat_cast]
              exact Ev.now _
      · exact ⟨_, Ev.bind hb (ev_pos h (Ev.bind (ev_const ht) (ev_neg h2 (hj _ rfl)))), fun hc => absurd (hti.2 hc.2.2.1) h2, fun _ => rfl⟩
    · exact ⟨_, Ev.bind hb (ev_neg h (hj _ rfl)), fun hc => absurd (hi.2 hc.1) h, fun _ => rfl⟩
  obtain ⟨r, hr, r1, r2⟩ := key
  refine ⟨r, ?_, r1, r2⟩
  unfold impl_SplitRange.f
  exact Ev.bind hr (Ev.now _)

def mergeM (l : List S26) (p : Nat) : List S26 := (l.set p ⟨(rd_T26 l p).f0, (rd_T26 l (p + 1 : Nat)).f1, (rd_T26 l p).f2⟩).eraseIdx (p + 1)
theorem mergeM_len (l : List S26) (p : Nat) (h : p + 1 < l.length) : (mergeM l p).length = l.length - 1 := by
  unfold mergeM
  rw [List.length_eraseIdx_of_lt (by simpa using h), List.length_set]
theorem mergeM_past (l : List S26) (p j : Nat) (h : p + 1 < l.length) (hj : p < j) (hl : j + 1 < l.length) : (mergeM l p).getD j z26 = rd_T26 l ((j + 1 : Nat) : Int) := by
  unfold rd_T26
  rw [toNat_cast, getD_lt _ _ _ (by rw [mergeM_len l p h]; omega), getD_lt l (j + 1) z26 hl]
  simp only [mergeM]
  rw [List.getElem_eraseIdx, dif_neg (by omega), List.getElem_set_ne (by omega)]
theorem mergeM_take (l : List S26) (p : Nat) (h : p + 1 < l.length) : (l.take (p + 1)).set p ⟨(rd_T26 l p).f0, (rd_T26 l (p + 1 : Nat)).f1, (rd_T26 l p).f2⟩ = (mergeM l p).take (p + 1) := by
  apply List.ext_getElem
  · rw [List.length_set, List.length_take, List.length_take, mergeM_len l p h]; omega
  · intro i h1 h2
    rw [List.length_set, List.length_take] at h1
    rw [List.getElem_take]
    simp only [mergeM]
    rw [List.getElem_eraseIdx, dif_pos (by omega)]
    by_cases e : i = p
    · subst e
      rw [List.getElem_set_self, List.getElem_set_self]
    · rw [List.getElem_set_ne (by omega), List.getElem_set_ne (by omega), List.getElem_take]
theorem rd_take (l : List S26) (p n : Nat) (h : p < n) : rd_T26 (l.take n) (p : Int) = rd_T26 l (p : Int) := by
  unfold rd_T26
  rw [toNat_cast, List.getD_eq_getElem?_getD, List.getD_eq_getElem?_getD, List.getElem?_take_of_lt h]
theorem specMerge_2 (l : List S26) (hl : l.length ≤ 1048576) (p : Nat) (h : p + 1 < l.length) (d : Nat) : ∀ i : Nat, p + 2 ≤ i → l.length = i + d → Ev (fun k => spec_MergeRange.l0 k l (p : Int) ((mergeM l p).take (i - 1)) i) (mergeM l p, true) := by
  induction d with
  | zero =>
    intro i hi hd
    refine Ev.step (fun k => by rw [spec_MergeRange.l0]) ?_
    refine ev_neg (by omega) ?_
    rw [List.take_of_length_le (by rw [mergeM_len l p h]; omega)]
    exact Ev.now _
  | succ d ih =>
    intro i hi hd
    refine Ev.step (fun k => by rw [spec_MergeRange.l0]) ?_
    have hlen : ((mergeM l p).take (i - 1)).length < 5864062014805 := by
      have := List.length_take_le (i - 1) (mergeM l p)
      omega
    refine ev_pos (by omega) ?_
    rw [wsucc (j := p) (n := l.length) (by omega) (by omega)]
    refine ev_neg (by omega) (ev_pos (by omega) (ev_pos hlen ?_))
    rw [wsucc (n := l.length) (by omega) (by omega)]
    have := ih (i + 1) (by omega) (by omega)
    rw [show i + 1 - 1 = i - 1 + 1 by omega, take_succ_getD _ (i - 1) z26 (by rw [mergeM_len l p h]; omega), mergeM_past l p (i - 1) h (by omega) (by omega), show i - 1 + 1 = i by omega] at this
    exact this
theorem specMerge_1 (l : List S26) (hl : l.length ≤ 1048576) (p : Nat) (h : p + 1 < l.length) (d : Nat) : ∀ i : Nat, i + d = p + 1 → Ev (fun k => spec_MergeRange.l0 k l (p : Int) (l.take i) i) (mergeM l p, true) := by
  induction d with
  | zero =>
    intro i hd
    obtain rfl : i = p + 1 := by omega
    have := specMerge_2 l hl p h (l.length - (p + 2)) (p + 2) (Nat.le_refl _) (by omega)
    rw [show p + 2 - 1 = p + 1 by omega, ← mergeM_take l p h] at this
    refine Ev.step (fun k => by rw [spec_MergeRange.l0]) ?_
    refine ev_pos (by omega) ?_
    rw [wsucc (j := p) (n := l.length) (by omega) (by omega)]
    refine ev_pos rfl (ev_pos (by omega) (ev_pos (by omega) (ev_pos (by rw [List.length_take]; omega) ?_)))
    rw [wsucc (j := p + 1) (n := l.length) (by omega) (by omega), toNat_cast, rd_take l p (p + 1) (by omega)]
    exact this
  | succ d ih =>
    intro i hd
    refine Ev.step (fun k => by rw [spec_MergeRange.l0]) ?_
    have hlen : (l.take i).length < 5864062014805 := by
      have := List.length_take_le i l
      omega
    refine ev_pos (by omega) ?_
    rw [wsucc (j := p) (n := l.length) (by omega) (by omega)]
    refine ev_neg (by omega) (ev_pos (by omega) (ev_pos hlen ?_))
    rw [wsucc (n := l.length) (by omega) (by omega)]
    have := ih (i + 1) (by omega)
    rw [take_succ_getD l i z26 (by omega)] at this
    unfold rd_T26
    rw [toNat_cast]
    exact this
def MergeC (l : List S26) (p : Int) : Prop := RangesP l ∧ 0 ≤ p ∧ p + 1 < l.length ∧ (rd_T26 l p).f2 = (rd_T26 l (p + 1)).f2
theorem specMerge_ev (l : List S26) (hl : l.length ≤ 1048576) (hw : ∀ x ∈ l, wfR x) (p : Int) : ∃ r, Ev (fun k => spec_MergeRange.f k l p) r ∧ (MergeC l p → r = (mergeM l p.toNat, true)) ∧ (¬ MergeC l p → r = ([], false)) := by
  have hj : ∀ (x : Bool), x = true → Ev (fun k => spec_MergeRange.j0 k l p x) ([], false) := fun x hx => by
    refine Ev.step (fun k => by rw [spec_MergeRange.j0]) ?_
    exact ev_pos hx (Ev.now _)
  obtain ⟨b, hb, hi⟩ := specRangesOk_ev l hl hw
  unfold spec_MergeRange.f
  by_cases h : b = true
  · have hP := hi.1 h
    have h1 := hP.1
    rw [w64 (x := (l.length : Int) - 2) (by omega) (by omega)]
    obtain ⟨t, ht, hti⟩ := in_ev p 0 ((l.length : Int) - 2)
    by_cases h2 : t = true
    · have h2' := hti.1 h2
      rw [w64 (x := p + 1) (by omega) (by omega)]
      by_cases h3 : (rd_T26 l p).f2 = (rd_T26 l (p + 1)).f2
      · refine ⟨_, Ev.bind hb (ev_pos h (Ev.bind (ev_const ht) (ev_pos h2 (ev_pos (by omega) (ev_pos (by omega) (ev_pos (by omega) (ev_pos (by omega) ?_))))))), fun _ => rfl, fun hn => absurd ⟨hP, by omega, by omega, h3⟩ hn⟩
        refine Ev.step (fun k => by rw [spec_MergeRange.j0]) ?_
        refine ev_neg (by rw [h3]; simp) ?_
        have := specMerge_1 l hl p.toNat (by omega) (p.toNat + 1) 0 (by omega)
        rw [Int.toNat_of_nonneg (by omega)] at this
        exact this
      · exact ⟨_, Ev.bind hb (ev_pos h (Ev.bind (ev_const ht) (ev_pos h2 (ev_pos (by omega) (ev_pos (by omega) (ev_pos (by omega) (ev_pos (by omega) (hj _ (by simpa using h3))))))))), fun hc => absurd hc.2.2.2 h3, fun _ => rfl⟩
    · exact ⟨_, Ev.bind hb (ev_pos h (Ev.bind (ev_const ht) (ev_neg h2 (hj _ rfl)))), fun hc => absurd (hti.2 ⟨hc.2.1, by have := hc.2.2.1; omega⟩) h2, fun _ => rfl⟩
  · exact ⟨_, Ev.bind hb (ev_neg h (hj _ rfl)), fun hc => absurd (hi.2 hc.1) h, fun _ => rfl⟩
theorem implMerge_ev (l : List S26) (hl : l.length ≤ 1048576) (hw : ∀ x ∈ l, wfR x) (p : Int) (hp1 : -9223372036854775808 ≤ p) (hp2 : p ≤ 9223372036854775807) : ∃ r, Ev (fun k => impl_MergeRange.f k l p) r ∧ (MergeC l p → r = (mergeM l p.toNat, true)) ∧ (¬ MergeC l p → r = ([], false)) := by
  obtain ⟨b, hb, hi⟩ := areRanges_ev l hl hw
  have key : ∃ r, Ev (fun k => impl_mergeRange.f k l p) r ∧ (MergeC l p → r = (mergeM l p.toNat, true)) ∧ (¬ MergeC l p → r = ([], false)) := by
    unfold impl_mergeRange.f
    by_cases h : b = true
    · have hP := hi.1 h
      have h1 := hP.1
      rw [w64 (x := (l.length : Int) - 1) (by omega) (by omega)]
      by_cases h2 : p < 0
      · exact ⟨_, Ev.bind hb (ev_pos h (ev_pos h2 (Ev.now _))), fun hc => by have := hc.2.1; omega, fun _ => rfl⟩
      by_cases h3 : p ≥ (l.length : Int) - 1
      · exact ⟨_, Ev.bind hb (ev_pos h (ev_neg h2 (ev_pos h3 (Ev.now _)))), fun hc => by have := hc.2.2.1; omega, fun _ => rfl⟩
      rw [w64 (x := p + 1) (by omega) (by omega), w64 (x := p + 2) (by omega) (by omega)]
      by_cases h4 : (rd_T26 l p).f2 = (rd_T26 l (p + 1)).f2
      · refine ⟨_, Ev.bind hb (ev_pos h (ev_neg h2 (ev_neg h3 (ev_pos (by omega) (ev_pos (by omega) (ev_pos (by omega) (ev_pos (by omega) (ev_pos h4 (Ev.bind (Ev.now _) (ev_pos (by simp; omega) (Ev.bind (Ev.now _) (ev_pos (by simp; omega) (Ev.bind (a := mergeM l p.toNat) (ev_const ?_) (Ev.now _)))))))))))))), fun _ => rfl, fun hn => absurd ⟨hP, by omega, by omega, h4⟩ hn⟩
        unfold impl_Range_81.f
        rw [List.nil_append, if_pos ⟨by omega, by omega, by rw [List.length_set]; omega⟩]
        congr 1
        unfold mergeM
        rw [Int.toNat_of_nonneg (by omega), show ((p.toNat + 1 : Nat) : Int) = p + 1 by omega, show (p + 1).toNat = p.toNat + 1 by omega]
      · exact ⟨_, Ev.bind hb (ev_pos h (ev_neg h2 (ev_neg h3 (ev_pos (by omega) (ev_pos (by omega) (ev_pos (by omega) (ev_pos (by omega) (ev_neg h4 (Ev.now _))))))))), fun hc => absurd hc.2.2.2 h4, fun _ => rfl⟩
    · exact ⟨_, Ev.bind hb (ev_neg h (Ev.now _)), fun hc => absurd (hi.2 hc.1) h, fun _ => rfl⟩
  obtain ⟨r, hr, r1, r2⟩ := key
  refine ⟨r, ?_, r1, r2⟩
  unfold impl_MergeRange.f
  exact Ev.bind hr (Ev.now _)

/-- The list with the group of range k turned. -/
def moveM (l : List S26) (k : Nat) (g : Int) : List S26 := l.set k ⟨(rd_T26 l k).f0, (rd_T26 l k).f1, g⟩
theorem implMove_ev (l : List S26) (hl : l.length ≤ 1048576) (hw : ∀ x ∈ l, wfR x) (p g : Int) : ∃ r, Ev (fun k => impl_MoveRange.f k l p g) r ∧ (RangesP l ∧ 0 ≤ p ∧ p < l.length ∧ 0 ≤ g ∧ g ≤ 99 → r = (moveM l p.toNat g, true)) ∧ (¬ (RangesP l ∧ 0 ≤ p ∧ p < l.length ∧ 0 ≤ g ∧ g ≤ 99) → r = ([], false)) := by
  obtain ⟨b, hb, hi⟩ := areRanges_ev l hl hw
  unfold impl_MoveRange.f
  by_cases h : b = true
  · have hP := hi.1 h
    by_cases h1 : p < 0
    · exact ⟨_, Ev.bind hb (ev_pos h (ev_pos h1 (Ev.now _))), fun hp => by have := hp.2.1; omega, fun _ => rfl⟩
    by_cases h2 : p ≥ (l.length : Int)
    · exact ⟨_, Ev.bind hb (ev_pos h (ev_neg h1 (ev_pos h2 (Ev.now _)))), fun hp => by have := hp.2.2.1; omega, fun _ => rfl⟩
    obtain ⟨u, hu, hui⟩ := group_ev g
    by_cases h3 : u = true
    · have h3' := hui.1 h3
      refine ⟨_, Ev.bind hb (ev_pos h (ev_neg h1 (ev_neg h2 (Ev.bind (ev_const hu) (ev_pos h3 (Ev.bind (Ev.now _) (ev_pos (by simp; omega) (Ev.bind (Ev.now _) (ev_pos (by omega) (ev_pos (by simp; omega) (Ev.now _))))))))))), fun _ => ?_, fun hn => absurd ⟨hP, by omega, by omega, by omega, by omega⟩ hn⟩
      rw [List.nil_append, moveM, Int.toNat_of_nonneg (by omega)]
    · exact ⟨_, Ev.bind hb (ev_pos h (ev_neg h1 (ev_neg h2 (Ev.bind (ev_const hu) (ev_neg h3 (Ev.now _)))))), fun hp => absurd (hui.2 ⟨hp.2.2.2.1, hp.2.2.2.2⟩) h3, fun _ => rfl⟩
  · exact ⟨_, Ev.bind hb (ev_neg h (Ev.now _)), fun hp => absurd (hi.2 hp.1) h, fun _ => rfl⟩

def stepJ (out : List S26) (r : S26) : List S26 :=
  if 0 < out.length ∧ (rd_T26 out ((out.length - 1 : Nat) : Int)).f2 = r.f2 then out.set (out.length - 1) ⟨(rd_T26 out ((out.length - 1 : Nat) : Int)).f0, r.f1, (rd_T26 out ((out.length - 1 : Nat) : Int)).f2⟩ else out ++ [⟨r.f0, r.f1, r.f2⟩]
theorem stepJ_len (out : List S26) (r : S26) : (stepJ out r).length ≤ out.length + 1 := by
  unfold stepJ
  split <;> simp
theorem stepJ_pos (out : List S26) (r : S26) : 0 < (stepJ out r).length := by
  unfold stepJ
  split
  · rename_i h; rw [List.length_set]; exact h.1
  · simp
theorem foldJ_len : ∀ (l : List S26) (out : List S26), (l.foldl stepJ out).length ≤ out.length + l.length
  | [], out => by simp
  | r :: l, out => by
    have h := foldJ_len l (stepJ out r)
    have h2 := stepJ_len out r
    simp only [List.foldl_cons, List.length_cons]
    omega
theorem drop_cons_rd (l : List S26) (i : Nat) (h : i < l.length) : l.drop i = rd_T26 l (i : Int) :: l.drop (i + 1) := by
  unfold rd_T26
  rw [toNat_cast, getD_lt l i z26 h]
  exact List.drop_eq_getElem_cons h
/-- Neighbours of one group as one. -/
def joinM (l : List S26) : List S26 := l.foldl stepJ []
theorem joinM_len (l : List S26) : (joinM l).length ≤ l.length := by
  have := foldJ_len l []
  simpa [joinM] using this

theorem rd_eq (l : List S26) (j : Nat) : rd_T26 l (j : Int) = (l[j]?).getD z26 := by
  unfold rd_T26
  rw [toNat_cast, List.getD_eq_getElem?_getD]
theorem asc_lt {l : List S26} (hP : ∀ j, j < l.length → RP l j) : ∀ j i : Nat, i < j → j < l.length → (rd_T26 l i).f1 < (rd_T26 l j).f0 := by
  intro j
  induction j with
  | zero => intro i h; omega
  | succ j ih =>
    intro i hij hj
    have h := ((hP (j + 1) hj).2.2 (by omega)).2
    rw [Nat.add_sub_cancel] at h
    by_cases e : i = j
    · subst e; omega
    · have h1 := ih i (by omega) (by omega)
      have h2 := (hP j (by omega)).1
      omega
theorem bounds {l : List S26} (hP : RangesP l) (j : Nat) (hj : j < l.length) : 0 ≤ (rd_T26 l j).f0 ∧ (rd_T26 l j).f0 ≤ (rd_T26 l j).f1 ∧ (rd_T26 l j).f1 ≤ 18446744073709551615 := by
  obtain ⟨h1, h2, h3, h4, h5⟩ := hP
  have hj5 := h5 j hj
  refine ⟨?_, hj5.1, ?_⟩
  · by_cases e : j = 0
    · subst e; exact Int.le_of_eq h3.symm
    · have a := asc_lt h5 j 0 (by omega) hj
      have b := (h5 0 (by omega)).1
      have c : (rd_T26 l ((0 : Nat) : Int)).f0 = 0 := h3
      omega
  · by_cases e : j = l.length - 1
    · subst e; exact Int.le_of_eq h4
    · have a := asc_lt h5 (l.length - 1) j (by omega) (by omega)
      have b := (h5 (l.length - 1) (by omega)).1
      omega
theorem wf_of {l : List S26} (hP : RangesP l) : ∀ x ∈ l, wfR x := by
  intro x hx
  obtain ⟨j, hj, rfl⟩ := List.mem_iff_getElem.1 hx
  have := bounds hP j hj
  rw [rd_eq, List.getElem?_eq_getElem hj] at this
  exact ⟨⟨this.1, by have := this.2; simp only [Option.getD_some] at this; omega⟩, ⟨by have := this.2; have := this; simp only [Option.getD_some] at *; omega, this.2.2⟩⟩
/-- Who has an id. -/
def Own (l : List S26) (id g : Int) : Prop := ∃ j : Nat, j < l.length ∧ (rd_T26 l j).f0 ≤ id ∧ id ≤ (rd_T26 l j).f1 ∧ (rd_T26 l j).f2 = g
theorem cover_one {l : List S26} (hP : ∀ j, j < l.length → RP l j) {i j : Nat} {id : Int} (hi : i < l.length) (hj : j < l.length) (a : (rd_T26 l i).f0 ≤ id ∧ id ≤ (rd_T26 l i).f1) (b : (rd_T26 l j).f0 ≤ id ∧ id ≤ (rd_T26 l j).f1) : i = j := by
  rcases Nat.lt_trichotomy i j with h | h | h
  · have := asc_lt hP j i h hj; omega
  · exact h
  · have := asc_lt hP i j h hi; omega
theorem own_one {l : List S26} (hP : ∀ j, j < l.length → RP l j) {id g g' : Int} (a : Own l id g) (b : Own l id g') : g = g' := by
  obtain ⟨i, hi, a1, a2, a3⟩ := a
  obtain ⟨j, hj, b1, b2, b3⟩ := b
  obtain rfl := cover_one hP hi hj ⟨a1, a2⟩ ⟨b1, b2⟩
  rw [← a3, ← b3]
theorem split_rd (l : List S26) (p : Nat) (at_ g : Int) (hp : p < l.length) (j : Nat) : rd_T26 (splitM l p at_ g) j = if j < p then rd_T26 l j else if j = p then ⟨(rd_T26 l p).f0, IntKind.u64.wrap (at_ - 1), (rd_T26 l p).f2⟩ else if j = p + 1 then ⟨at_, (rd_T26 l p).f1, g⟩ else rd_T26 l (j - 1 : Nat) := by
  rw [rd_eq (splitM l p at_ g), splitM]
  have ht : (l.take p).length = p := by rw [List.length_take]; omega
  by_cases h1 : j < p
  · rw [if_pos h1, List.append_assoc, List.getElem?_append_left (by omega), List.getElem?_take_of_lt h1, ← rd_eq]
  rw [if_neg h1, List.append_assoc, List.getElem?_append_right (by omega), ht]
  by_cases h2 : j = p
  · rw [if_pos h2, h2, Nat.sub_self]; rfl
  rw [if_neg h2]
  by_cases h3 : j = p + 1
  · rw [if_pos h3, h3, show p + 1 - p = 1 by omega]; rfl
  rw [if_neg h3, List.getElem?_append_right (by simp; omega), List.getElem?_drop, rd_eq]
  congr 2
  simp
  omega
theorem split_ok (l : List S26) (p : Nat) (at_ g : Int) (hP : RangesP l) (hp : p < l.length) (h24 : l.length ≠ 24) (h1 : (rd_T26 l p).f0 < at_) (h2 : at_ ≤ (rd_T26 l p).f1) (hg : 0 ≤ g ∧ g ≤ 99) : RangesP (splitM l p at_ g) := by
  have hb := bounds hP p hp
  have hw : IntKind.u64.wrap (at_ - 1) = at_ - 1 := u64w (by omega) (by omega)
  have hlen := splitM_len l p at_ g hp
  have R := split_rd l p at_ g hp
  rw [hw] at R
  obtain ⟨k1, k2, k3, k4, k5⟩ := hP
  refine ⟨by omega, by omega, ?_, ?_, fun j hj => ?_⟩
  · have := R 0
    rw [show ((0 : Nat) : Int) = 0 from rfl] at this
    rw [this]
    by_cases e : 0 < p
    · rw [if_pos e]; exact k3
    · have : p = 0 := by omega
      subst this
      rw [if_neg (by omega), if_pos rfl]; exact k3
  · rw [R, hlen, show l.length + 1 - 1 = l.length by omega, if_neg (by omega), if_neg (by omega)]
    by_cases e : l.length = p + 1
    · rw [if_pos e]
      show (rd_T26 l p).f1 = _
      rw [← k4, show l.length - 1 = p by omega]
    · rw [if_neg e]; exact k4
  · have hR : ∀ q : Nat, q < p → RP l q := fun q hq => k5 q (by omega)
    unfold RP
    rw [R j]
    by_cases c1 : j < p
    · rw [if_pos c1]
      refine ⟨(k5 j (by omega)).1, (k5 j (by omega)).2.1, fun h0 => ?_⟩
      rw [R (j - 1), if_pos (by omega)]
      exact (k5 j (by omega)).2.2 h0
    rw [if_neg c1]
    by_cases c2 : j = p
    · rw [if_pos c2]
      subst c2
      refine ⟨by show (rd_T26 l j).f0 ≤ at_ - 1; omega, (k5 j hp).2.1, fun h0 => ?_⟩
      rw [R (j - 1), if_pos (by omega)]
      exact (k5 j hp).2.2 h0
    rw [if_neg c2]
    by_cases c3 : j = p + 1
    · rw [if_pos c3]
      refine ⟨h2, hg, fun _ => ?_⟩
      rw [R (j - 1), if_neg (by omega), if_pos (by omega)]
      exact ⟨by show at_ - 1 ≠ _; omega, by show at_ = at_ - 1 + 1; omega⟩
    rw [if_neg c3]
    have hj' : j - 1 < l.length := by omega
    refine ⟨(k5 (j - 1) hj').1, (k5 (j - 1) hj').2.1, fun _ => ?_⟩
    have hq := (k5 (j - 1) hj').2.2 (by omega)
    rw [R (j - 1), if_neg (by omega), if_neg (by omega)]
    by_cases c4 : j - 1 = p + 1
    · rw [if_pos c4]
      have : j - 1 - 1 = p := by omega
      rw [this] at hq
      exact hq
    · rw [if_neg c4]; exact hq
theorem move_rd (l : List S26) (p : Nat) (g : Int) (hp : p < l.length) (j : Nat) : rd_T26 (moveM l p g) j = if j = p then ⟨(rd_T26 l p).f0, (rd_T26 l p).f1, g⟩ else rd_T26 l j := by
  rw [rd_eq, moveM]
  by_cases h : j = p
  · subst h
    rw [if_pos rfl, List.getElem?_set_self hp]; rfl
  · rw [if_neg h, List.getElem?_set_ne (fun e => h e.symm), ← rd_eq]
theorem move_ok (l : List S26) (p : Nat) (g : Int) (hP : RangesP l) (hp : p < l.length) (hg : 0 ≤ g ∧ g ≤ 99) : RangesP (moveM l p g) := by
  have R := move_rd l p g hp
  have hlen : (moveM l p g).length = l.length := by unfold moveM; simp
  have f01 : ∀ j : Nat, (rd_T26 (moveM l p g) j).f0 = (rd_T26 l j).f0 ∧ (rd_T26 (moveM l p g) j).f1 = (rd_T26 l j).f1 := fun j => by
    rw [R j]
    by_cases h : j = p
    · rw [if_pos h, h]; exact ⟨rfl, rfl⟩
    · rw [if_neg h]; exact ⟨rfl, rfl⟩
  obtain ⟨k1, k2, k3, k4, k5⟩ := hP
  refine ⟨by omega, by omega, (f01 0).1.trans k3, by rw [hlen]; exact (f01 _).2.trans k4, fun j hj => ?_⟩
  have hj' : j < l.length := by omega
  unfold RP
  rw [(f01 j).1, (f01 j).2, (f01 (j - 1)).2]
  refine ⟨(k5 j hj').1, ?_, (k5 j hj').2.2⟩
  rw [R j]
  by_cases h : j = p
  · rw [if_pos h]; exact hg
  · rw [if_neg h]; exact (k5 j hj').2.1
theorem merge_rd (l : List S26) (p : Nat) (h : p + 1 < l.length) (j : Nat) : rd_T26 (mergeM l p) j = if j < p then rd_T26 l j else if j = p then ⟨(rd_T26 l p).f0, (rd_T26 l (p + 1 : Nat)).f1, (rd_T26 l p).f2⟩ else rd_T26 l (j + 1 : Nat) := by
  rw [rd_eq, mergeM, List.getElem?_eraseIdx]
  by_cases h1 : j < p
  · rw [if_pos h1, if_pos (by omega), List.getElem?_set_ne (by omega), ← rd_eq]
  rw [if_neg h1]
  by_cases h2 : j = p
  · subst h2
    rw [if_pos rfl, if_pos (by omega), List.getElem?_set_self (by omega)]; rfl
  · rw [if_neg h2, if_neg (by omega), List.getElem?_set_ne (by omega), ← rd_eq]
theorem merge_ok (l : List S26) (p : Nat) (hP : RangesP l) (h : p + 1 < l.length) : RangesP (mergeM l p) := by
  have R := merge_rd l p h
  have hlen := mergeM_len l p h
  obtain ⟨k1, k2, k3, k4, k5⟩ := hP
  refine ⟨by omega, by omega, ?_, ?_, fun j hj => ?_⟩
  · have := R 0
    rw [show ((0 : Nat) : Int) = 0 from rfl] at this
    rw [this]
    by_cases e : 0 < p
    · rw [if_pos e]; exact k3
    · have : p = 0 := by omega
      subst this
      rw [if_neg (by omega), if_pos rfl]; exact k3
  · rw [R, hlen, if_neg (by omega)]
    by_cases e : l.length - 1 - 1 = p
    · rw [if_pos e]
      show (rd_T26 l (p + 1 : Nat)).f1 = _
      rw [← k4, show l.length - 1 = p + 1 by omega]
    · rw [if_neg e, show l.length - 1 - 1 + 1 = l.length - 1 by omega]; exact k4
  · have hp1 := k5 (p + 1) h
    have hpp := k5 p (by omega)
    have hs := (hp1.2.2 (by omega)).2
    rw [Nat.add_sub_cancel] at hs
    unfold RP
    rw [R j]
    by_cases c1 : j < p
    · rw [if_pos c1]
      refine ⟨(k5 j (by omega)).1, (k5 j (by omega)).2.1, fun h0 => ?_⟩
      rw [R (j - 1), if_pos (by omega)]
      exact (k5 j (by omega)).2.2 h0
    rw [if_neg c1]
    by_cases c2 : j = p
    · rw [if_pos c2]
      subst c2
      refine ⟨?_, hpp.2.1, fun h0 => ?_⟩
      · show (rd_T26 l j).f0 ≤ (rd_T26 l (j + 1 : Nat)).f1
        have := hpp.1; have := hp1.1; omega
      · rw [R (j - 1), if_pos (by omega)]
        exact hpp.2.2 h0
    rw [if_neg c2]
    have hj' : j + 1 < l.length := by omega
    refine ⟨(k5 (j + 1) hj').1, (k5 (j + 1) hj').2.1, fun _ => ?_⟩
    have hq := (k5 (j + 1) hj').2.2 (by omega)
    rw [Nat.add_sub_cancel] at hq
    rw [R (j - 1), if_neg (by omega)]
    by_cases c3 : j - 1 = p
    · rw [if_pos c3]
      have : j = p + 1 := by omega
      subst this
      exact hq
    · rw [if_neg c3, show j - 1 + 1 = j by omega]; exact hq
theorem ext26 {a b : List S26} (hl : a.length = b.length) (h : ∀ j : Nat, j < a.length → rd_T26 a j = rd_T26 b j) : a = b := by
  apply List.ext_getElem hl
  intro i h1 h2
  have := h i h1
  rwa [rd_eq, rd_eq, List.getElem?_eq_getElem h1, List.getElem?_eq_getElem h2] at this
theorem merge_split (l : List S26) (p : Nat) (at_ : Int) (hp : p < l.length) : mergeM (splitM l p at_ (rd_T26 l p).f2) p = l := by
  have hlen := splitM_len l p at_ (rd_T26 l p).f2 hp
  have R := split_rd l p at_ (rd_T26 l p).f2 hp
  have M := merge_rd (splitM l p at_ (rd_T26 l p).f2) p (by omega)
  apply ext26
  · rw [mergeM_len _ _ (by omega)]; omega
  intro j hj
  rw [mergeM_len _ _ (by omega)] at hj
  rw [M j]
  by_cases h1 : j < p
  · rw [if_pos h1, R j, if_pos h1]
  rw [if_neg h1]
  by_cases h2 : j = p
  · subst h2
    rw [if_pos rfl, R j, R (j + 1), if_neg (by omega), if_pos rfl, if_neg (by omega), if_neg (by omega), if_pos rfl]
  · rw [if_neg h2, R (j + 1), if_neg (by omega), if_neg (by omega), if_neg (by omega), Nat.add_sub_cancel]

theorem and_mask (x : Int) (m : Nat) (hm : m < 9223372036854775808) : 0 ≤ Go.bits .and .i64 x (m : Int) ∧ Go.bits .and .i64 x (m : Int) ≤ m := by
  have h : (BitVec.ofInt 64 x &&& BitVec.ofInt 64 (m : Int)).toNat ≤ m := by
    rw [BitVec.toNat_and]
    refine Nat.le_trans Nat.and_le_right ?_
    rw [BitVec.ofInt_natCast, BitVec.toNat_ofNat]
    exact Nat.mod_le _ _
  obtain ⟨q, hq⟩ : ∃ q : Nat, q = (BitVec.ofInt 64 x &&& BitVec.ofInt 64 (m : Int)).toNat := ⟨_, rfl⟩
  have e : Go.bits .and .i64 x (m : Int) = IntKind.i64.wrap (q : Int) := by rw [hq]; rfl
  rw [e, IntKind.wrap_i64]
  omega
theorem u64_range (x : Int) : 0 ≤ IntKind.u64.wrap x ∧ IntKind.u64.wrap x ≤ 18446744073709551615 := by
  simp only [IntKind.wrap, IntKind.signed, IntKind.bits]
  simp
  omega
theorem byte_ev (b : List Int) (hb : b.length ≤ 1048576) (i h : Int) (h0 : 0 ≤ i) : ∃ x i' h', spec_l01Byte.f b i h = some (x, i', h') ∧ 0 ≤ i' ∧ 0 ≤ x ∧ x ≤ 255 := by
  unfold spec_l01Byte.f
  by_cases hi : i < (b.length : Int)
  · rw [if_pos hi, if_pos h0]
    have := and_mask
    exact ⟨_, _, _, rfl, by rw [w64 (by omega) (by omega)]; omega, (and_mask _ 255 (by decide)).1, (and_mask _ 255 (by decide)).2⟩
  · rw [if_neg hi]
    exact ⟨_, _, _, rfl, h0, (and_mask _ 255 (by decide)).1, (and_mask _ 255 (by decide)).2⟩
theorem below_ev (b : List Int) (hb : b.length ≤ 1048576) (i h n : Int) (h0 : 0 ≤ i) : ∃ x i' h', spec_l01Below.f b i h n = some (x, i', h') ∧ 0 ≤ i' ∧ 0 ≤ x ∧ (0 < n → x < n) ∧ (n ≤ 0 → x = 0) := by
  unfold spec_l01Below.f
  by_cases h1 : n ≤ 0
  · rw [if_pos h1]
    exact ⟨0, i, h, rfl, h0, by omega, by omega, fun _ => rfl⟩
  rw [if_neg h1]
  by_cases h2 : n ≤ 256
  · rw [if_pos h2]
    obtain ⟨x, i', h', e, g0, g1, g2⟩ := byte_ev b hb i h h0
    rw [e]
    simp only [Option.bind_some]
    rw [if_neg (by omega)]
    exact ⟨_, _, _, rfl, g0, Int.tmod_nonneg _ g1, fun _ => Int.tmod_lt_of_pos _ (by omega), fun h => by omega⟩
  · rw [if_neg h2]
    obtain ⟨x, i1, h1', e1, g0, g1, g2⟩ := byte_ev b hb i h h0
    obtain ⟨y, i2, h2', e2, k0, k1, k2⟩ := byte_ev b hb i1 h1' g0
    obtain ⟨z, i3, h3', e3, m0, m1, m2⟩ := byte_ev b hb i2 h2' k0
    rw [e1]
    simp only [Option.bind_some]
    rw [e2]
    simp only [Option.bind_some]
    rw [e3]
    simp only [Option.bind_some]
    rw [if_neg (by omega)]
    have w1 : wrap64 (x * 65536) = x * 65536 := w64 (by omega) (by omega)
    have w2 : wrap64 (y * 256) = y * 256 := w64 (by omega) (by omega)
    have w3 : wrap64 (x * 65536 + y * 256) = x * 65536 + y * 256 := w64 (by omega) (by omega)
    have w4 : wrap64 (x * 65536 + y * 256 + z) = x * 65536 + y * 256 + z := w64 (by omega) (by omega)
    rw [w1, w2, w3, w4]
    exact ⟨_, _, _, rfl, m0, Int.tmod_nonneg _ (by omega), fun _ => Int.tmod_lt_of_pos _ (by omega), fun h => by omega⟩

theorem size_ev (l : List Int) (hl : l.length ≤ 1048576) (m : Int) : ∃ n, spec_l01Size.f l m = some n ∧ n ≤ m ∧ (0 ≤ m → 0 ≤ n) := by
  unfold spec_l01Size.f
  rw [w64 (x := (l.length : Int) / 16) (by omega) (by omega), w64 (x := 2 + (l.length : Int) / 16) (by omega) (by omega)]
  by_cases h : 2 + (l.length : Int) / 16 > m
  · rw [if_pos h]; exact ⟨m, rfl, by omega, fun h => h⟩
  · rw [if_neg h]; exact ⟨_, rfl, by omega, fun _ => by omega⟩

theorem once_ev (b : List Int) (hb : b.length ≤ 1048576) (i h n : Int) (h0 : 0 ≤ i) : ∃ x i' h', spec_l01Once.f b i h n = some (x, i', h') ∧ 0 ≤ i' := by
  obtain ⟨x, i', h', e, g0, _⟩ := below_ev b hb i h n h0
  unfold spec_l01Once.f
  rw [e]
  exact ⟨_, _, _, rfl, g0⟩

theorem new_l (l : List Int) (hl : l.length ≤ 1048576) (d : Nat) : ∀ (i : Nat) (h : Int), l.length = i + d → ∃ h', Ev (fun k => spec_l01New.l0 k l h i) (l, 0, h') := by
  induction d with
  | zero =>
    intro i h hd
    refine ⟨h, ?_⟩
    refine Ev.step (fun k => by rw [spec_l01New.l0]) ?_
    exact ev_neg (by omega) (Ev.now _)
  | succ d ih =>
    intro i h hd
    by_cases h4 : (i : Int) < 4000
    · obtain ⟨h', hh⟩ := ih (i + 1) (Go.bits .and .i64 (wrap64 ((wrap64 ((wrap64 (h * 149)) + (wrap64 (rd l i)))) + 11)) 1073741823) (by omega)
      refine ⟨h', ?_⟩
      refine Ev.step (fun k => by rw [spec_l01New.l0]) ?_
      rw [wsucc (n := l.length) (by omega) (by omega)]
      exact ev_pos (by omega) (ev_pos h4 (ev_pos (by omega) hh))
    · refine ⟨h, ?_⟩
      refine Ev.step (fun k => by rw [spec_l01New.l0]) ?_
      exact ev_pos (by omega) (ev_neg h4 (Ev.now _))
theorem new_ev (l : List Int) (hl : l.length ≤ 1048576) : ∃ h, Ev (fun k => spec_l01New.f k l) (l, 0, h) := by
  obtain ⟨h, hh⟩ := new_l l hl l.length 0 (wrap64 (138138 + (l.length : Int))) (by omega)
  exact ⟨h, hh⟩

theorem drawAt_ev (b : List Int) (hb : b.length ≤ 1048576) (i h : Int) (h0 : 0 ≤ i) : ∃ x i' h', spec_l11DrawAt.f b i h = some (x, i', h') ∧ 0 ≤ i' ∧ 0 ≤ x ∧ x ≤ 18446744073709551615 := by
  obtain ⟨q, i1, h1, e, g0, g1, g2, _⟩ := below_ev b hb i h 10 h0
  have g3 := g2 (by decide)
  unfold spec_l11DrawAt.f
  simp only [Option.bind_some]
  rw [e]
  simp only [Option.bind_some]
  rw [if_pos g1, if_pos (by show q < 10; exact g3)]
  refine ⟨_, _, _, rfl, g0, ?_⟩
  have hm : rd [0, 1, 2, 6, 10, 101, 9223372036854775808, 18446744073709551615, 18446744073709551614, 50] q ∈ ([0, 1, 2, 6, 10, 101, 9223372036854775808, 18446744073709551615, 18446744073709551614, 50] : List Int) := by
    unfold rd
    exact getD_mem _ _ _ (by show q.toNat < 10; omega)
  generalize rd [0, 1, 2, 6, 10, 101, 9223372036854775808, 18446744073709551615, 18446744073709551614, 50] q = x at hm
  simp only [List.mem_cons, List.not_mem_nil, or_false] at hm
  omega
theorem drawRight_l (b : List Int) (hb : b.length ≤ 1048576) (d : Nat) : ∀ (l : List S26) (n i h : Int), 0 ≤ i → n = d → d ≤ 100 → RangesP l → ∃ l' i' h', Ev (fun k => spec_l11DrawRight.l0 k l n b i h) (l', i', h') ∧ 0 ≤ i' ∧ RangesP l' := by
  induction d with
  | zero =>
    intro l n i h h0 hn hd hP
    refine ⟨l, i, h, ?_, h0, hP⟩
    refine Ev.step (fun k => by rw [spec_l11DrawRight.l0]) ?_
    exact ev_neg (by omega) (Ev.now _)
  | succ d ih =>
    intro l n i h h0 hn hd hP
    have hl := hP.2.1
    have hw := wf_of hP
    obtain ⟨at_, i1, h1, e1, g1, a0, a1⟩ := drawAt_ev b hb i h h0
    obtain ⟨g, i2, h2, e2, g2, b0, b1, _⟩ := below_ev b hb i1 h1 3 g1
    have b1' := b1 (by decide)
    obtain ⟨r, e3, s1, s2⟩ := specSplit_ev l (by omega) hw at_ g a0 a1
    obtain ⟨o, i3, h3, e4, g3⟩ := once_ev b hb i2 h2 4 g2
    have hn1 : wrap64 (n - 1) = n - 1 := w64 (by omega) (by omega)
    have hr : r.2 = true → RangesP r.1 := fun hr => by
      by_cases c : SplitC l at_ g
      · rw [s1 c]
        obtain ⟨p, hp, he, p1, p2, _⟩ := find_at l hP at_ a0 a1
        have c2 := c.2.1
        rw [he] at c2 ⊢
        rw [toNat_cast]
        exact split_ok l p at_ g hP hp c.2.2.2 (by omega) p2 c.2.2.1
      · rw [s2 c] at hr; cases hr
    by_cases ho : o = true
    · obtain ⟨p, i4, h4, e5, g4, c0, c1, _⟩ := below_ev b hb i3 h3 l.length g3
      have c1' := c1 (by have := hP.1; omega)
      obtain ⟨m, e6, m1, m2⟩ := specMerge_ev l (by omega) hw p
      by_cases hm : m.2 = true
      · have hPm : RangesP m.1 := by
          by_cases c : MergeC l p
          · rw [m1 c]
            exact merge_ok l p.toNat hP (by have := c.2.1; have := c.2.2.1; omega)
          · rw [m2 c] at hm; cases hm
        obtain ⟨l', i', h', q1, q2, q3⟩ := ih m.1 (n - 1) i4 h4 g4 (by omega) (by omega) hPm
        refine ⟨l', i', h', ?_, q2, q3⟩
        refine Ev.step (fun k => by rw [spec_l11DrawRight.l0]) ?_
        rw [hn1]
        exact ev_pos (by omega) (Ev.bind (ev_const e1) (Ev.bind (ev_const e2) (Ev.bind e3 (Ev.bind (ev_const e4) (ev_pos ho (Ev.bind (ev_const e5) (Ev.bind e6 (ev_pos hm q1))))))))
      · obtain ⟨l', i', h', q1, q2, q3⟩ := ih l (n - 1) i4 h4 g4 (by omega) (by omega) hP
        refine ⟨l', i', h', ?_, q2, q3⟩
        refine Ev.step (fun k => by rw [spec_l11DrawRight.l0]) ?_
        rw [hn1]
        exact ev_pos (by omega) (Ev.bind (ev_const e1) (Ev.bind (ev_const e2) (Ev.bind e3 (Ev.bind (ev_const e4) (ev_pos ho (Ev.bind (ev_const e5) (Ev.bind e6 (ev_neg hm q1))))))))
    · by_cases hm : r.2 = true
      · obtain ⟨l', i', h', q1, q2, q3⟩ := ih r.1 (n - 1) i3 h3 g3 (by omega) (by omega) (hr hm)
        refine ⟨l', i', h', ?_, q2, q3⟩
        refine Ev.step (fun k => by rw [spec_l11DrawRight.l0]) ?_
        rw [hn1]
        exact ev_pos (by omega) (Ev.bind (ev_const e1) (Ev.bind (ev_const e2) (Ev.bind e3 (Ev.bind (ev_const e4) (ev_neg ho (ev_pos hm q1))))))
      · obtain ⟨l', i', h', q1, q2, q3⟩ := ih l (n - 1) i3 h3 g3 (by omega) (by omega) hP
        refine ⟨l', i', h', ?_, q2, q3⟩
        refine Ev.step (fun k => by rw [spec_l11DrawRight.l0]) ?_
        rw [hn1]
        exact ev_pos (by omega) (Ev.bind (ev_const e1) (Ev.bind (ev_const e2) (Ev.bind e3 (Ev.bind (ev_const e4) (ev_neg ho (ev_neg hm q1))))))
theorem one_ok (g : Int) (h : 0 ≤ g ∧ g ≤ 99) : RangesP [⟨0, 18446744073709551615, g⟩] := by
  refine ⟨by simp, by simp, rfl, rfl, fun j hj => ?_⟩
  obtain rfl : j = 0 := by simpa using hj
  exact ⟨by show (0 : Int) ≤ 18446744073709551615; omega, h, fun q => by omega⟩
theorem drawRanges_ev (l : List Int) (hl : l.length ≤ 1048576) : ∃ (x : List S26) (id g : Int), Ev (fun k => spec_DrawRightRanges.f k l) (x, id, g) ∧ RangesP x ∧ (0 ≤ id ∧ id ≤ 18446744073709551615) ∧ (0 ≤ g ∧ g ≤ 99) := by
  obtain ⟨h, e0⟩ := new_ev l hl
  obtain ⟨g0, i1, h1, e1, k1, a0, a1, _⟩ := below_ev l hl 0 h 3 (by omega)
  have a1' := a1 (by decide)
  obtain ⟨n, e2, n1, n2⟩ := size_ev l hl 9
  have n3 := n2 (by omega)
  obtain ⟨y, i2, h2, e3, k2, b0, b1, b2⟩ := below_ev l hl i1 h1 n k1
  have hy : y ≤ 9 := by
    by_cases q : 0 < n
    · have := b1 q; omega
    · have := b2 (by omega); omega
  obtain ⟨x, i3, h3, e4, k3, hP⟩ := drawRight_l l hl y.toNat [⟨0, 18446744073709551615, g0⟩] y i2 h2 k2 (by omega) (by omega) (one_ok g0 ⟨a0, by omega⟩)
  obtain ⟨id, i4, h4, e5, k4, c0, c1⟩ := drawAt_ev l hl i3 h3 k3
  obtain ⟨g, i5, h5, e6, k5, d0, d1, _⟩ := below_ev l hl i4 h4 3 k4
  have d1' := d1 (by decide)
  refine ⟨x, id, g, ?_, hP, ⟨c0, c1⟩, ⟨d0, by omega⟩⟩
  have hR : Ev (fun k => spec_l11DrawRight.f k l 0 h l) (x, i3, h3) := Ev.bind (ev_const e1) (Ev.bind (ev_const e2) (Ev.bind (ev_const e3) e4))
  exact Ev.bind e0 (Ev.bind hR (Ev.bind (ev_const e5) (Ev.bind (ev_const e6) (Ev.now _))))

theorem rd_take26 (l : List S26) (i j : Nat) (h : j < i) : rd_T26 (l.take i) j = rd_T26 l j := by
  rw [rd_eq, rd_eq, List.getElem?_take_of_lt h]
theorem rd_set26 (l : List S26) (i j : Nat) (v : S26) (hi : i < l.length) : rd_T26 (l.set i v) j = if j = i then v else rd_T26 l j := by
  rw [rd_eq, rd_eq]
  by_cases h : j = i
  · subst h; rw [if_pos rfl, List.getElem?_set_self hi]; rfl
  · rw [if_neg h, List.getElem?_set_ne (fun e => h e.symm)]
theorem rd_snoc26 (l : List S26) (v : S26) (j : Nat) : rd_T26 (l ++ [v]) j = if j < l.length then rd_T26 l j else if j = l.length then v else z26 := by
  rw [rd_eq, rd_eq]
  by_cases h : j < l.length
  · rw [if_pos h, List.getElem?_append_left h]
  · rw [if_neg h, List.getElem?_append_right (by omega)]
    by_cases e : j = l.length
    · rw [if_pos e, e, Nat.sub_self]; rfl
    · rw [if_neg e, List.getElem?_eq_none (by simp; omega)]; rfl
/-- What is joined of the first i ranges. -/
structure JI (l : List S26) (i : Nat) (o : List S26) : Prop where
  pos : 0 < o.length
  len : o.length ≤ i
  lo0 : (rd_T26 o ((0 : Nat) : Int)).f0 = 0
  rp : ∀ j : Nat, j < o.length → (rd_T26 o j).f0 ≤ (rd_T26 o j).f1 ∧ (0 ≤ (rd_T26 o j).f2 ∧ (rd_T26 o j).f2 ≤ 99) ∧ (0 < j → ((rd_T26 o (j - 1 : Nat)).f1 ≠ 18446744073709551615 ∧ (rd_T26 o j).f0 = (rd_T26 o (j - 1 : Nat)).f1 + 1) ∧ (rd_T26 o (j - 1 : Nat)).f2 ≠ (rd_T26 o j).f2)
  hi : (rd_T26 o (o.length - 1 : Nat)).f1 = (rd_T26 l (i - 1 : Nat)).f1
  gr : (rd_T26 o (o.length - 1 : Nat)).f2 = (rd_T26 l (i - 1 : Nat)).f2
  own : ∀ id g, Own (l.take i) id g → Own o id g
theorem own_succ {l : List S26} {i : Nat} (hi : i < l.length) {id g : Int} (h : Own (l.take (i + 1)) id g) : Own (l.take i) id g ∨ ((rd_T26 l i).f0 ≤ id ∧ id ≤ (rd_T26 l i).f1 ∧ (rd_T26 l i).f2 = g) := by
  obtain ⟨j, hj, h1⟩ := h
  rw [List.length_take] at hj
  rw [rd_take26 l (i + 1) j (by omega)] at h1
  by_cases e : j = i
  · subst e; exact .inr h1
  · refine .inl ⟨j, by rw [List.length_take]; omega, ?_⟩
    rw [rd_take26 l i j (by omega)]; exact h1
theorem ji_step {l : List S26} (hP : ∀ j, j < l.length → RP l j) {i : Nat} {o : List S26} (hi : i < l.length) (h0 : 0 < i) (J : JI l i o) : JI l (i + 1) (stepJ o (rd_T26 l i)) := by
  obtain ⟨pos, len, lo0, rp, hhi, gr, own⟩ := J
  have r := hP i hi
  have r3 := r.2.2 h0
  have hlast := rp (o.length - 1) (by omega)
  rw [hhi] at hlast
  have hl1 := hlast.1
  have r31 := r3.2
  have r11 := r.1
  unfold stepJ
  by_cases c : 0 < o.length ∧ (rd_T26 o ((o.length - 1 : Nat) : Int)).f2 = (rd_T26 l i).f2
  · rw [if_pos c]
    obtain ⟨v, hv⟩ : ∃ v : S26, v = ⟨(rd_T26 o ((o.length - 1 : Nat) : Int)).f0, (rd_T26 l i).f1, (rd_T26 o ((o.length - 1 : Nat) : Int)).f2⟩ := ⟨_, rfl⟩
    rw [← hv]
    have v0 : v.f0 = (rd_T26 o ((o.length - 1 : Nat) : Int)).f0 := by rw [hv]
    have v1 : v.f1 = (rd_T26 l i).f1 := by rw [hv]
    have v2 : v.f2 = (rd_T26 o ((o.length - 1 : Nat) : Int)).f2 := by rw [hv]
    have R := fun j => rd_set26 o (o.length - 1) j v (by omega)
    have hlen : (o.set (o.length - 1) v).length = o.length := by simp
    refine ⟨by omega, by omega, ?_, fun j hj => ?_, ?_, ?_, fun id g hO => ?_⟩
    · rw [R 0]
      by_cases e : 0 = o.length - 1
      · rw [if_pos e, v0, ← e]; exact lo0
      · rw [if_neg e]; exact lo0
    · rw [hlen] at hj
      have q := rp j hj
      by_cases e : j = o.length - 1
      · rw [R j, if_pos e, v0, v1, v2]
        subst e
        refine ⟨by omega, q.2.1, fun h => ?_⟩
        rw [R (o.length - 1 - 1), if_neg (by omega)]
        exact q.2.2 h
      · rw [R j, if_neg e]
        refine ⟨q.1, q.2.1, fun h => ?_⟩
        rw [R (j - 1), if_neg (by omega)]
        exact q.2.2 h
    · rw [hlen, R, if_pos rfl, v1]; rfl
    · rw [hlen, R, if_pos rfl, v2, c.2]; rfl
    · rcases own_succ hi hO with h | ⟨a1, a2, a3⟩
      · obtain ⟨j, hj, b1, b2, b3⟩ := own id g h
        refine ⟨j, by omega, ?_⟩
        by_cases e : j = o.length - 1
        · rw [R j, if_pos e, v0, v1, v2]
          subst e
          rw [hhi] at b2
          exact ⟨b1, by have := r.1; omega, b3⟩
        · rw [R j, if_neg e]; exact ⟨b1, b2, b3⟩
      · refine ⟨o.length - 1, by omega, ?_⟩
        rw [R, if_pos rfl, v0, v1, v2]
        exact ⟨by omega, a2, by rw [c.2]; exact a3⟩
  · rw [if_neg c]
    have hne : (rd_T26 o ((o.length - 1 : Nat) : Int)).f2 ≠ (rd_T26 l i).f2 := fun e => c ⟨pos, e⟩
    obtain ⟨v, hv⟩ : ∃ v : S26, v = ⟨(rd_T26 l i).f0, (rd_T26 l i).f1, (rd_T26 l i).f2⟩ := ⟨_, rfl⟩
    rw [← hv]
    have v0 : v.f0 = (rd_T26 l i).f0 := by rw [hv]
    have v1 : v.f1 = (rd_T26 l i).f1 := by rw [hv]
    have v2 : v.f2 = (rd_T26 l i).f2 := by rw [hv]
    have R := fun j => rd_snoc26 o v j
    have hlen : (o ++ [v]).length = o.length + 1 := by simp
    refine ⟨by omega, by omega, ?_, fun j hj => ?_, ?_, ?_, fun id g hO => ?_⟩
    · rw [R 0, if_pos pos]; exact lo0
    · rw [hlen] at hj
      by_cases e : j < o.length
      · have q := rp j e
        rw [R j, if_pos e]
        refine ⟨q.1, q.2.1, fun h => ?_⟩
        rw [R (j - 1), if_pos (by omega)]
        exact q.2.2 h
      · obtain rfl : j = o.length := by omega
        rw [R o.length, if_neg e, if_pos rfl, v0, v1, v2]
        refine ⟨r.1, r.2.1, fun h => ?_⟩
        rw [R (o.length - 1), if_pos (by omega), hhi]
        exact ⟨r3, hne⟩
    · rw [hlen, Nat.add_sub_cancel, R, if_neg (by omega), if_pos rfl, v1]; rfl
    · rw [hlen, Nat.add_sub_cancel, R, if_neg (by omega), if_pos rfl, v2]; rfl
    · rcases own_succ hi hO with h | h
      · obtain ⟨j, hj, b⟩ := own id g h
        refine ⟨j, by omega, ?_⟩
        rw [R j, if_pos hj]; exact b
      · refine ⟨o.length, by omega, ?_⟩
        rw [R, if_neg (by omega), if_pos rfl, v0, v1, v2]; exact h
theorem ji_all (l : List S26) (hP : RangesP l) : ∀ i : Nat, 0 < i → i ≤ l.length → JI l i ((l.take i).foldl stepJ []) := by
  have k5 := hP.2.2.2.2
  intro i
  induction i with
  | zero => intro h; omega
  | succ i ih =>
    intro _ hi
    rw [take_succ_getD l i z26 (by omega), List.foldl_append, show l.getD i z26 = rd_T26 l (i : Int) by unfold rd_T26; rw [toNat_cast]]
    show JI l (i + 1) (stepJ ((l.take i).foldl stepJ []) (rd_T26 l i))
    by_cases e : i = 0
    · subst e
      have r := k5 0 (by omega)
      have hs : stepJ ((l.take 0).foldl stepJ []) (rd_T26 l ((0 : Nat) : Int)) = [rd_T26 l ((0 : Nat) : Int)] := by
        unfold stepJ
        rw [if_neg (by simp)]
        rfl
      rw [hs]
      have R : ∀ v : S26, rd_T26 [v] ((0 : Nat) : Int) = v := fun v => rfl
      refine ⟨by simp, by simp, ?_, fun j hj => ?_, ?_, ?_, fun id g hO => ?_⟩
      · rw [R]; exact hP.2.2.1
      · obtain rfl : j = 0 := by simpa using hj
        rw [R]
        exact ⟨r.1, r.2.1, fun h => absurd h (by omega)⟩
      · show (rd_T26 [rd_T26 l ((0 : Nat) : Int)] ((0 : Nat) : Int)).f1 = _
        rw [R]
      · show (rd_T26 [rd_T26 l ((0 : Nat) : Int)] ((0 : Nat) : Int)).f2 = _
        rw [R]
      · rcases own_succ (by omega) hO with h | h
        · obtain ⟨j, hj, _⟩ := h
          simp at hj
        · refine ⟨0, by simp, ?_⟩
          rw [R]; exact h
    · exact ji_step k5 (by omega) (by omega) (ih (by omega) (by omega))
theorem ji_join (l : List S26) (hP : RangesP l) : JI l l.length (joinM l) := by
  have := ji_all l hP l.length (by have := hP.1; omega) (Nat.le_refl _)
  rwa [List.take_of_length_le (Nat.le_refl _)] at this
theorem join_ok (l : List S26) (hP : RangesP l) : RangesP (joinM l) := by
  have J := ji_join l hP
  have := J.pos
  have := J.len
  have := hP.2.1
  exact ⟨by omega, by omega, J.lo0, J.hi.trans hP.2.2.2.1, fun j hj => ⟨(J.rp j hj).1, (J.rp j hj).2.1, fun h => ((J.rp j hj).2.2 h).1⟩⟩
theorem join_own (l : List S26) (hP : RangesP l) {id g : Int} (h : Own l id g) : Own (joinM l) id g := by
  refine (ji_join l hP).own id g ?_
  rwa [List.take_of_length_le (Nat.le_refl _)]
theorem join_id (o : List S26) (h : ∀ j : Nat, 0 < j → j < o.length → (rd_T26 o (j - 1 : Nat)).f2 ≠ (rd_T26 o j).f2) : joinM o = o := by
  have key : ∀ i : Nat, i ≤ o.length → (o.take i).foldl stepJ [] = o.take i := by
    intro i
    induction i with
    | zero => intro _; rfl
    | succ i ih =>
      intro hi
      rw [take_succ_getD o i z26 (by omega), List.foldl_append, ih (by omega), show o.getD i z26 = rd_T26 o (i : Int) by unfold rd_T26; rw [toNat_cast]]
      show stepJ (o.take i) (rd_T26 o i) = _
      unfold stepJ
      rw [if_neg]
      rintro ⟨h1, h2⟩
      have hl : (o.take i).length = i := by rw [List.length_take]; omega
      rw [hl] at h1 h2
      rw [rd_take26 o i (i - 1) (by omega)] at h2
      exact h i h1 (by omega) h2
  have := key o.length (Nat.le_refl _)
  rw [List.take_of_length_le (Nat.le_refl _)] at this
  exact this
theorem join_join (l : List S26) (hP : RangesP l) : joinM (joinM l) = joinM l :=
  join_id _ fun j h0 hj => (((ji_join l hP).rp j hj).2.2 h0).2
theorem step_two (X : List S26) (lo a b hi g : Int) : stepJ (stepJ X ⟨lo, a, g⟩) ⟨b, hi, g⟩ = stepJ X ⟨lo, hi, g⟩ := by
  by_cases c : 0 < X.length ∧ (rd_T26 X ((X.length - 1 : Nat) : Int)).f2 = g
  · have e1 : stepJ X ⟨lo, a, g⟩ = X.set (X.length - 1) ⟨(rd_T26 X ((X.length - 1 : Nat) : Int)).f0, a, (rd_T26 X ((X.length - 1 : Nat) : Int)).f2⟩ := by unfold stepJ; rw [if_pos c]
    have e2 : stepJ X ⟨lo, hi, g⟩ = X.set (X.length - 1) ⟨(rd_T26 X ((X.length - 1 : Nat) : Int)).f0, hi, (rd_T26 X ((X.length - 1 : Nat) : Int)).f2⟩ := by unfold stepJ; rw [if_pos c]
    rw [e1, e2]
    unfold stepJ
    have R := rd_set26 X (X.length - 1) (X.length - 1) ⟨(rd_T26 X ((X.length - 1 : Nat) : Int)).f0, a, (rd_T26 X ((X.length - 1 : Nat) : Int)).f2⟩ (by omega)
    rw [if_pos rfl] at R
    rw [List.length_set, R, if_pos ⟨c.1, c.2⟩, List.set_set]
  · have e1 : stepJ X ⟨lo, a, g⟩ = X ++ [⟨lo, a, g⟩] := by unfold stepJ; rw [if_neg c]
    have e2 : stepJ X ⟨lo, hi, g⟩ = X ++ [⟨lo, hi, g⟩] := by unfold stepJ; rw [if_neg c]
    rw [e1, e2]
    unfold stepJ
    have R := rd_snoc26 X ⟨lo, a, g⟩ X.length
    rw [if_neg (by omega), if_pos rfl] at R
    have hl : (X ++ [(⟨lo, a, g⟩ : S26)]).length - 1 = X.length := by simp
    rw [hl, R, if_pos ⟨by simp, rfl⟩, List.set_append_right _ _ (Nat.le_refl _), Nat.sub_self]
    rfl
theorem join_split (l : List S26) (p : Nat) (at_ : Int) (hp : p < l.length) : joinM (splitM l p at_ (rd_T26 l p).f2) = joinM l := by
  unfold joinM splitM
  rw [List.foldl_append, List.foldl_append]
  show (l.drop (p + 1)).foldl stepJ (stepJ (stepJ ((l.take p).foldl stepJ []) ⟨(rd_T26 l p).f0, IntKind.u64.wrap (at_ - 1), (rd_T26 l p).f2⟩) ⟨at_, (rd_T26 l p).f1, (rd_T26 l p).f2⟩) = _
  rw [step_two]
  conv => rhs; rw [← List.take_append_drop p l, List.foldl_append, drop_rd l p hp]
  rfl
theorem join_move (l : List S26) (p : Nat) (g : Int) (hP : RangesP l) (hp : p < l.length) (hg : 0 ≤ g ∧ g ≤ 99) : joinM l = joinM (moveM l p g) ↔ (rd_T26 l p).f2 = g := by
  constructor
  · intro h
    have hM := move_ok l p g hP hp hg
    have hb := bounds hP p hp
    have R := move_rd l p g hp p
    rw [if_pos rfl] at R
    have a : Own l (rd_T26 l p).f0 (rd_T26 l p).f2 := ⟨p, hp, Int.le_refl _, hb.2.1, rfl⟩
    have b : Own (moveM l p g) (rd_T26 l p).f0 g := ⟨p, by unfold moveM; simpa using hp, by rw [R]; exact Int.le_refl _, by rw [R]; exact hb.2.1, by rw [R]⟩
    have a' := join_own l hP a
    have b' := join_own _ hM b
    rw [← h] at b'
    exact own_one (join_ok l hP).2.2.2.2 a' b'
  · intro h
    have : moveM l p g = l := by
      apply ext26 (by unfold moveM; simp)
      intro j hj
      rw [move_rd l p g hp j]
      by_cases e : j = p
      · rw [if_pos e, e, ← h]
      · rw [if_neg e]
    rw [this]

theorem implFind_ev (l : List S26) (hl : l.length ≤ 1048576) (hw : ∀ x ∈ l, wfR x) (id : Int) : ∃ r, Ev (fun k => impl_FindRange.f k l id) r ∧ (RangesP l → r = findM l id) ∧ (¬ RangesP l → r = -1) := by
  obtain ⟨b, hb, hi⟩ := areRanges_ev l hl hw
  unfold impl_FindRange.f
  by_cases h : b = true
  · exact ⟨_, Ev.bind hb (ev_pos h (Ev.bind (ev_const (by unfold impl_findRange.f; rfl)) (Ev.now _))), fun _ => rfl, fun h' => absurd (hi.1 h) h'⟩
  · exact ⟨_, Ev.bind hb (ev_neg h (Ev.now _)), fun hP => absurd (hi.2 hP) h, fun _ => rfl⟩

theorem implJoined_l (l : List S26) (hl : l.length ≤ 1048576) (d : Nat) : ∀ (i : Nat) (out : List S26), l.length = i + d → out.length ≤ i → Ev (fun k => impl_joined.l0 k out l (l.length : Int) i) ((l.drop i).foldl stepJ out) := by
  induction d with
  | zero =>
    intro i out hd ho
    refine Ev.step (fun k => by rw [impl_joined.l0]) ?_
    refine ev_neg (by omega) ?_
    rw [List.drop_of_length_le (by omega)]
    exact Ev.now _
  | succ d ih =>
    intro i out hd ho
    rw [drop_cons_rd l i (by omega), List.foldl_cons]
    refine Ev.step (fun k => by rw [impl_joined.l0]) ?_
    refine ev_pos (by omega) (ev_pos (by omega) (ev_pos (by omega) ?_))
    rw [wsucc (n := l.length) (by omega) (by omega)]
    have hs := stepJ_len out (rd_T26 l i)
    have := ih (i + 1) (stepJ out (rd_T26 l i)) (by omega) (by omega)
    by_cases h0 : 0 < out.length
    · rw [wpred h0 (by omega)]
      refine ev_pos (by omega) (ev_pos (by omega) (ev_pos (by omega) ?_))
      by_cases h1 : (rd_T26 out ((out.length - 1 : Nat) : Int)).f2 = (rd_T26 l i).f2
      · refine ev_pos h1 ?_
        rw [stepJ, if_pos ⟨h0, h1⟩] at this
        rw [toNat_cast, stepJ, if_pos ⟨h0, h1⟩]
        exact this
      · refine ev_neg h1 (ev_pos (by omega) ?_)
        rw [stepJ, if_neg (fun h => h1 h.2)] at this
        rw [stepJ, if_neg (fun h => h1 h.2)]
        exact this
    · have e : out.length = 0 := by omega
      refine ev_neg (by rw [e]; unfold wrap64; omega) (ev_pos (by omega) ?_)
      rw [stepJ, if_neg (fun h => h0 h.1)] at this
      rw [stepJ, if_neg (fun h => h0 h.1)]
      exact this
theorem implJoined_ev (l : List S26) (hl : l.length ≤ 1048576) : Ev (fun k => impl_joined.f k l) (joinM l) := by
  have := implJoined_l l hl l.length 0 [] (by omega) (by simp)
  rw [List.drop_zero] at this
  exact this

theorem neR (a b : S26) : ((!(a.f0 == b.f0) || (!(a.f1 == b.f1) || (!(a.f2 == b.f2)))) = true) ↔ a ≠ b := by
  obtain ⟨a0, a1, a2⟩ := a
  obtain ⟨b0, b1, b2⟩ := b
  by_cases h0 : a0 = b0
  · by_cases h1 : a1 = b1
    · by_cases h2 : a2 = b2
      · simp [h0, h1, h2]
      · simp [h2]
    · simp [h1]
  · simp [h0]
theorem ext_rd {a b : List S26} (h : a.length = b.length) (he : ∀ j : Nat, j < a.length → rd_T26 a j = rd_T26 b j) : a = b := by
  apply List.ext_getElem h
  intro i h1 h2
  have := he i h1
  unfold rd_T26 at this
  rwa [toNat_cast, getD_lt _ _ _ h1, getD_lt _ _ _ h2] at this
theorem rangeEq_l (a b : List S26) (hl : a.length ≤ 1048576) (he : a.length = b.length) (d : Nat) : ∀ (i : Nat), a.length = i + d → ∃ t, Ev (fun k => impl_Range_66.l0 k a b (a.length : Int) i) t ∧ (t = true ↔ ∀ j : Nat, i ≤ j → j < a.length → rd_T26 a j = rd_T26 b j) := by
  induction d with
  | zero =>
    intro i hd
    refine ⟨true, ?_, ⟨fun _ j h1 h2 => by omega, fun _ => rfl⟩⟩
    refine Ev.step (fun k => by rw [impl_Range_66.l0]) ?_
    exact ev_neg (by omega) (Ev.now _)
  | succ d ih =>
    intro i hd
    by_cases h : rd_T26 a i = rd_T26 b i
    · obtain ⟨t, ht, hi⟩ := ih (i + 1) (by omega)
      refine ⟨t, ?_, ?_⟩
      · refine Ev.step (fun k => by rw [impl_Range_66.l0]) ?_
        refine ev_pos (by omega) (ev_pos (by omega) (ev_pos (by omega) (ev_pos (by omega) (ev_neg ?_ ?_))))
        · rw [neR]; exact fun hn => hn h
        · rw [wsucc (n := a.length) (by omega) (by omega)]; exact ht
      · rw [hi]
        refine ⟨fun h' j h1 h2 => ?_, fun h' j h1 h2 => h' j (by omega) h2⟩
        by_cases e : j = i
        · subst e; exact h
        · exact h' j (by omega) h2
    · refine ⟨false, ?_, ⟨fun h => (by cases h), fun h' => absurd (h' i (Nat.le_refl _) (by omega)) h⟩⟩
      refine Ev.step (fun k => by rw [impl_Range_66.l0]) ?_
      exact ev_pos (by omega) (ev_pos (by omega) (ev_pos (by omega) (ev_pos (by omega) (ev_pos ((neR _ _).2 h) (Ev.now _)))))
theorem rangeEq_ev (a b : List S26) (hl : a.length ≤ 1048576) : ∃ t, Ev (fun k => impl_Range_66.f k a b) t ∧ (t = true ↔ a = b) := by
  unfold impl_Range_66.f
  by_cases he : a.length = b.length
  · obtain ⟨t, ht, hi⟩ := rangeEq_l a b hl he a.length 0 (by omega)
    refine ⟨t, ev_pos (by omega) ht, hi.trans ⟨fun h => ext_rd he (fun j hj => h j (Nat.zero_le _) hj), fun h j _ _ => by rw [h]⟩⟩
  · exact ⟨false, ev_neg (by omega) (Ev.now _), ⟨fun h => (by cases h), fun h => absurd (congrArg _ h) he⟩⟩
theorem implSame_ev (a b : List S26) (ha : a.length ≤ 1048576) (hb : b.length ≤ 1048576) (wa : ∀ x ∈ a, wfR x) (wb : ∀ x ∈ b, wfR x) : ∃ t, Ev (fun k => impl_SameOwners.f k a b) t ∧ (t = true ↔ RangesP a ∧ RangesP b ∧ joinM a = joinM b) := by
  obtain ⟨x, hx, xi⟩ := areRanges_ev a ha wa
  obtain ⟨y, hy, yi⟩ := areRanges_ev b hb wb
  obtain ⟨t, ht, hi⟩ := rangeEq_ev (joinM a) (joinM b) (Nat.le_trans (joinM_len _) ha)
  unfold impl_SameOwners.f
  by_cases h1 : x = true
  · by_cases h2 : y = true
    · refine ⟨t, Ev.bind hx (ev_pos h1 (Ev.bind hy (ev_pos h2 (Ev.bind (implJoined_ev a ha) (Ev.bind (implJoined_ev b hb) (Ev.bind ht (Ev.now _))))))), ?_⟩
      rw [hi]
      exact ⟨fun h => ⟨xi.1 h1, yi.1 h2, h⟩, fun h => h.2.2⟩
    · exact ⟨false, Ev.bind hx (ev_pos h1 (Ev.bind hy (ev_neg h2 (Ev.now _)))), ⟨fun h => (by cases h), fun h => absurd (yi.2 h.2.1) h2⟩⟩
  · exact ⟨false, Ev.bind hx (ev_neg h1 (Ev.now _)), ⟨fun h => (by cases h), fun h => absurd (xi.2 h.1) h1⟩⟩

theorem implJoinedF_ev (l : List S26) (hl : l.length ≤ 1048576) (hw : ∀ x ∈ l, wfR x) : ∃ r, Ev (fun k => impl_Joined.f k l) r ∧ (RangesP l → r = joinM l) ∧ (¬ RangesP l → r = []) := by
  obtain ⟨b, hb, hi⟩ := areRanges_ev l hl hw
  unfold impl_Joined.f
  by_cases h : b = true
  · exact ⟨_, Ev.bind hb (ev_pos h (Ev.bind (implJoined_ev l hl) (Ev.now _))), fun _ => rfl, fun h' => absurd (hi.1 h) h'⟩
  · exact ⟨[], Ev.bind hb (ev_neg h (Ev.now _)), fun hP => absurd (hi.2 hP) h, fun _ => rfl⟩

/-- compact of a sorted list: its members, each once, in order. -/
theorem compactUpTo_sorted (d : Array Int) (hs : ∀ i j, i < j → j < d.size → d[i]! ≤ d[j]!) : ∀ m, m ≤ d.size → (Lib.compactUpTo d m).Pairwise (· < ·) ∧ (∀ x, x ∈ Lib.compactUpTo d m ↔ ∃ j, j < m ∧ d[j]! = x) := by
  intro m
  induction m with
  | zero =>
    intro _
    refine ⟨by simp [Lib.compactUpTo], fun x => ⟨fun h => by simp [Lib.compactUpTo] at h, fun ⟨j, h, _⟩ => by omega⟩⟩
  | succ m ih =>
    intro hm
    obtain ⟨h1, h2⟩ := ih (by omega)
    rw [Lib.compactUpTo_succ]
    by_cases hk : Lib.keeps d m = true
    · rw [if_pos hk]
      have hlt : ∀ j, j < m → d[j]! < d[m]! := fun j hj => by
        have a := hs j m hj (by omega)
        rcases Int.lt_or_eq_of_le a with h | h
        · exact h
        · exfalso
          have b := hs j (m - 1)
          have c : d[m - 1]! ≤ d[m]! := hs (m - 1) m (by omega) (by omega)
          have e : d[m]! = d[m - 1]! := by
            by_cases q : j = m - 1
            · rw [← q]; exact h.symm
            · have := b (by omega) (by omega); omega
          rw [Lib.keeps_neg (by omega) e] at hk
          cases hk
      refine ⟨?_, fun x => ?_⟩
      · rw [List.pairwise_append]
        refine ⟨h1, by simp, fun a ha b hb => ?_⟩
        obtain ⟨j, hj, rfl⟩ := (h2 a).1 ha
        rw [List.mem_singleton] at hb
        rw [hb]
        exact hlt j hj
      · rw [List.mem_append, h2, List.mem_singleton]
        constructor
        · rintro (⟨j, hj, e⟩ | rfl)
          · exact ⟨j, by omega, e⟩
          · exact ⟨m, by omega, rfl⟩
        · rintro ⟨j, hj, e⟩
          by_cases q : j = m
          · subst q; exact .inr e.symm
          · exact .inl ⟨j, by omega, e⟩
    · have hk' : Lib.keeps d m = false := by simpa using hk
      rw [if_neg hk, List.append_nil]
      refine ⟨h1, fun x => ?_⟩
      rw [h2]
      constructor
      · rintro ⟨j, hj, e⟩; exact ⟨j, by omega, e⟩
      · rintro ⟨j, hj, e⟩
        by_cases q : j = m
        · subst q
          by_cases h0 : j = 0
          · subst h0
            rw [Lib.keeps_lt_one d 0 (by omega)] at hk'; cases hk'
          · by_cases q2 : d[j]! = d[j - 1]!
            · exact ⟨j - 1, by omega, q2.symm.trans e⟩
            · rw [Lib.keeps_pos q2] at hk'; cases hk'
        · exact ⟨j, by omega, e⟩

theorem strict_eq : ∀ (xs ys : List Int), xs.Pairwise (· < ·) → ys.Pairwise (· < ·) → (∀ x, x ∈ xs ↔ x ∈ ys) → xs = ys := by
  intro xs
  induction xs with
  | nil =>
    intro ys _ _ h
    cases ys with
    | nil => rfl
    | cons y ys => exact absurd ((h y).2 (List.mem_cons_self ..)) (by simp)
  | cons x xs ih =>
    intro ys hx hy h
    cases ys with
    | nil => exact absurd ((h x).1 (List.mem_cons_self ..)) (by simp)
    | cons y ys =>
      rw [List.pairwise_cons] at hx hy
      have e : x = y := by
        rcases List.mem_cons.1 ((h x).1 (List.mem_cons_self ..)) with e | e
        · exact e
        · rcases List.mem_cons.1 ((h y).2 (List.mem_cons_self ..)) with e2 | e2
          · exact e2.symm
          · have := hy.1 x e; have := hx.1 y e2; omega
      subst e
      congr 1
      refine ih ys hx.2 hy.2 fun z => ⟨fun hz => ?_, fun hz => ?_⟩
      · rcases List.mem_cons.1 ((h z).1 (List.mem_cons_of_mem _ hz)) with e | e
        · have := hx.1 z hz; omega
        · exact e
      · rcases List.mem_cons.1 ((h z).2 (List.mem_cons_of_mem _ hz)) with e | e
        · have := hy.1 z hz; omega
        · exact e
/-- Group g has a range. -/
def InG (l : List S26) (g : Int) : Prop := ∃ j : Nat, j < l.length ∧ (rd_T26 l j).f2 = g
noncomputable instance (l : List S26) (g : Int) : Decidable (InG l g) := Classical.propDecidable _
noncomputable def ownM (l : List S26) (m : Nat) : List Int := ((List.range m).map (fun i : Nat => (i : Int))).filter (fun g => decide (InG l g))
theorem ownM_mem (l : List S26) (m : Nat) (x : Int) : x ∈ ownM l m ↔ 0 ≤ x ∧ x < m ∧ InG l x := by
  unfold ownM
  rw [List.mem_filter, decide_eq_true_iff, List.mem_map]
  constructor
  · rintro ⟨⟨i, hi, rfl⟩, h⟩
    have := List.mem_range.1 hi
    exact ⟨by omega, by omega, h⟩
  · rintro ⟨h0, h1, h⟩
    exact ⟨⟨x.toNat, List.mem_range.2 (by omega), by omega⟩, h⟩
theorem ownM_succ (l : List S26) (m : Nat) : (InG l m → ownM l (m + 1) = ownM l m ++ [(m : Int)]) ∧ (¬ InG l m → ownM l (m + 1) = ownM l m) := by
  unfold ownM
  rw [List.range_succ, List.map_append, List.filter_append]
  exact ⟨fun h => by simp [h], fun h => by simp [h]⟩
theorem ownM_sorted (l : List S26) (m : Nat) : (ownM l m).Pairwise (· < ·) := by
  induction m with
  | zero => simp [ownM]
  | succ m ih =>
    by_cases h : InG l m
    · rw [(ownM_succ l m).1 h, List.pairwise_append]
      refine ⟨ih, by simp, fun a ha b hb => ?_⟩
      rw [List.mem_singleton] at hb
      have := ((ownM_mem l m a).1 ha).2.1
      omega
    · rw [(ownM_succ l m).2 h]; exact ih
theorem ownM_len (l : List S26) (m : Nat) : (ownM l m).length ≤ m := by
  unfold ownM
  exact Nat.le_trans (List.length_filter_le ..) (by simp)

theorem compact_sort (l : List S26) (hg : ∀ j : Nat, j < l.length → 0 ≤ (rd_T26 l j).f2 ∧ (rd_T26 l j).f2 ≤ 99) : Lib.compact ((l.map (fun x : S26 => x.f2)).mergeSort fun x y => decide (x ≤ y)) = ownM l 100 := by
  obtain ⟨zs, hz⟩ : ∃ zs, zs = (l.map (fun x : S26 => x.f2)).mergeSort fun x y => decide (x ≤ y) := ⟨_, rfl⟩
  have hp : zs.Pairwise (fun a b => (fun x y : Int => decide (x ≤ y)) a b = true) := by
    rw [hz]
    exact List.pairwise_mergeSort (fun a b c h1 h2 => by simp at h1 h2 ⊢; omega) (fun a b => by simp; omega) _
  have hm : ∀ x, x ∈ zs ↔ InG l x := fun x => by
    rw [hz, List.mem_mergeSort, List.mem_map]
    constructor
    · rintro ⟨y, hy, rfl⟩
      obtain ⟨j, hj, rfl⟩ := List.mem_iff_getElem.1 hy
      refine ⟨j, hj, ?_⟩
      unfold rd_T26
      rw [toNat_cast, getD_lt _ _ _ hj]
    · rintro ⟨j, hj, rfl⟩
      refine ⟨l[j], List.getElem_mem hj, ?_⟩
      unfold rd_T26
      rw [toNat_cast, getD_lt _ _ _ hj]
  rw [← hz]
  have hs : ∀ i j, i < j → j < zs.toArray.size → zs.toArray[i]! ≤ zs.toArray[j]! := fun i j hij hj => by
    have hj' : j < zs.length := by simpa using hj
    have := List.pairwise_iff_getElem.1 hp i j (by omega) hj' hij
    rw [getElem!_pos _ i (by simp; omega), getElem!_pos _ j hj]
    simpa using this
  obtain ⟨h1, h2⟩ := compactUpTo_sorted zs.toArray hs zs.length (by simp)
  refine strict_eq _ _ h1 (ownM_sorted l 100) fun x => ?_
  show x ∈ Lib.compactUpTo zs.toArray zs.length ↔ _
  rw [h2, ownM_mem]
  constructor
  · rintro ⟨j, hj, rfl⟩
    have hx : InG l zs.toArray[j]! := by
      rw [getElem!_pos _ j (by simpa using hj)]
      exact (hm _).1 (by simp)
    obtain ⟨q, hq, e⟩ := hx
    have := hg q hq
    exact ⟨by omega, by omega, q, hq, e⟩
  · rintro ⟨_, _, h⟩
    obtain ⟨j, hj, e⟩ := List.mem_iff_getElem.1 ((hm x).2 h)
    refine ⟨j, hj, ?_⟩
    rw [getElem!_pos _ j (by simpa using hj)]
    simpa using e
theorem implOwn_l (l : List S26) (hl : l.length ≤ 1048576) (hg : ∀ j : Nat, j < l.length → 0 ≤ (rd_T26 l j).f2 ∧ (rd_T26 l j).f2 ≤ 99) (d : Nat) : ∀ i : Nat, l.length = i + d → Ev (fun k => impl_Owners.l0 k ((l.take i).map (fun x : S26 => x.f2)) l l.length i) (ownM l 100) := by
  induction d with
  | zero =>
    intro i hd
    refine Ev.step (fun k => by rw [impl_Owners.l0]) ?_
    refine ev_neg (by omega) ?_
    rw [List.take_of_length_le (by omega)]
    refine Ev.bind (a := (l.map (fun x : S26 => x.f2)).mergeSort fun x y => decide (x ≤ y)) (ev_const ?_) (Ev.bind (a := ownM l 100) (ev_const ?_) (Ev.now _))
    · unfold slices_Sort_int_int.f
      rw [if_pos (by simp; omega)]
    · unfold slices_Compact_int_int.f
      rw [if_pos (by simp; omega), compact_sort l hg]
  | succ d ih =>
    intro i hd
    have h1 := List.length_take_le i l
    refine Ev.step (fun k => by rw [impl_Owners.l0]) ?_
    refine ev_pos (by omega) (ev_pos (by omega) (ev_pos (by omega) (ev_pos (by rw [List.length_map]; omega) ?_)))
    rw [wsucc (n := l.length) (by omega) (by omega)]
    have := ih (i + 1) (by omega)
    rw [take_succ_getD l i z26 (by omega), List.map_append] at this
    unfold rd_T26
    rw [toNat_cast]
    exact this

theorem coversI_e (x0 x1 x2 id : Int) : impl_Covers.f x0 x1 x2 id = some (decide (x0 ≤ id ∧ id ≤ x1)) := by
  unfold impl_Covers.f
  by_cases h : x0 ≤ id
  · rw [if_pos h]; congr 1; simp [h]
  · rw [if_neg h, decide_eq_false (fun q => h q.1)]
theorem rangesOkI_ev (l : List S26) (hP : RangesP l) : Ev (fun k => impl_RangesOk.f k l) true := by
  have := hP.2.1
  obtain ⟨b, hb, hi⟩ := areRanges_ev l (by omega) (wf_of hP)
  have e : b = true := hi.2 hP
  rw [e] at hb
  exact Ev.bind hb (Ev.now _)
theorem within_l (xs : List Int) (hl : xs.length ≤ 1048576) (x : Int) (d : Nat) : ∀ i : Nat, xs.length = i + d → (∃ j : Nat, i ≤ j ∧ j < xs.length ∧ rd xs j = x) → Ev (fun k => laws_within.l0 k xs x i) true := by
  induction d with
  | zero => rintro i hd ⟨j, h1, h2, _⟩; omega
  | succ d ih =>
    rintro i hd ⟨j, h1, h2, h3⟩
    refine Ev.step (fun k => by rw [laws_within.l0]) ?_
    refine ev_pos (by omega) (ev_pos (by omega) ?_)
    by_cases h : rd xs i = x
    · exact ev_pos h (Ev.now _)
    · rw [wsucc (n := xs.length) (by omega) (by omega)]
      refine ev_neg h (ih (i + 1) (by omega) ⟨j, ?_, h2, h3⟩)
      rcases Nat.eq_or_lt_of_le h1 with e | e
      · subst e; exact absurd h3 h
      · exact e
theorem within_ev (xs : List Int) (hl : xs.length ≤ 1048576) (x : Int) (h : x ∈ xs) : Ev (fun k => laws_within.f k xs x) true := by
  obtain ⟨j, hj, e⟩ := List.mem_iff_getElem.1 h
  refine within_l xs hl x xs.length 0 (by omega) ⟨j, by omega, hj, ?_⟩
  unfold rd
  rw [toNat_cast, getD_lt xs j 0 hj]; exact e
theorem sameRanges_l (l : List S26) (hl : l.length ≤ 1048576) (d : Nat) : ∀ i : Nat, l.length = i + d → Ev (fun k => laws_sameRanges.l0 k l l i) true := by
  induction d with
  | zero =>
    intro i hd
    refine Ev.step (fun k => by rw [laws_sameRanges.l0]) ?_
    exact ev_neg (by omega) (Ev.now _)
  | succ d ih =>
    intro i hd
    refine Ev.step (fun k => by rw [laws_sameRanges.l0]) ?_
    rw [wsucc (n := l.length) (by omega) (by omega)]
    exact ev_pos (by omega) (ev_pos (by omega) (ev_pos (by omega) (ev_neg (by simp) (ih (i + 1) (by omega)))))
theorem sameRanges_ev (l : List S26) (hl : l.length ≤ 1048576) : Ev (fun k => laws_sameRanges.f k l l) true := ev_pos rfl (sameRanges_l l hl l.length 0 (by omega))
theorem ownersI_ev (l : List S26) (hP : RangesP l) : Ev (fun k => impl_Owners.f k l) (ownM l 100) := by
  have := hP.2.1
  obtain ⟨b, hb, hi⟩ := areRanges_ev l (by omega) (wf_of hP)
  have e : b = true := hi.2 hP
  exact Ev.bind hb (ev_pos e (implOwn_l l (by omega) (fun j hj => (hP.2.2.2.2 j hj).2.1) l.length 0 (by omega)))
theorem sameI_ev (a b : List S26) (ha : RangesP a) (hb : RangesP b) : ∃ t, Ev (fun k => impl_SameOwners.f k a b) t ∧ (t = true ↔ joinM a = joinM b) := by
  have := ha.2.1
  have := hb.2.1
  obtain ⟨t, h1, h2⟩ := implSame_ev a b (by omega) (by omega) (wf_of ha) (wf_of hb)
  exact ⟨t, h1, h2.trans ⟨fun h => h.2.2, fun h => ⟨ha, hb, h⟩⟩⟩
theorem small_nat (p : Nat) (h : p < 100) : (-9223372036854775808 : Int) ≤ (p : Int) ∧ (p : Int) ≤ 9223372036854775807 := by omega
theorem lawR_j2 (l : List S26) (hP : RangesP l) (id g : Int) (h0 : 0 ≤ id) (h1 : id ≤ 18446744073709551615) (hg : 0 ≤ g ∧ g ≤ 99) (p : Nat) (hp : p < l.length) (hf : findM l id = (p : Int)) (a0 : (rd_T26 l p).f0 ≤ id) (a1 : id ≤ (rd_T26 l p).f1) : Ev (fun k => laws_FnRanges.j2 k l id g p (moveM l p g) false) true := by
  have l24 := hP.2.1
  have hb := bounds hP p hp
  have hM := move_ok l p g hP hp hg
  obtain ⟨t, t1, t2⟩ := sameI_ev l (moveM l p g) hP hM
  have hjm := t2.trans (join_move l p g hP hp hg)
  have hgr := (hP.2.2.2.2 p hp).2.1
  obtain ⟨r, r0, r1, r2⟩ := implSplit_ev l (by omega) (wf_of hP) id (rd_T26 l p).f2 h0 h1
  refine Ev.step (fun k => by rw [laws_FnRanges.j2]) ?_
  refine ev_neg (by simp) (Ev.bind t1 (ev_pos (by omega) (ev_pos (by omega) (ev_neg ?_ (Ev.bind r0 ?_)))))
  · have e : ((rd_T26 l p).f2 == g) = t := by
      rw [Bool.eq_iff_iff, beq_iff_eq]; exact hjm.symm
    rw [e]; simp
  by_cases c : SplitC l id (rd_T26 l p).f2
  rotate_left
  · rw [r2 c]
    refine ev_neg (by simp) ?_
    by_cases q : (rd_T26 l p).f0 = id
    · exact ev_pos q (Ev.now _)
    · have : l.length = 24 := Classical.byContradiction fun z => c ⟨hP, by rw [hf]; exact q, hgr, z⟩
      refine ev_neg q ?_
      rw [this]
      exact Ev.now _
  have hne := c.2.1
  rw [hf] at hne
  obtain ⟨cut, hc⟩ : ∃ cut, cut = splitM l p id (rd_T26 l p).f2 := ⟨_, rfl⟩
  have hr : r = (cut, true) := by rw [hc, r1 c, hf, toNat_cast]
  have hS : RangesP cut := by rw [hc]; exact split_ok l p id (rd_T26 l p).f2 hP hp c.2.2.2 (by omega) a1 hgr
  have hlen : cut.length = l.length + 1 := by rw [hc]; exact splitM_len l p id (rd_T26 l p).f2 hp
  have Rp : rd_T26 cut p = ⟨(rd_T26 l p).f0, IntKind.u64.wrap (id - 1), (rd_T26 l p).f2⟩ := by rw [hc, split_rd l p id (rd_T26 l p).f2 hp p, if_neg (by omega), if_pos rfl]
  have Rq : rd_T26 cut ((p + 1 : Nat) : Int) = ⟨id, (rd_T26 l p).f1, (rd_T26 l p).f2⟩ := by rw [hc, split_rd l p id (rd_T26 l p).f2 hp (p + 1), if_neg (by omega), if_neg (by omega), if_pos rfl]
  have sl : l.length < 100 := by omega
  have sp0 : p < 100 := by omega
  have sp := small_nat p sp0
  obtain ⟨m, m0, m1, _⟩ := implMerge_ev cut (by omega) (wf_of hS) p sp.1 sp.2
  have hMC : MergeC cut p := by
    refine ⟨hS, by omega, by omega, ?_⟩
    rw [Rp, show ((p : Int) + 1) = ((p + 1 : Nat) : Int) by omega, Rq]
  have hm : m = (l, true) := by
    rw [m1 hMC, toNat_cast, hc, merge_split l p id hp]
  obtain ⟨u, u1, u2⟩ := sameI_ev cut l hS hP
  have hu : u = true := u2.2 (by rw [hc]; exact join_split l p id hp)
  rw [hu] at u1
  obtain ⟨f, f0, f1, _⟩ := implFind_ev cut (by omega) (wf_of hS) id
  have hf2 : f = ((p + 1 : Nat) : Int) := by
    rw [f1 hS]
    obtain ⟨i, i1, i2, i3, i4, _⟩ := find_at _ hS id h0 h1
    have := cover_one hS.2.2.2.2 i1 (show p + 1 < cut.length by omega) ⟨i3, i4⟩ (by rw [Rq]; exact ⟨Int.le_refl _, a1⟩)
    rw [i2, this]
  rw [hm] at m0
  rw [hf2] at f0
  have g1 : (cut.length : Int) = ((l.length + 1 : Nat) : Int) := by omega
  have g2 : (0 : Int) ≤ ((p + 1 : Nat) : Int) := by omega
  have g3 : ((p + 1 : Nat) : Int) < (cut.length : Int) := by omega
  have g4 : (rd_T26 cut ((p + 1 : Nat) : Int)).f0 = id := by rw [Rq]
  have g5 : (p : Int) < (cut.length : Int) := by omega
  have g6 : (rd_T26 cut (p : Int)).f1 = IntKind.u64.wrap (id - 1) := by rw [Rp]
  rw [hr, wsucc (j := l.length) (n := 100) sl (by decide), wsucc (j := p) (n := 100) sp0 (by decide)]
  have fin : Ev (fun k => (laws_sameRanges.f k l l).bind fun t362 => (if t362 = true then ((impl_FindRange.f k cut id).bind fun t363 => (some (t363 == ((p + 1 : Nat) : Int)))) else (some false))) true := by
    refine Ev.bind (sameRanges_ev l (by omega)) (ev_pos rfl (Ev.bind f0 ?_))
    rw [beq_self_eq_true]
    exact Ev.now _
  exact ev_pos rfl (Ev.bind m0 (ev_pos g1 (ev_pos g2 (ev_pos g3 (ev_pos g4 (ev_pos g5 (ev_pos g6 (Ev.bind (rangesOkI_ev _ hS) (ev_pos rfl (Ev.bind u1 (ev_pos rfl (ev_pos rfl fin))))))))))))
theorem lawR_l0 (l : List S26) (hP : RangesP l) (id g : Int) (p : Nat) (hp : p < l.length) (a0 : (rd_T26 l p).f0 ≤ id) (a1 : id ≤ (rd_T26 l p).f1) (r : Bool) (hr : Ev (fun k => laws_FnRanges.l0 k l id g p 1 l.length) r) (d : Nat) : ∀ i : Nat, l.length = i + d → Ev (fun k => laws_FnRanges.l0 k l id g p (if p < i then 1 else 0) i) r := by
  have l24 := hP.2.1
  induction d with
  | zero =>
    intro i hd
    obtain rfl : l.length = i := by omega
    rw [if_pos hp]; exact hr
  | succ d ih =>
    intro i hd
    have h := ih (i + 1) (by omega)
    refine Ev.step (fun k => by rw [laws_FnRanges.l0]) ?_
    rw [wsucc (j := i) (n := l.length) (by omega) (by omega)]
    refine ev_pos (by omega) (ev_pos (by omega) (Ev.bind (ev_const (coversI_e _ _ _ _)) ?_))
    by_cases c : (rd_T26 l i).f0 ≤ id ∧ id ≤ (rd_T26 l i).f1
    · have e : i = p := cover_one hP.2.2.2.2 (by omega) hp c ⟨a0, a1⟩
      refine ev_pos (decide_eq_true c) ?_
      rw [if_pos (by omega)] at h
      rw [if_neg (by omega), show wrap64 ((0 : Int) + 1) = 1 by rw [w64 (by omega) (by omega)]; rfl]
      exact h
    · refine ev_neg (by simpa using c) ?_
      have e : i ≠ p := fun e => c (by rw [e]; exact ⟨a0, a1⟩)
      by_cases q : p < i
      · rw [if_pos (by omega)] at h; rw [if_pos q]; exact h
      · rw [if_neg (by omega)] at h; rw [if_neg q]; exact h
theorem FnRanges : Stated := by
  intro s hs
  refine Ev.rounds (?_ : Ev (fun k => laws_FnRanges.f k s) true)
  unfold laws_FnRanges.f
  by_cases hb : (s.length : Int) > 1048576
  · exact Ev.bind (a := true) (ev_const (by unfold laws_big.f; rw [decide_eq_true hb])) (ev_pos rfl (Ev.now _))
  refine Ev.bind (a := false) (ev_const (by unfold laws_big.f; rw [decide_eq_false hb])) (ev_neg (by simp) ?_)
  obtain ⟨l, id, g, e, hP, ⟨h0, h1⟩, hg⟩ := drawRanges_ev s (by omega)
  have l24 := hP.2.1
  obtain ⟨p, hp, hf, a0, a1, _⟩ := find_at l hP id h0 h1
  obtain ⟨f, f0, f1, _⟩ := implFind_ev l (by omega) (wf_of hP) id
  have hfp : f = (p : Int) := (f1 hP).trans hf
  obtain ⟨q, q0, q1, _⟩ := specFind_ev l (by omega) (wf_of hP) id h0 h1
  have hqp : q = (p : Int) := (q1 hP).trans hf
  rw [hfp] at f0
  rw [hqp] at q0
  refine Ev.bind e (Ev.bind f0 (Ev.bind (rangesOkI_ev l hP) (ev_pos rfl (ev_neg (by omega) (ev_neg (by show ¬ ((p : Int) ≥ (l.length : Int)); omega) (Ev.bind q0 ?_))))))
  have hM := move_ok l p g hP hp hg
  have R := move_rd l p g hp p
  rw [if_pos rfl] at R
  have hlen : (moveM l p g).length = l.length := by unfold moveM; simp
  obtain ⟨m, m0, m1, _⟩ := implMove_ev l (by omega) (wf_of hP) p g
  have hm := m1 ⟨hP, by omega, by omega, hg.1, hg.2⟩
  rw [toNat_cast] at hm
  rw [hm] at m0
  obtain ⟨j, j0, j1, _⟩ := implJoinedF_ev l (by omega) (wf_of hP)
  have hj := j1 hP
  rw [hj] at j0
  obtain ⟨t, t0, t1⟩ := sameI_ev l (joinM l) hP (join_ok l hP)
  have ht : t = true := t1.2 (join_join l hP).symm
  rw [ht] at t0
  refine Ev.step (fun k => by rw [laws_FnRanges.j0]) ?_
  refine ev_neg (by simp) ?_
  have hin : g ∈ ownM (moveM l p g) 100 := (ownM_mem _ 100 g).2 ⟨by omega, by omega, p, by omega, by rw [R]⟩
  have k1 : ((moveM l p g).length : Int) = (l.length : Int) := by omega
  have k2 : (p : Int) < ((moveM l p g).length : Int) := by omega
  have k3 : (rd_T26 (moveM l p g) (p : Int)).f2 = g := by rw [R]
  have := lawR_l0 l hP id g p hp a0 a1 true ?_ l.length 0 (by omega)
  · exact this
  refine Ev.step (fun k => by rw [laws_FnRanges.l0]) ?_
  refine ev_neg (by omega) (Ev.bind m0 (ev_pos rfl (ev_pos (by omega) (ev_pos (by omega) (Ev.bind (ev_const (coversI_e _ _ _ _)) (ev_pos (decide_eq_true ⟨a0, a1⟩) (ev_pos rfl (ev_pos k1 (Ev.bind (rangesOkI_ev _ hM) (ev_pos rfl (ev_pos k2 (ev_pos k3 (Ev.bind (ownersI_ev _ hM) (Ev.bind (within_ev (ownM (moveM l p g) 100) (by have := ownM_len (moveM l p g) 100; omega) g hin) (ev_pos rfl (Ev.bind j0 (Ev.bind t0 ?_)))))))))))))))))
  exact lawR_j2 l hP id g h0 h1 hg p hp hf a0 a1

end Go.Proofs.Ytfabcjkaoidmeaa.Pure
