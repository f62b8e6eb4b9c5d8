/- The program's MoveRange and the reference's answer alike at every list, place and group, and the answer owns its memory. No condition. -/
import Derived.Test.YtfabcjkaoidmeaaOpnFnExactMoveRange
import Derived.Test.YtfabcjkaoidmeaaBase
namespace Go.Proofs.Ytfabcjkaoidmeaa.Pure
open Go.RowKit Go.Proofs.Ytfabcjkaoidmeaa.QFnExactMoveRange Go.Proofs.Ytfabcjkaoidmeaa.OpnFnExactMoveRange Go.Proofs.Ytfabcjkaoidmeaa.Base Go.Proofs.YtfabcjkaoidmeaaW.PrintWords Go.Proofs.YtfabcjkaoidmeaaW.PrintLast
set_option linter.unusedVariables false

def wfR (x : S26) : Prop := (0 ≤ x.f0 ∧ x.f0 ≤ 18446744073709551615) ∧ (0 ≤ x.f1 ∧ x.f1 ≤ 18446744073709551615)
theorem wf_at {l : List S26} (h : ∀ x ∈ l, wfR x) (j : Nat) (hj : j < l.length) : wfR (rd_T26 l j) := by
  unfold rd_T26
  rw [toNat_cast]
  exact h _ (getD_mem l j z26 hj)

def conv (x : S24) : S26 := ⟨x.f0, x.f1, x.f2⟩
theorem wf_conv {l : List S24} (h : ∀ x ∈ l, wf24 x) : ∀ x ∈ l.map conv, wfR x := by
  intro x hx
  obtain ⟨y, hy, rfl⟩ := List.mem_map.1 hx
  obtain ⟨h0, h1, _⟩ := h y hy
  exact ⟨wf_u64 h0, wf_u64 h1⟩

theorem toRangeS_l (l : List S24) (hl : l.length ≤ 1048576) (d : Nat) : ∀ (i : Nat) (ys : List S26), l.length = i + d → ys.length = l.length → ys.take i = (l.map conv).take i →
    Ev (fun k => laws_toRangeS.l0 k l ys i) (l.map conv) := by
  induction d with
  | zero =>
    intro i ys hd hy ht
    refine Ev.step (fun k => by rw [laws_toRangeS.l0]) ?_
    refine ev_neg (by omega) ?_
    have : ys = l.map conv := by
      rw [List.take_of_length_le (by omega), List.take_of_length_le (by simp; omega)] at ht
      exact ht
    rw [this]
    exact Ev.now _
  | succ d ih =>
    intro i ys hd hy ht
    refine Ev.step (fun k => by rw [laws_toRangeS.l0]) ?_
    refine ev_pos (by omega) (ev_pos (by omega) ?_)
    refine Ev.bind (ev_const rfl) ?_
    refine ev_pos (by omega) ?_
    rw [wsucc (n := l.length) (by omega) (by omega), toNat_cast]
    refine ih (i + 1) _ (by omega) (by simpa using hy) ?_
    rw [take_set_succ _ _ _ (by omega), take_succ_getD (l.map conv) i z26 (by simp; omega), ht]
    congr 2
    unfold rd_T24
    rw [toNat_cast, getD_lt l i z24 (by omega), getD_lt (l.map conv) i z26 (by simp; omega), List.getElem_map]
    rfl
theorem toRangeS_ev (l : List S24) (hl : l.length ≤ 1048576) : Ev (fun k => laws_toRangeS.f k l) (l.map conv) := by
  unfold laws_toRangeS.f
  refine ev_pos (by omega) (ev_pos (by rw [toNat_cast]; omega) ?_)
  rw [toNat_cast]
  exact toRangeS_l l hl l.length 0 _ (by omega) (by simp) (by simp)

theorem eqRangeS_l (l : List S26) (hl : l.length ≤ 1048576) (d : Nat) : ∀ (i : Nat), l.length = i + d → Ev (fun k => laws_eqRangeS.l0 k l l i) true := by
  induction d with
  | zero =>
    intro i hd
    refine Ev.step (fun k => by rw [laws_eqRangeS.l0]) ?_
    exact ev_neg (by omega) (Ev.now _)
  | succ d ih =>
    intro i hd
    refine Ev.step (fun k => by rw [laws_eqRangeS.l0]) ?_
    refine ev_pos (by omega) (ev_pos (by omega) (ev_pos (by omega) ?_))
    refine Ev.bind (a := true) (ev_const (by unfold laws_eqRange.f; rw [if_pos rfl, if_pos rfl, if_pos rfl])) ?_
    refine ev_pos rfl ?_
    rw [wsucc (n := l.length) (by omega) (by omega)]
    exact ih (i + 1) (by omega)
theorem eqRangeS_ev (l : List S26) (hl : l.length ≤ 1048576) : Ev (fun k => laws_eqRangeS.f k l l) true := by
  unfold laws_eqRangeS.f
  refine ev_pos rfl ?_
  exact eqRangeS_l l hl l.length 0 (by omega)

/-- What is asked of range j. -/
def RP (l : List S26) (j : Nat) : Prop :=
  (rd_T26 l j).f0 ≤ (rd_T26 l j).f1 ∧ (0 ≤ (rd_T26 l j).f2 ∧ (rd_T26 l j).f2 ≤ 99) ∧ (0 < j → (rd_T26 l (j - 1 : Nat)).f1 ≠ 18446744073709551615 ∧ (rd_T26 l j).f0 = (rd_T26 l (j - 1 : Nat)).f1 + 1)
/-- Ranges are all ids. -/
def RangesP (l : List S26) : Prop :=
  1 ≤ l.length ∧ l.length ≤ 24 ∧ (rd_T26 l 0).f0 = 0 ∧ (rd_T26 l ((l.length - 1 : Nat) : Int)).f1 = 18446744073709551615 ∧ ∀ j, j < l.length → RP l j
theorem in_ev (x a b : Int) : ∃ t, spec_l01In.f x a b = some t ∧ (t = true ↔ a ≤ x ∧ x ≤ b) := by
  unfold spec_l01In.f
  by_cases h : a ≤ x
  · rw [if_pos h]
    exact ⟨_, rfl, by simp [h]⟩
  · rw [if_neg h]
    exact ⟨_, rfl, by simp [h]⟩

theorem specRangesOk_l (l : List S26) (hl : l.length ≤ 1048576) (hw : ∀ x ∈ l, wfR x) (d : Nat) : ∀ (i : Nat), l.length = i + d → ∃ b, Ev (fun k => spec_RangesOk.l0 k l i) b ∧ (b = true ↔ ∀ j, i ≤ j → j < l.length → RP l j) := by
  induction d with
  | zero =>
    intro i hd
    refine ⟨true, ?_, ⟨fun _ j h1 h2 => by omega, fun _ => rfl⟩⟩
    refine Ev.step (fun k => by rw [spec_RangesOk.l0]) ?_
    exact ev_neg (by omega) (Ev.now _)
  | succ d ih =>
    intro i hd
    have wi := wf_at hw i (by omega)
    by_cases hP : RP l i
    · obtain ⟨b, hb, hi⟩ := ih (i + 1) (by omega)
      refine ⟨b, ?_, ?_⟩
      · refine Ev.step (fun k => by rw [spec_RangesOk.l0]) ?_
        refine ev_pos (by omega) (ev_pos (by omega) (ev_neg (by have := hP.1; omega) ?_))
        obtain ⟨t, ht, hti⟩ := in_ev (rd_T26 l i).f2 0 99
        refine Ev.bind (ev_const ht) (ev_pos (hti.2 hP.2.1) ?_)
        by_cases h0 : 0 < i
        · refine ev_pos (by omega) ?_
          rw [wpred h0 (by omega), wsucc (n := l.length) (by omega) (by omega)]
          refine ev_pos (by omega) (ev_pos (by omega) (ev_neg (hP.2.2 h0).1 (ev_pos ?_ hb)))
          have wp := wf_at hw (i - 1) (by omega)
          rw [u64w (by have := wp.2.1; omega) (by have := wp.2.2; have := (hP.2.2 h0).1; omega)]
          exact (hP.2.2 h0).2
        · refine ev_neg (by omega) ?_
          rw [wsucc (n := l.length) (by omega) (by omega)]
          exact hb
      · rw [hi]
        refine ⟨fun h j h1 h2 => ?_, fun h j h1 h2 => h j (by omega) h2⟩
        by_cases e : j = i
        · subst e; exact hP
        · exact h j (by omega) h2
    · refine ⟨false, ?_, ⟨fun h => (by cases h), fun h => absurd (h i (Nat.le_refl _) (by omega)) hP⟩⟩
      refine Ev.step (fun k => by rw [spec_RangesOk.l0]) ?_
      refine ev_pos (by omega) (ev_pos (by omega) ?_)
      by_cases h1 : (rd_T26 l i).f0 > (rd_T26 l i).f1
      · exact ev_pos h1 (Ev.now _)
      · refine ev_neg h1 ?_
        obtain ⟨t, ht, hti⟩ := in_ev (rd_T26 l i).f2 0 99
        refine Ev.bind (ev_const ht) ?_
        by_cases h2 : t = true
        · refine ev_pos h2 ?_
          by_cases h0 : 0 < i
          · refine ev_pos (by omega) ?_
            rw [wpred h0 (by omega)]
            refine ev_pos (by omega) (ev_pos (by omega) ?_)
            by_cases h3 : (rd_T26 l (i - 1 : Nat)).f1 = 18446744073709551615
            · exact ev_pos h3 (Ev.now _)
            · refine ev_neg h3 (ev_neg ?_ (Ev.now _))
              have wp := wf_at hw (i - 1) (by omega)
              rw [u64w (by have := wp.2.1; omega) (by have := wp.2.2; omega)]
              exact fun h4 => hP ⟨by omega, hti.1 h2, fun _ => ⟨h3, h4⟩⟩
          · exact absurd ⟨by omega, hti.1 h2, fun h => absurd h h0⟩ hP
        · exact ev_neg h2 (Ev.now _)
theorem specRangesOk_ev (l : List S26) (hl : l.length ≤ 1048576) (hw : ∀ x ∈ l, wfR x) : ∃ b, Ev (fun k => spec_RangesOk.f k l) b ∧ (b = true ↔ RangesP l) := by
  have hj : ∀ (x : Bool), x = true → Ev (fun k => spec_RangesOk.j0 k l x) false := fun x hx => by
    refine Ev.step (fun k => by rw [spec_RangesOk.j0]) ?_
    exact ev_pos hx (Ev.now _)
  unfold spec_RangesOk.f
  obtain ⟨t, ht, hti⟩ := in_ev (l.length : Int) 1 24
  by_cases h1 : t = true
  · have h2 := hti.1 h1
    by_cases h3 : (rd_T26 l 0).f0 = 0
    · by_cases h4 : (rd_T26 l ((l.length - 1 : Nat) : Int)).f1 = 18446744073709551615
      · obtain ⟨b, hb, hi⟩ := specRangesOk_l l hl hw l.length 0 (by omega)
        refine ⟨b, ?_, ?_⟩
        · refine Ev.bind (ev_const ht) (ev_pos h1 (ev_pos (by omega) (ev_pos h3 ?_)))
          rw [wpred (by omega) (by omega)]
          refine ev_pos (by omega) (ev_pos (by omega) ?_)
          refine Ev.step (fun k => by rw [spec_RangesOk.j0]) ?_
          exact ev_neg (by rw [h4]; decide) hb
        · rw [hi]
          exact ⟨fun h => ⟨by omega, by omega, h3, h4, fun j => h j (Nat.zero_le _)⟩, fun h j _ => h.2.2.2.2 j⟩
      · refine ⟨false, ?_, ⟨fun h => (by cases h), fun h => absurd h.2.2.2.1 h4⟩⟩
        refine Ev.bind (ev_const ht) (ev_pos h1 (ev_pos (by omega) (ev_pos h3 ?_)))
        rw [wpred (by omega) (by omega)]
        refine ev_pos (by omega) (ev_pos (by omega) (hj _ (by simpa using h4)))
    · refine ⟨false, ?_, ⟨fun h => (by cases h), fun h => absurd h.2.2.1 h3⟩⟩
      exact Ev.bind (ev_const ht) (ev_pos h1 (ev_pos (by omega) (ev_neg h3 (hj _ rfl))))
  · refine ⟨false, ?_, ⟨fun h => (by cases h), fun h => absurd (hti.2 ⟨by have := h.1; omega, by have := h.2.1; omega⟩) h1⟩⟩
    exact Ev.bind (ev_const ht) (ev_neg h1 (hj _ rfl))

theorem group_ev (x : Int) : ∃ t, impl_isGroupId.f x = some t ∧ (t = true ↔ 0 ≤ x ∧ x ≤ 99) := by
  unfold impl_isGroupId.f
  by_cases h : x ≥ 0
  · rw [if_pos h]
    exact ⟨_, rfl, by simp; omega⟩
  · rw [if_neg h]
    exact ⟨_, rfl, by simp; omega⟩
theorem areRanges_l (l : List S26) (hl : l.length ≤ 1048576) (hw : ∀ x ∈ l, wfR x) (d : Nat) : ∀ (i : Nat), l.length = i + d → ∃ b, Ev (fun k => impl_areRanges.l0 k l l (l.length : Int) i) b ∧ (b = true ↔ ∀ j, i ≤ j → j < l.length → RP l j) := by
  induction d with
  | zero =>
    intro i hd
    refine ⟨true, ?_, ⟨fun _ j h1 h2 => by omega, fun _ => rfl⟩⟩
    refine Ev.step (fun k => by rw [impl_areRanges.l0]) ?_
    exact ev_neg (by omega) (Ev.now _)
  | succ d ih =>
    intro i hd
    have wi := wf_at hw i (by omega)
    by_cases hP : RP l i
    · obtain ⟨b, hb, hi⟩ := ih (i + 1) (by omega)
      refine ⟨b, ?_, ?_⟩
      · refine Ev.step (fun k => by rw [impl_areRanges.l0]) ?_
        refine ev_pos (by omega) (ev_pos (by omega) (ev_pos (by omega) (ev_neg (by have := hP.1; omega) ?_)))
        obtain ⟨t, ht, hti⟩ := group_ev (rd_T26 l i).f2
        refine Ev.bind (ev_const ht) (ev_pos (hti.2 hP.2.1) ?_)
        by_cases h0 : 0 < i
        · have wp := wf_at hw (i - 1) (by omega)
          have h5 := hP.2.2 h0
          refine ev_pos (by omega) (ev_neg (by have := wp.2.1; omega) ?_)
          rw [wpred h0 (by omega), wsucc (n := l.length) (by omega) (by omega)]
          refine ev_pos (by omega) (ev_pos (by omega) (ev_pos ?_ hb))
          rw [u64w (by have := wp.2.1; omega) (by have := wi.1.2; omega)]
          omega
        · refine ev_neg (by omega) ?_
          rw [wsucc (n := l.length) (by omega) (by omega)]
          exact hb
      · rw [hi]
        refine ⟨fun h j h1 h2 => ?_, fun h j h1 h2 => h j (by omega) h2⟩
        by_cases e : j = i
        · subst e; exact hP
        · exact h j (by omega) h2
    · refine ⟨false, ?_, ⟨fun h => (by cases h), fun h => absurd (h i (Nat.le_refl _) (by omega)) hP⟩⟩
      refine Ev.step (fun k => by rw [impl_areRanges.l0]) ?_
      refine ev_pos (by omega) (ev_pos (by omega) (ev_pos (by omega) ?_))
      by_cases h1 : (rd_T26 l i).f0 > (rd_T26 l i).f1
      · exact ev_pos h1 (Ev.now _)
      · refine ev_neg h1 ?_
        obtain ⟨t, ht, hti⟩ := group_ev (rd_T26 l i).f2
        refine Ev.bind (ev_const ht) ?_
        by_cases h2 : t = true
        · refine ev_pos h2 ?_
          by_cases h0 : 0 < i
          · refine ev_pos (by omega) ?_
            by_cases h3 : (rd_T26 l i).f0 = 0
            · exact ev_pos h3 (Ev.now _)
            · refine ev_neg h3 ?_
              have wp := wf_at hw (i - 1) (by omega)
              rw [wpred h0 (by omega)]
              refine ev_pos (by omega) (ev_pos (by omega) (ev_neg ?_ (Ev.now _)))
              rw [u64w (by have := wi.1.1; omega) (by have := wi.1.2; omega)]
              exact fun h4 => hP ⟨by omega, hti.1 h2, fun _ => ⟨by have := wi.1.2; omega, by omega⟩⟩
          · exact absurd ⟨by omega, hti.1 h2, fun h => absurd h h0⟩ hP
        · exact ev_neg h2 (Ev.now _)
theorem areRanges_ev (l : List S26) (hl : l.length ≤ 1048576) (hw : ∀ x ∈ l, wfR x) : ∃ b, Ev (fun k => impl_areRanges.f k l) b ∧ (b = true ↔ RangesP l) := by
  have hj : ∀ (x : Bool), x = true → Ev (fun k => impl_areRanges.j0 k l x) false := fun x hx => by
    refine Ev.step (fun k => by rw [impl_areRanges.j0]) ?_
    exact ev_pos hx (Ev.now _)
  unfold impl_areRanges.f
  by_cases h1 : (l.length : Int) < 1
  · exact ⟨false, ev_pos h1 (hj _ rfl), ⟨fun h => (by cases h), fun h => by have := h.1; omega⟩⟩
  by_cases h2 : (l.length : Int) > 24
  · exact ⟨false, ev_neg h1 (ev_pos h2 (hj _ rfl)), ⟨fun h => (by cases h), fun h => by have := h.2.1; omega⟩⟩
  by_cases h3 : (rd_T26 l 0).f0 = 0
  · by_cases h4 : (rd_T26 l ((l.length - 1 : Nat) : Int)).f1 = 18446744073709551615
    · obtain ⟨b, hb, hi⟩ := areRanges_l l hl hw l.length 0 (by omega)
      refine ⟨b, ?_, ?_⟩
      · refine ev_neg h1 (ev_neg h2 (ev_pos (by omega) (ev_pos h3 ?_)))
        rw [wpred (by omega) (by omega)]
        refine ev_pos (by omega) (ev_pos (by omega) ?_)
        refine Ev.step (fun k => by rw [impl_areRanges.j0]) ?_
        exact ev_neg (by rw [h4]; decide) hb
      · rw [hi]
        exact ⟨fun h => ⟨by omega, by omega, h3, h4, fun j => h j (Nat.zero_le _)⟩, fun h j _ => h.2.2.2.2 j⟩
    · refine ⟨false, ?_, ⟨fun h => (by cases h), fun h => absurd h.2.2.2.1 h4⟩⟩
      refine ev_neg h1 (ev_neg h2 (ev_pos (by omega) (ev_pos h3 ?_)))
      rw [wpred (by omega) (by omega)]
      refine ev_pos (by omega) (ev_pos (by omega) (hj _ (by simpa using h4)))
  · refine ⟨false, ?_, ⟨fun h => (by cases h), fun h => absurd h.2.2.1 h3⟩⟩
    exact ev_neg h1 (ev_neg h2 (ev_pos (by omega) (ev_neg h3 (hj _ rfl))))

/-- The list with the group of range k turned. -/
def moveM (l : List S26) (k : Nat) (g : Int) : List S26 := l.set k ⟨(rd_T26 l k).f0, (rd_T26 l k).f1, g⟩
theorem specMove_l (l : List S26) (hl : l.length ≤ 1048576) (p : Nat) (g : Int) (d : Nat) : ∀ (i : Nat), l.length = i + d → Ev (fun k => spec_MoveRange.l0 k l (p : Int) g ((moveM l p g).take i) i) (moveM l p g, true) := by
  have hlen : (moveM l p g).length = l.length := by simp [moveM]
  induction d with
  | zero =>
    intro i hd
    refine Ev.step (fun k => by rw [spec_MoveRange.l0]) ?_
    refine ev_neg (by omega) ?_
    rw [List.take_of_length_le (by omega)]
    exact Ev.now _
  | succ d ih =>
    intro i hd
    have := ih (i + 1) (by omega)
    rw [take_succ_getD _ i z26 (by omega)] at this
    refine Ev.step (fun k => by rw [spec_MoveRange.l0]) ?_
    have ht : ((moveM l p g).take i).length < 5864062014805 := by
      have := List.length_take_le i (moveM l p g)
      omega
    refine ev_pos (by omega) (ev_pos (by omega) ?_)
    rw [wsucc (n := l.length) (by omega) (by omega)]
    by_cases h : i = p
    · subst h
      refine ev_pos rfl (ev_pos ht ?_)
      rw [getD_lt _ _ _ (by omega)] at this
      simp only [moveM, List.getElem_set_self] at this
      exact this
    · refine ev_neg (by omega) (ev_pos ht ?_)
      have e : (moveM l p g).getD i z26 = ⟨(rd_T26 l i).f0, (rd_T26 l i).f1, (rd_T26 l i).f2⟩ := by
        unfold rd_T26
        rw [toNat_cast, getD_lt _ _ _ (by omega), getD_lt l i z26 (by omega)]
        simp only [moveM]
        rw [List.getElem_set_ne (by omega)]
      rw [e] at this
      exact this
theorem specMove_ev (l : List S26) (hl : l.length ≤ 1048576) (hw : ∀ x ∈ l, wfR x) (p g : Int) : ∃ r, Ev (fun k => spec_MoveRange.f k l p g) r ∧ (RangesP l ∧ 0 ≤ p ∧ p < l.length ∧ 0 ≤ g ∧ g ≤ 99 → r = (moveM l p.toNat g, true)) ∧ (¬ (RangesP l ∧ 0 ≤ p ∧ p < l.length ∧ 0 ≤ g ∧ g ≤ 99) → r = ([], false)) := by
  have hj : ∀ (x : Bool), x = true → Ev (fun k => spec_MoveRange.j0 k l p g x) ([], false) := fun x hx => by
    refine Ev.step (fun k => by rw [spec_MoveRange.j0]) ?_
    exact ev_pos hx (Ev.now _)
  obtain ⟨b, hb, hi⟩ := specRangesOk_ev l hl hw
  unfold spec_MoveRange.f
  by_cases h : b = true
  · have hP := hi.1 h
    have h1 := hP.1
    rw [w64 (by omega) (by omega)]
    obtain ⟨t, ht, hti⟩ := in_ev p 0 ((l.length : Int) - 1)
    by_cases h2 : t = true
    · have h2' := hti.1 h2
      obtain ⟨u, hu, hui⟩ := in_ev g 0 99
      by_cases h3 : u = true
      · have h3' := hui.1 h3
        refine ⟨_, Ev.bind hb (ev_pos h (Ev.bind (ev_const ht) (ev_pos h2 (Ev.bind (ev_const hu) ?_)))), fun _ => rfl, fun hn => absurd ⟨hP, by omega, by omega, by omega, by omega⟩ hn⟩
        refine Ev.step (fun k => by rw [spec_MoveRange.j0]) ?_
        refine ev_neg (by rw [h3]; decide) ?_
        have := specMove_l l hl p.toNat g l.length 0 (by omega)
        rw [Int.toNat_of_nonneg (by omega)] at this
        exact this
      · exact ⟨_, Ev.bind hb (ev_pos h (Ev.bind (ev_const ht) (ev_pos h2 (Ev.bind (ev_const hu) (hj _ (by simpa using h3)))))), fun hp => absurd (hui.2 ⟨hp.2.2.2.1, hp.2.2.2.2⟩) h3, fun _ => rfl⟩
    · exact ⟨_, Ev.bind hb (ev_pos h (Ev.bind (ev_const ht) (ev_neg h2 (hj _ rfl)))), fun hp => absurd (hti.2 ⟨hp.2.1, by have := hp.2.2.1; omega⟩) h2, fun _ => rfl⟩
  · exact ⟨_, Ev.bind hb (ev_neg h (hj _ rfl)), fun hp => absurd (hi.2 hp.1) h, fun _ => rfl⟩
theorem implMove_ev (l : List S26) (hl : l.length ≤ 1048576) (hw : ∀ x ∈ l, wfR x) (p g : Int) : ∃ r, Ev (fun k => impl_MoveRange.f k l p g) r ∧ (RangesP l ∧ 0 ≤ p ∧ p < l.length ∧ 0 ≤ g ∧ g ≤ 99 → r = (moveM l p.toNat g, true)) ∧ (¬ (RangesP l ∧ 0 ≤ p ∧ p < l.length ∧ 0 ≤ g ∧ g ≤ 99) → r = ([], false)) := by
  obtain ⟨b, hb, hi⟩ := areRanges_ev l hl hw
  unfold impl_MoveRange.f
  by_cases h : b = true
  · have hP := hi.1 h
    by_cases h1 : p < 0
    · exact ⟨_, Ev.bind hb (ev_pos h (ev_pos h1 (Ev.now _))), fun hp => by have := hp.2.1; omega, fun _ => rfl⟩
    by_cases h2 : p ≥ (l.length : Int)
    · exact ⟨_, Ev.bind hb (ev_pos h (ev_neg h1 (ev_pos h2 (Ev.now _)))), fun hp => by have := hp.2.2.1; omega, fun _ => rfl⟩
    obtain ⟨u, hu, hui⟩ := group_ev g
    by_cases h3 : u = true
    · have h3' := hui.1 h3
      refine ⟨_, Ev.bind hb (ev_pos h (ev_neg h1 (ev_neg h2 (Ev.bind (ev_const hu) (ev_pos h3 (Ev.bind (Ev.now _) (ev_pos (by simp; omega) (Ev.bind (Ev.now _) (ev_pos (by omega) (ev_pos (by simp; omega) (Ev.now _))))))))))), fun _ => ?_, fun hn => absurd ⟨hP, by omega, by omega, by omega, by omega⟩ hn⟩
      rw [List.nil_append, moveM, Int.toNat_of_nonneg (by omega)]
    · exact ⟨_, Ev.bind hb (ev_pos h (ev_neg h1 (ev_neg h2 (Ev.bind (ev_const hu) (ev_neg h3 (Ev.now _)))))), fun hp => absurd (hui.2 ⟨hp.2.2.2.1, hp.2.2.2.2⟩) h3, fun _ => rfl⟩
  · exact ⟨_, Ev.bind hb (ev_neg h (Ev.now _)), fun hp => absurd (hi.2 hp.1) h, fun _ => rfl⟩

theorem szRangeS_ev (l : List S24) (x : Int) (hm : l.length ≤ maxLen) (h0 : 0 ≤ x) (h1 : x ≤ 1048576) : (laws_szRangeS.f l x = some (-1) ∧ x < l.length) ∨ (laws_szRangeS.f l x = some (x - l.length) ∧ (l.length : Int) ≤ x) := by
  unfold maxLen at hm
  unfold laws_szRangeS.f
  rw [w64 (by omega) (by omega)]
  by_cases h : x - (l.length : Int) < 0
  · rw [if_pos h]; exact .inl ⟨rfl, by omega⟩
  · rw [if_neg h]; exact .inr ⟨rfl, by omega⟩

theorem rd_set_self (xs : List S26) (i : Nat) (v : S26) (h : i < xs.length) : rd_T26 (xs.set i v) (i : Int) = v := by
  unfold rd_T26
  rw [toNat_cast, getD_lt _ _ _ (by simpa using h), List.getElem_set_self]
theorem mark_l (d : Nat) : ∀ (i : Nat) (xs : List S26) (c : Int), xs.length = i + d → xs.length ≤ 1048576 → 0 ≤ c → c ≤ 1 + 3 * (i : Int) →
    ∃ m ys, Ev (fun k => laws_markRangeS.l0 k xs c i) (m, ys) ∧ ys.length = xs.length ∧ 0 ≤ m ∧ (∀ j, j < i → ys[j]? = xs[j]?) ∧ Ev (fun k => laws_heldRangeS.l0 k ys c i) m := by
  induction d with
  | zero =>
    intro i xs c hd hl h0 h1
    refine ⟨c, xs, ?_, rfl, h0, fun _ _ => rfl, ?_⟩
    · refine Ev.step (fun k => by rw [laws_markRangeS.l0]) ?_
      exact ev_neg (by omega) (Ev.now _)
    · refine Ev.step (fun k => by rw [laws_heldRangeS.l0]) ?_
      exact ev_neg (by omega) (Ev.now _)
  | succ d ih =>
    intro i xs c hd hl h0 h1
    obtain ⟨m, ys, hm, hy, hm0, hk, hh⟩ := ih (i + 1) (xs.set i ⟨IntKind.u64.wrap c, IntKind.u64.wrap (wrap64 (c + 1)), wrap64 (wrap64 (c + 1) + 1)⟩) (c + 3) (by simp; omega) (by simpa using hl) (by omega) (by omega)
    have e1 : wrap64 (wrap64 (wrap64 (c + 1) + 1) + 1) = c + 3 := by unfold wrap64; omega
    refine ⟨m, ys, ?_, by simpa using hy, hm0, fun j hj => ?_, ?_⟩
    · refine Ev.step (fun k => by rw [laws_markRangeS.l0]) ?_
      refine ev_pos (by omega) (ev_pos (by omega) ?_)
      refine Ev.bind (Ev.now _) (Ev.bind (Ev.now _) ?_)
      rw [toNat_cast, rd_set_self _ _ _ (by omega), List.set_set, rd_set_self _ _ _ (by simpa using (show i < xs.length by omega)), List.set_set, e1, wsucc (n := xs.length) (by omega) (by omega)]
      exact hm
    · rw [hk j (by omega), List.getElem?_set_ne (by omega)]
    · have hi : rd_T26 ys (i : Int) = ⟨IntKind.u64.wrap c, IntKind.u64.wrap (wrap64 (c + 1)), wrap64 (wrap64 (c + 1) + 1)⟩ := by
        unfold rd_T26
        rw [toNat_cast, List.getD_eq_getElem?_getD, hk i (by omega), List.getElem?_set_self (by omega)]
        rfl
      have hyl : ys.length = xs.length := by simpa using hy
      refine Ev.step (fun k => by rw [laws_heldRangeS.l0]) ?_
      refine ev_pos (by omega) (ev_pos (by omega) ?_)
      rw [hi]
      refine ev_pos rfl (ev_pos rfl (ev_pos rfl ?_))
      rw [e1, wsucc (n := ys.length) (by omega) (by omega)]
      exact hh
theorem mark_ev (xs : List S26) (hl : xs.length ≤ 1048576) : ∃ m ys, Ev (fun k => laws_markRangeS.f k xs 1) (m, ys) ∧ 0 ≤ m ∧ Ev (fun k => laws_heldRangeS.f k ys 1) m := by
  obtain ⟨m, ys, h1, _, h2, _, h3⟩ := mark_l xs.length 0 xs 1 (by omega) hl (by omega) (by omega)
  exact ⟨m, ys, h1, h2, h3⟩

theorem FnExactMoveRange : Stated := by
  intro l p g ⟨hm, hw⟩ _ _
  refine Ev.rounds (?_ : Ev (fun k => laws_FnExactMoveRange.f k l p g) true)
  unfold laws_FnExactMoveRange.f
  rcases szRangeS_ev l 1048576 hm (by omega) (by omega) with ⟨hs, hn⟩ | ⟨hs, hn⟩
  · exact Ev.bind (ev_const hs) (ev_pos (by omega) (Ev.now _))
  · refine Ev.bind (ev_const hs) (ev_neg (by omega) ?_)
    have hl : l.length ≤ 1048576 := by omega
    have ht := toRangeS_ev l hl
    have hl' : (l.map conv).length ≤ 1048576 := by simpa using hl
    obtain ⟨r, hr, r1, r2⟩ := specMove_ev _ hl' (wf_conv hw) p g
    obtain ⟨r', hr', r1', r2'⟩ := implMove_ev _ hl' (wf_conv hw) p g
    have e : r' = r ∧ r'.1.length ≤ 1048576 := by
      by_cases h : RangesP (l.map conv) ∧ 0 ≤ p ∧ p < (l.map conv).length ∧ 0 ≤ g ∧ g ≤ 99
      · rw [r1 h, r1' h]
        exact ⟨rfl, by simp [moveM]; omega⟩
      · rw [r2 h, r2' h]
        exact ⟨rfl, by simp⟩
    obtain ⟨e, hrl⟩ := e
    subst e
    have heq := eqRangeS_ev r'.1 hrl
    obtain ⟨m, ys, hm1, hm2, hm3⟩ := mark_ev _ hl'
    obtain ⟨m', ys', hm1', hm2', hm3'⟩ := mark_ev r'.1 hrl
    refine Ev.bind ht (Ev.bind hr (Ev.bind ht (Ev.bind hr' (Ev.bind heq (ev_pos rfl ?_)))))
    refine Ev.step (fun k => by rw [laws_FnExactMoveRange.j0]) ?_
    refine ev_neg (by simp) (Ev.bind ht (Ev.bind (eqRangeS_ev _ hl') (ev_pos rfl ?_)))
    refine Ev.bind hm1 (ev_neg (by show ¬ m < 0; omega) (Ev.bind heq (ev_pos rfl ?_)))
    refine Ev.step (fun k => by rw [laws_FnExactMoveRange.j1]) ?_
    refine ev_neg (by simp) (Ev.bind hm1' (Ev.bind hm3' (ev_neg (by omega) (ev_pos rfl ?_))))
    refine Ev.bind ht (Ev.bind hr' (Ev.bind heq (ev_pos rfl ?_)))
    refine Ev.step (fun k => by rw [laws_FnExactMoveRange.j2]) ?_
    exact ev_neg (by simp) (Ev.bind hm3' (ev_neg (by omega) (ev_pos rfl (Ev.now _))))

end Go.Proofs.Ytfabcjkaoidmeaa.Pure
