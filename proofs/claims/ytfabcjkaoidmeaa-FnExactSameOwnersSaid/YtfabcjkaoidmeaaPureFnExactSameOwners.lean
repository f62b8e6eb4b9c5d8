/- The program's SameOwners and the reference's answer alike at every two lists of ranges. No condition. -/
import Derived.Test.YtfabcjkaoidmeaaOpnFnExactSameOwners
import Derived.Test.YtfabcjkaoidmeaaBase
namespace Go.Proofs.Ytfabcjkaoidmeaa.Pure
open Go.RowKit Go.Proofs.Ytfabcjkaoidmeaa.QFnExactSameOwners Go.Proofs.Ytfabcjkaoidmeaa.OpnFnExactSameOwners Go.Proofs.Ytfabcjkaoidmeaa.Base Go.Proofs.YtfabcjkaoidmeaaW.PrintWords Go.Proofs.YtfabcjkaoidmeaaW.PrintLast
set_option linter.unusedVariables false

def wfR (x : S26) : Prop := (0 ≤ x.f0 ∧ x.f0 ≤ 18446744073709551615) ∧ (0 ≤ x.f1 ∧ x.f1 ≤ 18446744073709551615)
theorem wf_at {l : List S26} (h : ∀ x ∈ l, wfR x) (j : Nat) (hj : j < l.length) : wfR (rd_T26 l j) := by
  unfold rd_T26
  rw [toNat_cast]
  exact h _ (getD_mem l j z26 hj)

def conv (x : S24) : S26 := ⟨x.f0, x.f1, x.f2⟩
theorem wf_conv {l : List S24} (h : ∀ x ∈ l, wf24 x) : ∀ x ∈ l.map conv, wfR x := by
  intro x hx
  obtain ⟨y, hy, rfl⟩ := List.mem_map.1 hx
  obtain ⟨h0, h1, _⟩ := h y hy
  exact ⟨wf_u64 h0, wf_u64 h1⟩

theorem toRangeS_l (l : List S24) (hl : l.length ≤ 1048576) (d : Nat) : ∀ (i : Nat) (ys : List S26), l.length = i + d → ys.length = l.length → ys.take i = (l.map conv).take i →
    Ev (fun k => laws_toRangeS.l0 k l ys i) (l.map conv) := by
  induction d with
  | zero =>
    intro i ys hd hy ht
    refine Ev.step (fun k => by rw [laws_toRangeS.l0]) ?_
    refine ev_neg (by omega) ?_
    have : ys = l.map conv := by
      rw [List.take_of_length_le (by omega), List.take_of_length_le (by simp; omega)] at ht
      exact ht
    rw [this]
    exact Ev.now _
  | succ d ih =>
    intro i ys hd hy ht
    refine Ev.step (fun k => by rw [laws_toRangeS.l0]) ?_
    refine ev_pos (by omega) (ev_pos (by omega) ?_)
    refine Ev.bind (ev_const rfl) ?_
    refine ev_pos (by omega) ?_
    rw [wsucc (n := l.length) (by omega) (by omega), toNat_cast]
    refine ih (i + 1) _ (by omega) (by simpa using hy) ?_
    rw [take_set_succ _ _ _ (by omega), take_succ_getD (l.map conv) i z26 (by simp; omega), ht]
    congr 2
    unfold rd_T24
    rw [toNat_cast, getD_lt l i z24 (by omega), getD_lt (l.map conv) i z26 (by simp; omega), List.getElem_map]
    rfl
theorem toRangeS_ev (l : List S24) (hl : l.length ≤ 1048576) : Ev (fun k => laws_toRangeS.f k l) (l.map conv) := by
  unfold laws_toRangeS.f
  refine ev_pos (by omega) (ev_pos (by rw [toNat_cast]; omega) ?_)
  rw [toNat_cast]
  exact toRangeS_l l hl l.length 0 _ (by omega) (by simp) (by simp)

theorem eqRangeS_l (l : List S26) (hl : l.length ≤ 1048576) (d : Nat) : ∀ (i : Nat), l.length = i + d → Ev (fun k => laws_eqRangeS.l0 k l l i) true := by
  induction d with
  | zero =>
    intro i hd
    refine Ev.step (fun k => by rw [laws_eqRangeS.l0]) ?_
    exact ev_neg (by omega) (Ev.now _)
  | succ d ih =>
    intro i hd
    refine Ev.step (fun k => by rw [laws_eqRangeS.l0]) ?_
    refine ev_pos (by omega) (ev_pos (by omega) (ev_pos (by omega) ?_))
    refine Ev.bind (a := true) (ev_const (by unfold laws_eqRange.f; rw [if_pos rfl, if_pos rfl, if_pos rfl])) ?_
    refine ev_pos rfl ?_
    rw [wsucc (n := l.length) (by omega) (by omega)]
    exact ih (i + 1) (by omega)
theorem eqRangeS_ev (l : List S26) (hl : l.length ≤ 1048576) : Ev (fun k => laws_eqRangeS.f k l l) true := by
  unfold laws_eqRangeS.f
  refine ev_pos rfl ?_
  exact eqRangeS_l l hl l.length 0 (by omega)

def stepJ (out : List S26) (r : S26) : List S26 :=
  if 0 < out.length ∧ (rd_T26 out ((out.length - 1 : Nat) : Int)).f2 = r.f2 then out.set (out.length - 1) ⟨(rd_T26 out ((out.length - 1 : Nat) : Int)).f0, r.f1, (rd_T26 out ((out.length - 1 : Nat) : Int)).f2⟩ else out ++ [⟨r.f0, r.f1, r.f2⟩]
theorem stepJ_len (out : List S26) (r : S26) : (stepJ out r).length ≤ out.length + 1 := by
  unfold stepJ
  split <;> simp
theorem stepJ_pos (out : List S26) (r : S26) : 0 < (stepJ out r).length := by
  unfold stepJ
  split
  · rename_i h; rw [List.length_set]; exact h.1
  · simp
theorem foldJ_len : ∀ (l : List S26) (out : List S26), (l.foldl stepJ out).length ≤ out.length + l.length
  | [], out => by simp
  | r :: l, out => by
    have h := foldJ_len l (stepJ out r)
    have h2 := stepJ_len out r
    simp only [List.foldl_cons, List.length_cons]
    omega
theorem drop_cons_rd (l : List S26) (i : Nat) (h : i < l.length) : l.drop i = rd_T26 l (i : Int) :: l.drop (i + 1) := by
  unfold rd_T26
  rw [toNat_cast, getD_lt l i z26 h]
  exact List.drop_eq_getElem_cons h
/-- Neighbours of one group as one. -/
def joinM (l : List S26) : List S26 := l.foldl stepJ []
theorem joinM_len (l : List S26) : (joinM l).length ≤ l.length := by
  have := foldJ_len l []
  simpa [joinM] using this

/-- What is asked of range j. -/
def RP (l : List S26) (j : Nat) : Prop :=
  (rd_T26 l j).f0 ≤ (rd_T26 l j).f1 ∧ (0 ≤ (rd_T26 l j).f2 ∧ (rd_T26 l j).f2 ≤ 99) ∧ (0 < j → (rd_T26 l (j - 1 : Nat)).f1 ≠ 18446744073709551615 ∧ (rd_T26 l j).f0 = (rd_T26 l (j - 1 : Nat)).f1 + 1)
/-- Ranges are all ids. -/
def RangesP (l : List S26) : Prop :=
  1 ≤ l.length ∧ l.length ≤ 24 ∧ (rd_T26 l 0).f0 = 0 ∧ (rd_T26 l ((l.length - 1 : Nat) : Int)).f1 = 18446744073709551615 ∧ ∀ j, j < l.length → RP l j
theorem in_ev (x a b : Int) : ∃ t, spec_l01In.f x a b = some t ∧ (t = true ↔ a ≤ x ∧ x ≤ b) := by
  unfold spec_l01In.f
  by_cases h : a ≤ x
  · rw [if_pos h]
    exact ⟨_, rfl, by simp [h]⟩
  · rw [if_neg h]
    exact ⟨_, rfl, by simp [h]⟩

theorem specRangesOk_l (l : List S26) (hl : l.length ≤ 1048576) (hw : ∀ x ∈ l, wfR x) (d : Nat) : ∀ (i : Nat), l.length = i + d → ∃ b, Ev (fun k => spec_RangesOk.l0 k l i) b ∧ (b = true ↔ ∀ j, i ≤ j → j < l.length → RP l j) := by
  induction d with
  | zero =>
    intro i hd
    refine ⟨true, ?_, ⟨fun _ j h1 h2 => by omega, fun _ => rfl⟩⟩
    refine Ev.step (fun k => by rw [spec_RangesOk.l0]) ?_
    exact ev_neg (by omega) (Ev.now _)
  | succ d ih =>
    intro i hd
    have wi := wf_at hw i (by omega)
    by_cases hP : RP l i
    · obtain ⟨b, hb, hi⟩ := ih (i + 1) (by omega)
      refine ⟨b, ?_, ?_⟩
      · refine Ev.step (fun k => by rw [spec_RangesOk.l0]) ?_
        refine ev_pos (by omega) (ev_pos (by omega) (ev_neg (by have := hP.1; omega) ?_))
        obtain ⟨t, ht, hti⟩ := in_ev (rd_T26 l i).f2 0 99
        refine Ev.bind (ev_const ht) (ev_pos (hti.2 hP.2.1) ?_)
        by_cases h0 : 0 < i
        · refine ev_pos (by omega) ?_
          rw [wpred h0 (by omega), wsucc (n := l.length) (by omega) (by omega)]
          refine ev_pos (by omega) (ev_pos (by omega) (ev_neg (hP.2.2 h0).1 (ev_pos ?_ hb)))
          have wp := wf_at hw (i - 1) (by omega)
          rw [u64w (by have := wp.2.1; omega) (by have := wp.2.2; have := (hP.2.2 h0).1; omega)]
          exact (hP.2.2 h0).2
        · refine ev_neg (by omega) ?_
          rw [wsucc (n := l.length) (by omega) (by omega)]
          exact hb
      · rw [hi]
        refine ⟨fun h j h1 h2 => ?_, fun h j h1 h2 => h j (by omega) h2⟩
        by_cases e : j = i
        · subst e; exact hP
        · exact h j (by omega) h2
    · refine ⟨false, ?_, ⟨fun h => (by cases h), fun h => absurd (h i (Nat.le_refl _) (by omega)) hP⟩⟩
      refine Ev.step (fun k => by rw [spec_RangesOk.l0]) ?_
      refine ev_pos (by omega) (ev_pos (by omega) ?_)
      by_cases h1 : (rd_T26 l i).f0 > (rd_T26 l i).f1
      · exact ev_pos h1 (Ev.now _)
      · refine ev_neg h1 ?_
        obtain ⟨t, ht, hti⟩ := in_ev (rd_T26 l i).f2 0 99
        refine Ev.bind (ev_const ht) ?_
        by_cases h2 : t = true
        · refine ev_pos h2 ?_
          by_cases h0 : 0 < i
          · refine ev_pos (by omega) ?_
            rw [wpred h0 (by omega)]
            refine ev_pos (by omega) (ev_pos (by omega) ?_)
            by_cases h3 : (rd_T26 l (i - 1 : Nat)).f1 = 18446744073709551615
            · exact ev_pos h3 (Ev.now _)
            · refine ev_neg h3 (ev_neg ?_ (Ev.now _))
              have wp := wf_at hw (i - 1) (by omega)
              rw [u64w (by have := wp.2.1; omega) (by have := wp.2.2; omega)]
              exact fun h4 => hP ⟨by omega, hti.1 h2, fun _ => ⟨h3, h4⟩⟩
          · exact absurd ⟨by omega, hti.1 h2, fun h => absurd h h0⟩ hP
        · exact ev_neg h2 (Ev.now _)
theorem specRangesOk_ev (l : List S26) (hl : l.length ≤ 1048576) (hw : ∀ x ∈ l, wfR x) : ∃ b, Ev (fun k => spec_RangesOk.f k l) b ∧ (b = true ↔ RangesP l) := by
  have hj : ∀ (x : Bool), x = true → Ev (fun k => spec_RangesOk.j0 k l x) false := fun x hx => by
    refine Ev.step (fun k => by rw [spec_RangesOk.j0]) ?_
    exact ev_pos hx (Ev.now _)
  unfold spec_RangesOk.f
  obtain ⟨t, ht, hti⟩ := in_ev (l.length : Int) 1 24
  by_cases h1 : t = true
  · have h2 := hti.1 h1
    by_cases h3 : (rd_T26 l 0).f0 = 0
    · by_cases h4 : (rd_T26 l ((l.length - 1 : Nat) : Int)).f1 = 18446744073709551615
      · obtain ⟨b, hb, hi⟩ := specRangesOk_l l hl hw l.length 0 (by omega)
        refine ⟨b, ?_, ?_⟩
        · refine Ev.bind (ev_const ht) (ev_pos h1 (ev_pos (by omega) (ev_pos h3 ?_)))
          rw [wpred (by omega) (by omega)]
          refine ev_pos (by omega) (ev_pos (by omega) ?_)
          refine Ev.step (fun k => by rw [spec_RangesOk.j0]) ?_
          exact ev_neg (by rw [h4]; decide) hb
        · rw [hi]
          exact ⟨fun h => ⟨by omega, by omega, h3, h4, fun j => h j (Nat.zero_le _)⟩, fun h j _ => h.2.2.2.2 j⟩
      · refine ⟨false, ?_, ⟨fun h => (by cases h), fun h => absurd h.2.2.2.1 h4⟩⟩
        refine Ev.bind (ev_const ht) (ev_pos h1 (ev_pos (by omega) (ev_pos h3 ?_)))
        rw [wpred (by omega) (by omega)]
        refine ev_pos (by omega) (ev_pos (by omega) (hj _ (by simpa using h4)))
    · refine ⟨false, ?_, ⟨fun h => (by cases h), fun h => absurd h.2.2.1 h3⟩⟩
      exact Ev.bind (ev_const ht) (ev_pos h1 (ev_pos (by omega) (ev_neg h3 (hj _ rfl))))
  · refine ⟨false, ?_, ⟨fun h => (by cases h), fun h => absurd (hti.2 ⟨by have := h.1; omega, by have := h.2.1; omega⟩) h1⟩⟩
    exact Ev.bind (ev_const ht) (ev_neg h1 (hj _ rfl))

theorem specJoined_l (l : List S26) (hl : l.length ≤ 1048576) (d : Nat) : ∀ (i : Nat) (out : List S26), l.length = i + d → out.length ≤ i → 0 < out.length → Ev (fun k => spec_Joined.l0 k l out i) ((l.drop i).foldl stepJ out) := by
  induction d with
  | zero =>
    intro i out hd ho hp
    refine Ev.step (fun k => by rw [spec_Joined.l0]) ?_
    refine ev_neg (by omega) ?_
    rw [List.drop_of_length_le (by omega)]
    exact Ev.now _
  | succ d ih =>
    intro i out hd ho hp
    rw [drop_cons_rd l i (by omega), List.foldl_cons]
    refine Ev.step (fun k => by rw [spec_Joined.l0]) ?_
    have hs := stepJ_len out (rd_T26 l i)
    have := ih (i + 1) (stepJ out (rd_T26 l i)) (by omega) (by omega) (stepJ_pos _ _)
    refine ev_pos (by omega) ?_
    rw [wsucc (n := l.length) (by omega) (by omega), wpred hp (by omega)]
    refine ev_pos (by omega) (ev_pos (by omega) (ev_pos (by omega) ?_))
    by_cases h1 : (rd_T26 out ((out.length - 1 : Nat) : Int)).f2 = (rd_T26 l i).f2
    · refine ev_pos h1 ?_
      rw [stepJ, if_pos ⟨hp, h1⟩] at this
      rw [toNat_cast, stepJ, if_pos ⟨hp, h1⟩]
      exact this
    · refine ev_neg h1 (ev_pos (by omega) ?_)
      rw [stepJ, if_neg (fun h => h1 h.2)] at this
      rw [stepJ, if_neg (fun h => h1 h.2)]
      exact this
theorem specJoined_ev (l : List S26) (hl : l.length ≤ 1048576) (hw : ∀ x ∈ l, wfR x) : ∃ r, Ev (fun k => spec_Joined.f k l) r ∧ (RangesP l → r = joinM l) ∧ (¬ RangesP l → r = []) := by
  obtain ⟨b, hb, hi⟩ := specRangesOk_ev l hl hw
  unfold spec_Joined.f
  by_cases h : b = true
  · have hP := hi.1 h
    have h1 := hP.1
    have := specJoined_l l hl (l.length - 1) 1 [⟨(rd_T26 l 0).f0, (rd_T26 l 0).f1, (rd_T26 l 0).f2⟩] (by omega) (by simp) (by simp)
    refine ⟨_, Ev.bind hb (ev_pos h (ev_pos (by omega) this)), fun _ => ?_, fun h => absurd hP h⟩
    have e := drop_cons_rd l 0 (by omega)
    rw [List.drop_zero] at e
    rw [joinM, congrArg (List.foldl stepJ []) e, List.foldl_cons]
    rfl
  · exact ⟨[], Ev.bind hb (ev_neg h (Ev.now _)), fun hP => absurd (hi.2 hP) h, fun _ => rfl⟩

theorem implJoined_l (l : List S26) (hl : l.length ≤ 1048576) (d : Nat) : ∀ (i : Nat) (out : List S26), l.length = i + d → out.length ≤ i → Ev (fun k => impl_joined.l0 k out l (l.length : Int) i) ((l.drop i).foldl stepJ out) := by
  induction d with
  | zero =>
    intro i out hd ho
    refine Ev.step (fun k => by rw [impl_joined.l0]) ?_
    refine ev_neg (by omega) ?_
    rw [List.drop_of_length_le (by omega)]
    exact Ev.now _
  | succ d ih =>
    intro i out hd ho
    rw [drop_cons_rd l i (by omega), List.foldl_cons]
    refine Ev.step (fun k => by rw [impl_joined.l0]) ?_
    refine ev_pos (by omega) (ev_pos (by omega) (ev_pos (by omega) ?_))
    rw [wsucc (n := l.length) (by omega) (by omega)]
    have hs := stepJ_len out (rd_T26 l i)
    have := ih (i + 1) (stepJ out (rd_T26 l i)) (by omega) (by omega)
    by_cases h0 : 0 < out.length
    · rw [wpred h0 (by omega)]
      refine ev_pos (by omega) (ev_pos (by omega) (ev_pos (by omega) ?_))
      by_cases h1 : (rd_T26 out ((out.length - 1 : Nat) : Int)).f2 = (rd_T26 l i).f2
      · refine ev_pos h1 ?_
        rw [stepJ, if_pos ⟨h0, h1⟩] at this
        rw [toNat_cast, stepJ, if_pos ⟨h0, h1⟩]
        exact this
      · refine ev_neg h1 (ev_pos (by omega) ?_)
        rw [stepJ, if_neg (fun h => h1 h.2)] at this
        rw [stepJ, if_neg (fun h => h1 h.2)]
        exact this
    · have e : out.length = 0 := by omega
      refine ev_neg (by rw [e]; unfold wrap64; omega) (ev_pos (by omega) ?_)
      rw [stepJ, if_neg (fun h => h0 h.1)] at this
      rw [stepJ, if_neg (fun h => h0 h.1)]
      exact this
theorem implJoined_ev (l : List S26) (hl : l.length ≤ 1048576) : Ev (fun k => impl_joined.f k l) (joinM l) := by
  have := implJoined_l l hl l.length 0 [] (by omega) (by simp)
  rw [List.drop_zero] at this
  exact this

theorem group_ev (x : Int) : ∃ t, impl_isGroupId.f x = some t ∧ (t = true ↔ 0 ≤ x ∧ x ≤ 99) := by
  unfold impl_isGroupId.f
  by_cases h : x ≥ 0
  · rw [if_pos h]
    exact ⟨_, rfl, by simp; omega⟩
  · rw [if_neg h]
    exact ⟨_, rfl, by simp; omega⟩
theorem areRanges_l (l : List S26) (hl : l.length ≤ 1048576) (hw : ∀ x ∈ l, wfR x) (d : Nat) : ∀ (i : Nat), l.length = i + d → ∃ b, Ev (fun k => impl_areRanges.l0 k l l (l.length : Int) i) b ∧ (b = true ↔ ∀ j, i ≤ j → j < l.length → RP l j) := by
  induction d with
  | zero =>
    intro i hd
    refine ⟨true, ?_, ⟨fun _ j h1 h2 => by omega, fun _ => rfl⟩⟩
    refine Ev.step (fun k => by rw [impl_areRanges.l0]) ?_
    exact ev_neg (by omega) (Ev.now _)
  | succ d ih =>
    intro i hd
    have wi := wf_at hw i (by omega)
    by_cases hP : RP l i
    · obtain ⟨b, hb, hi⟩ := ih (i + 1) (by omega)
      refine ⟨b, ?_, ?_⟩
      · refine Ev.step (fun k => by rw [impl_areRanges.l0]) ?_
        refine ev_pos (by omega) (ev_pos (by omega) (ev_pos (by omega) (ev_neg (by have := hP.1; omega) ?_)))
        obtain ⟨t, ht, hti⟩ := group_ev (rd_T26 l i).f2
        refine Ev.bind (ev_const ht) (ev_pos (hti.2 hP.2.1) ?_)
        by_cases h0 : 0 < i
        · have wp := wf_at hw (i - 1) (by omega)
          have h5 := hP.2.2 h0
          refine ev_pos (by omega) (ev_neg (by have := wp.2.1; omega) ?_)
          rw [wpred h0 (by omega), wsucc (n := l.length) (by omega) (by omega)]
          refine ev_pos (by omega) (ev_pos (by omega) (ev_pos ?_ hb))
          rw [u64w (by have := wp.2.1; omega) (by have := wi.1.2; omega)]
          omega
        · refine ev_neg (by omega) ?_
          rw [wsucc (n := l.length) (by omega) (by omega)]
          exact hb
      · rw [hi]
        refine ⟨fun h j h1 h2 => ?_, fun h j h1 h2 => h j (by omega) h2⟩
        by_cases e : j = i
        · subst e; exact hP
        · exact h j (by omega) h2
    · refine ⟨false, ?_, ⟨fun h => (by cases h), fun h => absurd (h i (Nat.le_refl _) (by omega)) hP⟩⟩
      refine Ev.step (fun k => by rw [impl_areRanges.l0]) ?_
      refine ev_pos (by omega) (ev_pos (by omega) (ev_pos (by omega) ?_))
      by_cases h1 : (rd_T26 l i).f0 > (rd_T26 l i).f1
      · exact ev_pos h1 (Ev.now _)
      · refine ev_neg h1 ?_
        obtain ⟨t, ht, hti⟩ := group_ev (rd_T26 l i).f2
        refine Ev.bind (ev_const ht) ?_
        by_cases h2 : t = true
        · refine ev_pos h2 ?_
          by_cases h0 : 0 < i
          · refine ev_pos (by omega) ?_
            by_cases h3 : (rd_T26 l i).f0 = 0
            · exact ev_pos h3 (Ev.now _)
            · refine ev_neg h3 ?_
              have wp := wf_at hw (i - 1) (by omega)
              rw [wpred h0 (by omega)]
              refine ev_pos (by omega) (ev_pos (by omega) (ev_neg ?_ (Ev.now _)))
              rw [u64w (by have := wi.1.1; omega) (by have := wi.1.2; omega)]
              exact fun h4 => hP ⟨by omega, hti.1 h2, fun _ => ⟨by have := wi.1.2; omega, by omega⟩⟩
          · exact absurd ⟨by omega, hti.1 h2, fun h => absurd h h0⟩ hP
        · exact ev_neg h2 (Ev.now _)
theorem areRanges_ev (l : List S26) (hl : l.length ≤ 1048576) (hw : ∀ x ∈ l, wfR x) : ∃ b, Ev (fun k => impl_areRanges.f k l) b ∧ (b = true ↔ RangesP l) := by
  have hj : ∀ (x : Bool), x = true → Ev (fun k => impl_areRanges.j0 k l x) false := fun x hx => by
    refine Ev.step (fun k => by rw [impl_areRanges.j0]) ?_
    exact ev_pos hx (Ev.now _)
  unfold impl_areRanges.f
  by_cases h1 : (l.length : Int) < 1
  · exact ⟨false, ev_pos h1 (hj _ rfl), ⟨fun h => (by cases h), fun h => by have := h.1; omega⟩⟩
  by_cases h2 : (l.length : Int) > 24
  · exact ⟨false, ev_neg h1 (ev_pos h2 (hj _ rfl)), ⟨fun h => (by cases h), fun h => by have := h.2.1; omega⟩⟩
  by_cases h3 : (rd_T26 l 0).f0 = 0
  · by_cases h4 : (rd_T26 l ((l.length - 1 : Nat) : Int)).f1 = 18446744073709551615
    · obtain ⟨b, hb, hi⟩ := areRanges_l l hl hw l.length 0 (by omega)
      refine ⟨b, ?_, ?_⟩
      · refine ev_neg h1 (ev_neg h2 (ev_pos (by omega) (ev_pos h3 ?_)))
        rw [wpred (by omega) (by omega)]
        refine ev_pos (by omega) (ev_pos (by omega) ?_)
        refine Ev.step (fun k => by rw [impl_areRanges.j0]) ?_
        exact ev_neg (by rw [h4]; decide) hb
      · rw [hi]
        exact ⟨fun h => ⟨by omega, by omega, h3, h4, fun j => h j (Nat.zero_le _)⟩, fun h j _ => h.2.2.2.2 j⟩
    · refine ⟨false, ?_, ⟨fun h => (by cases h), fun h => absurd h.2.2.2.1 h4⟩⟩
      refine ev_neg h1 (ev_neg h2 (ev_pos (by omega) (ev_pos h3 ?_)))
      rw [wpred (by omega) (by omega)]
      refine ev_pos (by omega) (ev_pos (by omega) (hj _ (by simpa using h4)))
  · refine ⟨false, ?_, ⟨fun h => (by cases h), fun h => absurd h.2.2.1 h3⟩⟩
    exact ev_neg h1 (ev_neg h2 (ev_pos (by omega) (ev_neg h3 (hj _ rfl))))

theorem szRangeS_ev (l : List S24) (x : Int) (hm : l.length ≤ maxLen) (h0 : 0 ≤ x) (h1 : x ≤ 1048576) : (laws_szRangeS.f l x = some (-1) ∧ x < l.length) ∨ (laws_szRangeS.f l x = some (x - l.length) ∧ (l.length : Int) ≤ x) := by
  unfold maxLen at hm
  unfold laws_szRangeS.f
  rw [w64 (by omega) (by omega)]
  by_cases h : x - (l.length : Int) < 0
  · rw [if_pos h]; exact .inl ⟨rfl, by omega⟩
  · rw [if_neg h]; exact .inr ⟨rfl, by omega⟩

theorem joinM_pos (l : List S26) (h : 0 < l.length) : 0 < (joinM l).length := by
  have aux : ∀ (l : List S26) (out : List S26), 0 < out.length → 0 < (l.foldl stepJ out).length := by
    intro l
    induction l with
    | nil => intro out h; exact h
    | cons r l ih => intro out _; exact ih _ (stepJ_pos out r)
  cases l with
  | nil => simp at h
  | cons r l => exact aux l _ (stepJ_pos [] r)
theorem neR (a b : S26) : ((!(a.f0 == b.f0) || (!(a.f1 == b.f1) || (!(a.f2 == b.f2)))) = true) ↔ a ≠ b := by
  obtain ⟨a0, a1, a2⟩ := a
  obtain ⟨b0, b1, b2⟩ := b
  by_cases h0 : a0 = b0
  · by_cases h1 : a1 = b1
    · by_cases h2 : a2 = b2
      · simp [h0, h1, h2]
      · simp [h2]
    · simp [h1]
  · simp [h0]
theorem ext_rd {a b : List S26} (h : a.length = b.length) (he : ∀ j : Nat, j < a.length → rd_T26 a j = rd_T26 b j) : a = b := by
  apply List.ext_getElem h
  intro i h1 h2
  have := he i h1
  unfold rd_T26 at this
  rwa [toNat_cast, getD_lt _ _ _ h1, getD_lt _ _ _ h2] at this
theorem specSame_l (a b : List S26) (hl : a.length ≤ 1048576) (he : a.length = b.length) (d : Nat) : ∀ (i : Nat), a.length = i + d → ∃ t, Ev (fun k => spec_SameOwners.l0 k a b i) t ∧ (t = true ↔ ∀ j : Nat, i ≤ j → j < a.length → rd_T26 a j = rd_T26 b j) := by
  induction d with
  | zero =>
    intro i hd
    refine ⟨true, ?_, ⟨fun _ j h1 h2 => by omega, fun _ => rfl⟩⟩
    refine Ev.step (fun k => by rw [spec_SameOwners.l0]) ?_
    exact ev_neg (by omega) (Ev.now _)
  | succ d ih =>
    intro i hd
    by_cases h : rd_T26 a i = rd_T26 b i
    · obtain ⟨t, ht, hi⟩ := ih (i + 1) (by omega)
      refine ⟨t, ?_, ?_⟩
      · refine Ev.step (fun k => by rw [spec_SameOwners.l0]) ?_
        refine ev_pos (by omega) (ev_pos (by omega) (ev_pos (by omega) (ev_neg ?_ ?_)))
        · rw [neR]; exact fun hn => hn h
        · rw [wsucc (n := a.length) (by omega) (by omega)]; exact ht
      · rw [hi]
        refine ⟨fun h' j h1 h2 => ?_, fun h' j h1 h2 => h' j (by omega) h2⟩
        by_cases e : j = i
        · subst e; exact h
        · exact h' j (by omega) h2
    · refine ⟨false, ?_, ⟨fun h => (by cases h), fun h' => absurd (h' i (Nat.le_refl _) (by omega)) h⟩⟩
      refine Ev.step (fun k => by rw [spec_SameOwners.l0]) ?_
      exact ev_pos (by omega) (ev_pos (by omega) (ev_pos (by omega) (ev_pos ((neR _ _).2 h) (Ev.now _))))
theorem rangeEq_l (a b : List S26) (hl : a.length ≤ 1048576) (he : a.length = b.length) (d : Nat) : ∀ (i : Nat), a.length = i + d → ∃ t, Ev (fun k => impl_Range.l0 k a b (a.length : Int) i) t ∧ (t = true ↔ ∀ j : Nat, i ≤ j → j < a.length → rd_T26 a j = rd_T26 b j) := by
  induction d with
  | zero =>
    intro i hd
    refine ⟨true, ?_, ⟨fun _ j h1 h2 => by omega, fun _ => rfl⟩⟩
    refine Ev.step (fun k => by rw [impl_Range.l0]) ?_
    exact ev_neg (by omega) (Ev.now _)
  | succ d ih =>
    intro i hd
    by_cases h : rd_T26 a i = rd_T26 b i
    · obtain ⟨t, ht, hi⟩ := ih (i + 1) (by omega)
      refine ⟨t, ?_, ?_⟩
      · refine Ev.step (fun k => by rw [impl_Range.l0]) ?_
        refine ev_pos (by omega) (ev_pos (by omega) (ev_pos (by omega) (ev_pos (by omega) (ev_neg ?_ ?_))))
        · rw [neR]; exact fun hn => hn h
        · rw [wsucc (n := a.length) (by omega) (by omega)]; exact ht
      · rw [hi]
        refine ⟨fun h' j h1 h2 => ?_, fun h' j h1 h2 => h' j (by omega) h2⟩
        by_cases e : j = i
        · subst e; exact h
        · exact h' j (by omega) h2
    · refine ⟨false, ?_, ⟨fun h => (by cases h), fun h' => absurd (h' i (Nat.le_refl _) (by omega)) h⟩⟩
      refine Ev.step (fun k => by rw [impl_Range.l0]) ?_
      exact ev_pos (by omega) (ev_pos (by omega) (ev_pos (by omega) (ev_pos (by omega) (ev_pos ((neR _ _).2 h) (Ev.now _)))))
theorem rangeEq_ev (a b : List S26) (hl : a.length ≤ 1048576) : ∃ t, Ev (fun k => impl_Range.f k a b) t ∧ (t = true ↔ a = b) := by
  unfold impl_Range.f
  by_cases he : a.length = b.length
  · obtain ⟨t, ht, hi⟩ := rangeEq_l a b hl he a.length 0 (by omega)
    refine ⟨t, ev_pos (by omega) ht, hi.trans ⟨fun h => ext_rd he (fun j hj => h j (Nat.zero_le _) hj), fun h j _ _ => by rw [h]⟩⟩
  · exact ⟨false, ev_neg (by omega) (Ev.now _), ⟨fun h => (by cases h), fun h => absurd (congrArg _ h) he⟩⟩
theorem specSame_ev (a b : List S26) (ha : a.length ≤ 1048576) (hb : b.length ≤ 1048576) (wa : ∀ x ∈ a, wfR x) (wb : ∀ x ∈ b, wfR x) : ∃ t, Ev (fun k => spec_SameOwners.f k a b) t ∧ (t = true ↔ RangesP a ∧ RangesP b ∧ joinM a = joinM b) := by
  obtain ⟨r, hr, r1, r2⟩ := specJoined_ev a ha wa
  obtain ⟨q, hq, q1, q2⟩ := specJoined_ev b hb wb
  have hj : ∀ (x : Bool), x = true → Ev (fun k => spec_SameOwners.j0 k r q x) false := fun x hx => by
    refine Ev.step (fun k => by rw [spec_SameOwners.j0]) ?_
    exact ev_pos hx (Ev.now _)
  unfold spec_SameOwners.f
  by_cases h0 : r.length = 0
  · refine ⟨false, Ev.bind hr (Ev.bind hq (ev_pos (by omega) (hj _ rfl))), ⟨fun h => (by cases h), fun h => ?_⟩⟩
    have := joinM_pos a (by have := h.1.1; omega)
    rw [← r1 h.1] at this
    omega
  · have hPa : RangesP a := Classical.byContradiction fun h => h0 (by rw [r2 h]; rfl)
    have hrl : r.length ≤ 1048576 := by rw [r1 hPa]; exact Nat.le_trans (joinM_len _) ha
    by_cases he : r.length = q.length
    · have hPb : RangesP b := Classical.byContradiction fun h => h0 (by rw [he, q2 h]; rfl)
      obtain ⟨t, ht, hi⟩ := specSame_l r q hrl he r.length 0 (by omega)
      refine ⟨t, Ev.bind hr (Ev.bind hq (ev_neg (by omega) ?_)), ?_⟩
      · refine Ev.step (fun k => by rw [spec_SameOwners.j0]) ?_
        exact ev_neg (by rw [he]; simp) ht
      · rw [hi, r1 hPa, q1 hPb]
        rw [r1 hPa, q1 hPb] at he
        exact ⟨fun h => ⟨hPa, hPb, ext_rd he (fun j hj => h j (Nat.zero_le _) hj)⟩, fun h j _ _ => by rw [h.2.2]⟩
    · refine ⟨false, Ev.bind hr (Ev.bind hq (ev_neg (by omega) (hj _ (by simp; omega)))), ⟨fun h => (by cases h), fun h => ?_⟩⟩
      exact absurd (by rw [r1 h.1, q1 h.2.1, h.2.2]) he
theorem implSame_ev (a b : List S26) (ha : a.length ≤ 1048576) (hb : b.length ≤ 1048576) (wa : ∀ x ∈ a, wfR x) (wb : ∀ x ∈ b, wfR x) : ∃ t, Ev (fun k => impl_SameOwners.f k a b) t ∧ (t = true ↔ RangesP a ∧ RangesP b ∧ joinM a = joinM b) := by
  obtain ⟨x, hx, xi⟩ := areRanges_ev a ha wa
  obtain ⟨y, hy, yi⟩ := areRanges_ev b hb wb
  obtain ⟨t, ht, hi⟩ := rangeEq_ev (joinM a) (joinM b) (Nat.le_trans (joinM_len _) ha)
  unfold impl_SameOwners.f
  by_cases h1 : x = true
  · by_cases h2 : y = true
    · refine ⟨t, Ev.bind hx (ev_pos h1 (Ev.bind hy (ev_pos h2 (Ev.bind (implJoined_ev a ha) (Ev.bind (implJoined_ev b hb) (Ev.bind ht (Ev.now _))))))), ?_⟩
      rw [hi]
      exact ⟨fun h => ⟨xi.1 h1, yi.1 h2, h⟩, fun h => h.2.2⟩
    · exact ⟨false, Ev.bind hx (ev_pos h1 (Ev.bind hy (ev_neg h2 (Ev.now _)))), ⟨fun h => (by cases h), fun h => absurd (yi.2 h.2.1) h2⟩⟩
  · exact ⟨false, Ev.bind hx (ev_neg h1 (Ev.now _)), ⟨fun h => (by cases h), fun h => absurd (xi.2 h.1) h1⟩⟩
theorem FnExactSameOwners : Stated := by
  intro a b ⟨ma, wa⟩ ⟨mb, wb⟩
  refine Ev.rounds (?_ : Ev (fun k => laws_FnExactSameOwners.f k a b) true)
  unfold laws_FnExactSameOwners.f
  rcases szRangeS_ev a 1048576 ma (by omega) (by omega) with ⟨hs, hn⟩ | ⟨hs, hn⟩
  · exact Ev.bind (ev_const hs) (ev_pos (by omega) (Ev.now _))
  refine Ev.bind (ev_const hs) (ev_neg (by omega) ?_)
  rcases szRangeS_ev b (1048576 - (a.length : Int)) mb (by omega) (by omega) with ⟨hs2, hn2⟩ | ⟨hs2, hn2⟩
  · exact Ev.bind (ev_const hs2) (ev_pos (by omega) (Ev.now _))
  refine Ev.bind (ev_const hs2) (ev_neg (by omega) ?_)
  have ha : a.length ≤ 1048576 := by omega
  have hb : b.length ≤ 1048576 := by omega
  have ta := toRangeS_ev a ha
  have tb := toRangeS_ev b hb
  have ha' : (a.map conv).length ≤ 1048576 := by simpa using ha
  have hb' : (b.map conv).length ≤ 1048576 := by simpa using hb
  obtain ⟨t, ht, hi⟩ := specSame_ev _ _ ha' hb' (wf_conv wa) (wf_conv wb)
  obtain ⟨t', ht', hi'⟩ := implSame_ev _ _ ha' hb' (wf_conv wa) (wf_conv wb)
  have e : t' = t := Bool.eq_iff_iff.2 (hi'.trans hi.symm)
  subst e
  refine Ev.bind ta (Ev.bind tb (Ev.bind ht (Ev.bind ta (Ev.bind tb (Ev.bind ht' (ev_neg (by simp) ?_))))))
  refine Ev.bind ta (Ev.bind (eqRangeS_ev _ ha') (ev_pos rfl ?_))
  exact Ev.bind tb (Ev.bind (eqRangeS_ev _ hb') (ev_pos rfl (Ev.now _)))

end Go.Proofs.Ytfabcjkaoidmeaa.Pure
