/- The law FnExactOwners answers true at every input. No condition. -/
import Derived.Test.YtfabcjkaoidmeaaOpnFnExactOwners
import Derived.Test.YtfabcjkaoidmeaaBase
namespace Go.Proofs.Ytfabcjkaoidmeaa.Pure
open Go.RowKit Go.Proofs.Ytfabcjkaoidmeaa.QFnExactOwners Go.Proofs.Ytfabcjkaoidmeaa.OpnFnExactOwners Go.Proofs.Ytfabcjkaoidmeaa.Base Go.Proofs.YtfabcjkaoidmeaaW.PrintWords Go.Proofs.YtfabcjkaoidmeaaW.PrintLast
set_option linter.unusedVariables false

def wfR (x : S26) : Prop := (0 ≤ x.f0 ∧ x.f0 ≤ 18446744073709551615) ∧ (0 ≤ x.f1 ∧ x.f1 ≤ 18446744073709551615)
theorem wf_at {l : List S26} (h : ∀ x ∈ l, wfR x) (j : Nat) (hj : j < l.length) : wfR (rd_T26 l j) := by
  unfold rd_T26
  rw [toNat_cast]
  exact h _ (getD_mem l j z26 hj)

def conv (x : S24) : S26 := ⟨x.f0, x.f1, x.f2⟩
theorem wf_conv {l : List S24} (h : ∀ x ∈ l, wf24 x) : ∀ x ∈ l.map conv, wfR x := by
  intro x hx
  obtain ⟨y, hy, rfl⟩ := List.mem_map.1 hx
  obtain ⟨h0, h1, _⟩ := h y hy
  exact ⟨wf_u64 h0, wf_u64 h1⟩

theorem toRangeS_l (l : List S24) (hl : l.length ≤ 1048576) (d : Nat) : ∀ (i : Nat) (ys : List S26), l.length = i + d → ys.length = l.length → ys.take i = (l.map conv).take i →
    Ev (fun k => laws_toRangeS.l0 k l ys i) (l.map conv) := by
  induction d with
  | zero =>
    intro i ys hd hy ht
    refine Ev.step (fun k => by rw [laws_toRangeS.l0]) ?_
    refine ev_neg (by omega) ?_
    have : ys = l.map conv := by
      rw [List.take_of_length_le (by omega), List.take_of_length_le (by simp; omega)] at ht
      exact ht
    rw [this]
    exact Ev.now _
  | succ d ih =>
    intro i ys hd hy ht
    refine Ev.step (fun k => by rw [laws_toRangeS.l0]) ?_
    refine ev_pos (by omega) (ev_pos (by omega) ?_)
    refine Ev.bind (ev_const rfl) ?_
    refine ev_pos (by omega) ?_
    rw [wsucc (n := l.length) (by omega) (by omega), toNat_cast]
    refine ih (i + 1) _ (by omega) (by simpa using hy) ?_
    rw [take_set_succ _ _ _ (by omega), take_succ_getD (l.map conv) i z26 (by simp; omega), ht]
    congr 2
    unfold rd_T24
    rw [toNat_cast, getD_lt l i z24 (by omega), getD_lt (l.map conv) i z26 (by simp; omega), List.getElem_map]
    rfl
theorem toRangeS_ev (l : List S24) (hl : l.length ≤ 1048576) : Ev (fun k => laws_toRangeS.f k l) (l.map conv) := by
  unfold laws_toRangeS.f
  refine ev_pos (by omega) (ev_pos (by rw [toNat_cast]; omega) ?_)
  rw [toNat_cast]
  exact toRangeS_l l hl l.length 0 _ (by omega) (by simp) (by simp)

theorem eqRangeS_l (l : List S26) (hl : l.length ≤ 1048576) (d : Nat) : ∀ (i : Nat), l.length = i + d → Ev (fun k => laws_eqRangeS.l0 k l l i) true := by
  induction d with
  | zero =>
    intro i hd
    refine Ev.step (fun k => by rw [laws_eqRangeS.l0]) ?_
    exact ev_neg (by omega) (Ev.now _)
  | succ d ih =>
    intro i hd
    refine Ev.step (fun k => by rw [laws_eqRangeS.l0]) ?_
    refine ev_pos (by omega) (ev_pos (by omega) (ev_pos (by omega) ?_))
    refine Ev.bind (a := true) (ev_const (by unfold laws_eqRange.f; rw [if_pos rfl, if_pos rfl, if_pos rfl])) ?_
    refine ev_pos rfl ?_
    rw [wsucc (n := l.length) (by omega) (by omega)]
    exact ih (i + 1) (by omega)
theorem eqRangeS_ev (l : List S26) (hl : l.length ≤ 1048576) : Ev (fun k => laws_eqRangeS.f k l l) true := by
  unfold laws_eqRangeS.f
  refine ev_pos rfl ?_
  exact eqRangeS_l l hl l.length 0 (by omega)

theorem szRangeS_ev (l : List S24) (x : Int) (hm : l.length ≤ maxLen) (h0 : 0 ≤ x) (h1 : x ≤ 1048576) : (laws_szRangeS.f l x = some (-1) ∧ x < l.length) ∨ (laws_szRangeS.f l x = some (x - l.length) ∧ (l.length : Int) ≤ x) := by
  unfold maxLen at hm
  unfold laws_szRangeS.f
  rw [w64 (by omega) (by omega)]
  by_cases h : x - (l.length : Int) < 0
  · rw [if_pos h]; exact .inl ⟨rfl, by omega⟩
  · rw [if_neg h]; exact .inr ⟨rfl, by omega⟩

theorem rd_set_self (xs : List S26) (i : Nat) (v : S26) (h : i < xs.length) : rd_T26 (xs.set i v) (i : Int) = v := by
  unfold rd_T26
  rw [toNat_cast, getD_lt _ _ _ (by simpa using h), List.getElem_set_self]
theorem markR_l (d : Nat) : ∀ (i : Nat) (xs : List S26) (c : Int), xs.length = i + d → xs.length ≤ 1048576 → 0 ≤ c → c ≤ 1 + 3 * (i : Int) →
    ∃ m ys, Ev (fun k => laws_markRangeS.l0 k xs c i) (m, ys) ∧ 0 ≤ m := by
  induction d with
  | zero =>
    intro i xs c hd hl h0 h1
    refine ⟨c, xs, ?_, h0⟩
    refine Ev.step (fun k => by rw [laws_markRangeS.l0]) ?_
    exact ev_neg (by omega) (Ev.now _)
  | succ d ih =>
    intro i xs c hd hl h0 h1
    obtain ⟨m, ys, hm, hm0⟩ := ih (i + 1) (xs.set i ⟨IntKind.u64.wrap c, IntKind.u64.wrap (wrap64 (c + 1)), wrap64 (wrap64 (c + 1) + 1)⟩) (c + 3) (by simp; omega) (by simpa using hl) (by omega) (by omega)
    have e1 : wrap64 (wrap64 (wrap64 (c + 1) + 1) + 1) = c + 3 := by unfold wrap64; omega
    refine ⟨m, ys, ?_, hm0⟩
    refine Ev.step (fun k => by rw [laws_markRangeS.l0]) ?_
    refine ev_pos (by omega) (ev_pos (by omega) ?_)
    refine Ev.bind (Ev.now _) (Ev.bind (Ev.now _) ?_)
    rw [toNat_cast, rd_set_self _ _ _ (by omega), List.set_set, rd_set_self _ _ _ (by simpa using (show i < xs.length by omega)), List.set_set, e1, wsucc (n := xs.length) (by omega) (by omega)]
    exact hm
theorem markR_ev (xs : List S26) (hl : xs.length ≤ 1048576) : ∃ m ys, Ev (fun k => laws_markRangeS.f k xs 1) (m, ys) ∧ 0 ≤ m := markR_l xs.length 0 xs 1 (by omega) hl (by omega) (by omega)

/-- compact of a sorted list: its members, each once, in order. -/
theorem compactUpTo_sorted (d : Array Int) (hs : ∀ i j, i < j → j < d.size → d[i]! ≤ d[j]!) : ∀ m, m ≤ d.size → (Lib.compactUpTo d m).Pairwise (· < ·) ∧ (∀ x, x ∈ Lib.compactUpTo d m ↔ ∃ j, j < m ∧ d[j]! = x) := by
  intro m
  induction m with
  | zero =>
    intro _
    refine ⟨by simp [Lib.compactUpTo], fun x => ⟨fun h => by simp [Lib.compactUpTo] at h, fun ⟨j, h, _⟩ => by omega⟩⟩
  | succ m ih =>
    intro hm
    obtain ⟨h1, h2⟩ := ih (by omega)
    rw [Lib.compactUpTo_succ]
    by_cases hk : Lib.keeps d m = true
    · rw [if_pos hk]
      have hlt : ∀ j, j < m → d[j]! < d[m]! := fun j hj => by
        have a := hs j m hj (by omega)
        rcases Int.lt_or_eq_of_le a with h | h
        · exact h
        · exfalso
          have b := hs j (m - 1)
          have c : d[m - 1]! ≤ d[m]! := hs (m - 1) m (by omega) (by omega)
          have e : d[m]! = d[m - 1]! := by
            by_cases q : j = m - 1
            · rw [← q]; exact h.symm
            · have := b (by omega) (by omega); omega
          rw [Lib.keeps_neg (by omega) e] at hk
          cases hk
      refine ⟨?_, fun x => ?_⟩
      · rw [List.pairwise_append]
        refine ⟨h1, by simp, fun a ha b hb => ?_⟩
        obtain ⟨j, hj, rfl⟩ := (h2 a).1 ha
        rw [List.mem_singleton] at hb
        rw [hb]
        exact hlt j hj
      · rw [List.mem_append, h2, List.mem_singleton]
        constructor
        · rintro (⟨j, hj, e⟩ | rfl)
          · exact ⟨j, by omega, e⟩
          · exact ⟨m, by omega, rfl⟩
        · rintro ⟨j, hj, e⟩
          by_cases q : j = m
          · subst q; exact .inr e.symm
          · exact .inl ⟨j, by omega, e⟩
    · have hk' : Lib.keeps d m = false := by simpa using hk
      rw [if_neg hk, List.append_nil]
      refine ⟨h1, fun x => ?_⟩
      rw [h2]
      constructor
      · rintro ⟨j, hj, e⟩; exact ⟨j, by omega, e⟩
      · rintro ⟨j, hj, e⟩
        by_cases q : j = m
        · subst q
          by_cases h0 : j = 0
          · subst h0
            rw [Lib.keeps_lt_one d 0 (by omega)] at hk'; cases hk'
          · by_cases q2 : d[j]! = d[j - 1]!
            · exact ⟨j - 1, by omega, q2.symm.trans e⟩
            · rw [Lib.keeps_pos q2] at hk'; cases hk'
        · exact ⟨j, by omega, e⟩

/-- What is asked of range j. -/
def RP (l : List S26) (j : Nat) : Prop :=
  (rd_T26 l j).f0 ≤ (rd_T26 l j).f1 ∧ (0 ≤ (rd_T26 l j).f2 ∧ (rd_T26 l j).f2 ≤ 99) ∧ (0 < j → (rd_T26 l (j - 1 : Nat)).f1 ≠ 18446744073709551615 ∧ (rd_T26 l j).f0 = (rd_T26 l (j - 1 : Nat)).f1 + 1)
/-- Ranges are all ids. -/
def RangesP (l : List S26) : Prop :=
  1 ≤ l.length ∧ l.length ≤ 24 ∧ (rd_T26 l 0).f0 = 0 ∧ (rd_T26 l ((l.length - 1 : Nat) : Int)).f1 = 18446744073709551615 ∧ ∀ j, j < l.length → RP l j
theorem in_ev (x a b : Int) : ∃ t, spec_l01In.f x a b = some t ∧ (t = true ↔ a ≤ x ∧ x ≤ b) := by
  unfold spec_l01In.f
  by_cases h : a ≤ x
  · rw [if_pos h]
    exact ⟨_, rfl, by simp [h]⟩
  · rw [if_neg h]
    exact ⟨_, rfl, by simp [h]⟩

theorem specRangesOk_l (l : List S26) (hl : l.length ≤ 1048576) (hw : ∀ x ∈ l, wfR x) (d : Nat) : ∀ (i : Nat), l.length = i + d → ∃ b, Ev (fun k => spec_RangesOk.l0 k l i) b ∧ (b = true ↔ ∀ j, i ≤ j → j < l.length → RP l j) := by
  induction d with
  | zero =>
    intro i hd
    refine ⟨true, ?_, ⟨fun _ j h1 h2 => by omega, fun _ => rfl⟩⟩
    refine Ev.step (fun k => by rw [spec_RangesOk.l0]) ?_
    exact ev_neg (by omega) (Ev.now _)
  | succ d ih =>
    intro i hd
    have wi := wf_at hw i (by omega)
    by_cases hP : RP l i
    · obtain ⟨b, hb, hi⟩ := ih (i + 1) (by omega)
      refine ⟨b, ?_, ?_⟩
      · refine Ev.step (fun k => by rw [spec_RangesOk.l0]) ?_
        refine ev_pos (by omega) (ev_pos (by omega) (ev_neg (by have := hP.1; omega) ?_))
        obtain ⟨t, ht, hti⟩ := in_ev (rd_T26 l i).f2 0 99
        refine Ev.bind (ev_const ht) (ev_pos (hti.2 hP.2.1) ?_)
        by_cases h0 : 0 < i
        · refine ev_pos (by omega) ?_
          rw [wpred h0 (by omega), wsucc (n := l.length) (by omega) (by omega)]
          refine ev_pos (by omega) (ev_pos (by omega) (ev_neg (hP.2.2 h0).1 (ev_pos ?_ hb)))
          have wp := wf_at hw (i - 1) (by omega)
          rw [u64w (by have := wp.2.1; omega) (by have := wp.2.2; have := (hP.2.2 h0).1; omega)]
          exact (hP.2.2 h0).2
        · refine ev_neg (by omega) ?_
          rw [wsucc (n := l.length) (by omega) (by omega)]
          exact hb
      · rw [hi]
        refine ⟨fun h j h1 h2 => ?_, fun h j h1 h2 => h j (by omega) h2⟩
        by_cases e : j = i
        · subst e; exact hP
        · exact h j (by omega) h2
    · refine ⟨false, ?_, ⟨fun h => (by cases h), fun h => absurd (h i (Nat.le_refl _) (by omega)) hP⟩⟩
      refine Ev.step (fun k => by rw [spec_RangesOk.l0]) ?_
      refine ev_pos (by omega) (ev_pos (by omega) ?_)
      by_cases h1 : (rd_T26 l i).f0 > (rd_T26 l i).f1
      · exact ev_pos h1 (Ev.now _)
      · refine ev_neg h1 ?_
        obtain ⟨t, ht, hti⟩ := in_ev (rd_T26 l i).f2 0 99
        refine Ev.bind (ev_const ht) ?_
        by_cases h2 : t = true
        · refine ev_pos h2 ?_
          by_cases h0 : 0 < i
          · refine ev_pos (by omega) ?_
            rw [wpred h0 (by omega)]
            refine ev_pos (by omega) (ev_pos (by omega) ?_)
            by_cases h3 : (rd_T26 l (i - 1 : Nat)).f1 = 18446744073709551615
            · exact ev_pos h3 (Ev.now _)
            · refine ev_neg h3 (ev_neg ?_ (Ev.now _))
              have wp := wf_at hw (i - 1) (by omega)
              rw [u64w (by have := wp.2.1; omega) (by have := wp.2.2; omega)]
              exact fun h4 => hP ⟨by omega, hti.1 h2, fun _ => ⟨h3, h4⟩⟩
          · exact absurd ⟨by omega, hti.1 h2, fun h => absurd h h0⟩ hP
        · exact ev_neg h2 (Ev.now _)
theorem specRangesOk_ev (l : List S26) (hl : l.length ≤ 1048576) (hw : ∀ x ∈ l, wfR x) : ∃ b, Ev (fun k => spec_RangesOk.f k l) b ∧ (b = true ↔ RangesP l) := by
  have hj : ∀ (x : Bool), x = true → Ev (fun k => spec_RangesOk.j0 k l x) false := fun x hx => by
    refine Ev.step (fun k => by rw [spec_RangesOk.j0]) ?_
    exact ev_pos hx (Ev.now _)
  unfold spec_RangesOk.f
  obtain ⟨t, ht, hti⟩ := in_ev (l.length : Int) 1 24
  by_cases h1 : t = true
  · have h2 := hti.1 h1
    by_cases h3 : (rd_T26 l 0).f0 = 0
    · by_cases h4 : (rd_T26 l ((l.length - 1 : Nat) : Int)).f1 = 18446744073709551615
      · obtain ⟨b, hb, hi⟩ := specRangesOk_l l hl hw l.length 0 (by omega)
        refine ⟨b, ?_, ?_⟩
        · refine Ev.bind (ev_const ht) (ev_pos h1 (ev_pos (by omega) (ev_pos h3 ?_)))
          rw [wpred (by omega) (by omega)]
          refine ev_pos (by omega) (ev_pos (by omega) ?_)
          refine Ev.step (fun k => by rw [spec_RangesOk.j0]) ?_
          exact ev_neg (by rw [h4]; decide) hb
        · rw [hi]
          exact ⟨fun h => ⟨by omega, by omega, h3, h4, fun j => h j (Nat.zero_le _)⟩, fun h j _ => h.2.2.2.2 j⟩
      · refine ⟨false, ?_, ⟨fun h => (by cases h), fun h => absurd h.2.2.2.1 h4⟩⟩
        refine Ev.bind (ev_const ht) (ev_pos h1 (ev_pos (by omega) (ev_pos h3 ?_)))
        rw [wpred (by omega) (by omega)]
        refine ev_pos (by omega) (ev_pos (by omega) (hj _ (by simpa using h4)))
    · refine ⟨false, ?_, ⟨fun h => (by cases h), fun h => absurd h.2.2.1 h3⟩⟩
      exact Ev.bind (ev_const ht) (ev_pos h1 (ev_pos (by omega) (ev_neg h3 (hj _ rfl))))
  · refine ⟨false, ?_, ⟨fun h => (by cases h), fun h => absurd (hti.2 ⟨by have := h.1; omega, by have := h.2.1; omega⟩) h1⟩⟩
    exact Ev.bind (ev_const ht) (ev_neg h1 (hj _ rfl))

theorem group_ev (x : Int) : ∃ t, impl_isGroupId.f x = some t ∧ (t = true ↔ 0 ≤ x ∧ x ≤ 99) := by
  unfold impl_isGroupId.f
  by_cases h : x ≥ 0
  · rw [if_pos h]
    exact ⟨_, rfl, by simp; omega⟩
  · rw [if_neg h]
    exact ⟨_, rfl, by simp; omega⟩
theorem areRanges_l (l : List S26) (hl : l.length ≤ 1048576) (hw : ∀ x ∈ l, wfR x) (d : Nat) : ∀ (i : Nat), l.length = i + d → ∃ b, Ev (fun k => impl_areRanges.l0 k l l (l.length : Int) i) b ∧ (b = true ↔ ∀ j, i ≤ j → j < l.length → RP l j) := by
  induction d with
  | zero =>
    intro i hd
    refine ⟨true, ?_, ⟨fun _ j h1 h2 => by omega, fun _ => rfl⟩⟩
    refine Ev.step (fun k => by rw [impl_areRanges.l0]) ?_
    exact ev_neg (by omega) (Ev.now _)
  | succ d ih =>
    intro i hd
    have wi := wf_at hw i (by omega)
    by_cases hP : RP l i
    · obtain ⟨b, hb, hi⟩ := ih (i + 1) (by omega)
      refine ⟨b, ?_, ?_⟩
      · refine Ev.step (fun k => by rw [impl_areRanges.l0]) ?_
        refine ev_pos (by omega) (ev_pos (by omega) (ev_pos (by omega) (ev_neg (by have := hP.1; omega) ?_)))
        obtain ⟨t, ht, hti⟩ := group_ev (rd_T26 l i).f2
        refine Ev.bind (ev_const ht) (ev_pos (hti.2 hP.2.1) ?_)
        by_cases h0 : 0 < i
        · have wp := wf_at hw (i - 1) (by omega)
          have h5 := hP.2.2 h0
          refine ev_pos (by omega) (ev_neg (by have := wp.2.1; omega) ?_)
          rw [wpred h0 (by omega), wsucc (n := l.length) (by omega) (by omega)]
          refine ev_pos (by omega) (ev_pos (by omega) (ev_pos ?_ hb))
          rw [u64w (by have := wp.2.1; omega) (by have := wi.1.2; omega)]
          omega
        · refine ev_neg (by omega) ?_
          rw [wsucc (n := l.length) (by omega) (by omega)]
          exact hb
      · rw [hi]
        refine ⟨fun h j h1 h2 => ?_, fun h j h1 h2 => h j (by omega) h2⟩
        by_cases e : j = i
        · subst e; exact hP
        · exact h j (by omega) h2
    · refine ⟨false, ?_, ⟨fun h => (by cases h), fun h => absurd (h i (Nat.le_refl _) (by omega)) hP⟩⟩
      refine Ev.step (fun k => by rw [impl_areRanges.l0]) ?_
      refine ev_pos (by omega) (ev_pos (by omega) (ev_pos (by omega) ?_))
      by_cases h1 : (rd_T26 l i).f0 > (rd_T26 l i).f1
      · exact ev_pos h1 (Ev.now _)
      · refine ev_neg h1 ?_
        obtain ⟨t, ht, hti⟩ := group_ev (rd_T26 l i).f2
        refine Ev.bind (ev_const ht) ?_
        by_cases h2 : t = true
        · refine ev_pos h2 ?_
          by_cases h0 : 0 < i
          · refine ev_pos (by omega) ?_
            by_cases h3 : (rd_T26 l i).f0 = 0
            · exact ev_pos h3 (Ev.now _)
            · refine ev_neg h3 ?_
              have wp := wf_at hw (i - 1) (by omega)
              rw [wpred h0 (by omega)]
              refine ev_pos (by omega) (ev_pos (by omega) (ev_neg ?_ (Ev.now _)))
              rw [u64w (by have := wi.1.1; omega) (by have := wi.1.2; omega)]
              exact fun h4 => hP ⟨by omega, hti.1 h2, fun _ => ⟨by have := wi.1.2; omega, by omega⟩⟩
          · exact absurd ⟨by omega, hti.1 h2, fun h => absurd h h0⟩ hP
        · exact ev_neg h2 (Ev.now _)
theorem areRanges_ev (l : List S26) (hl : l.length ≤ 1048576) (hw : ∀ x ∈ l, wfR x) : ∃ b, Ev (fun k => impl_areRanges.f k l) b ∧ (b = true ↔ RangesP l) := by
  have hj : ∀ (x : Bool), x = true → Ev (fun k => impl_areRanges.j0 k l x) false := fun x hx => by
    refine Ev.step (fun k => by rw [impl_areRanges.j0]) ?_
    exact ev_pos hx (Ev.now _)
  unfold impl_areRanges.f
  by_cases h1 : (l.length : Int) < 1
  · exact ⟨false, ev_pos h1 (hj _ rfl), ⟨fun h => (by cases h), fun h => by have := h.1; omega⟩⟩
  by_cases h2 : (l.length : Int) > 24
  · exact ⟨false, ev_neg h1 (ev_pos h2 (hj _ rfl)), ⟨fun h => (by cases h), fun h => by have := h.2.1; omega⟩⟩
  by_cases h3 : (rd_T26 l 0).f0 = 0
  · by_cases h4 : (rd_T26 l ((l.length - 1 : Nat) : Int)).f1 = 18446744073709551615
    · obtain ⟨b, hb, hi⟩ := areRanges_l l hl hw l.length 0 (by omega)
      refine ⟨b, ?_, ?_⟩
      · refine ev_neg h1 (ev_neg h2 (ev_pos (by omega) (ev_pos h3 ?_)))
        rw [wpred (by omega) (by omega)]
        refine ev_pos (by omega) (ev_pos (by omega) ?_)
        refine Ev.step (fun k => by rw [impl_areRanges.j0]) ?_
        exact ev_neg (by rw [h4]; decide) hb
      · rw [hi]
        exact ⟨fun h => ⟨by omega, by omega, h3, h4, fun j => h j (Nat.zero_le _)⟩, fun h j _ => h.2.2.2.2 j⟩
    · refine ⟨false, ?_, ⟨fun h => (by cases h), fun h => absurd h.2.2.2.1 h4⟩⟩
      refine ev_neg h1 (ev_neg h2 (ev_pos (by omega) (ev_pos h3 ?_)))
      rw [wpred (by omega) (by omega)]
      refine ev_pos (by omega) (ev_pos (by omega) (hj _ (by simpa using h4)))
  · refine ⟨false, ?_, ⟨fun h => (by cases h), fun h => absurd h.2.2.1 h3⟩⟩
    exact ev_neg h1 (ev_neg h2 (ev_pos (by omega) (ev_neg h3 (hj _ rfl))))

theorem strict_eq : ∀ (xs ys : List Int), xs.Pairwise (· < ·) → ys.Pairwise (· < ·) → (∀ x, x ∈ xs ↔ x ∈ ys) → xs = ys := by
  intro xs
  induction xs with
  | nil =>
    intro ys _ _ h
    cases ys with
    | nil => rfl
    | cons y ys => exact absurd ((h y).2 (List.mem_cons_self ..)) (by simp)
  | cons x xs ih =>
    intro ys hx hy h
    cases ys with
    | nil => exact absurd ((h x).1 (List.mem_cons_self ..)) (by simp)
    | cons y ys =>
      rw [List.pairwise_cons] at hx hy
      have e : x = y := by
        rcases List.mem_cons.1 ((h x).1 (List.mem_cons_self ..)) with e | e
        · exact e
        · rcases List.mem_cons.1 ((h y).2 (List.mem_cons_self ..)) with e2 | e2
          · exact e2.symm
          · have := hy.1 x e; have := hx.1 y e2; omega
      subst e
      congr 1
      refine ih ys hx.2 hy.2 fun z => ⟨fun hz => ?_, fun hz => ?_⟩
      · rcases List.mem_cons.1 ((h z).1 (List.mem_cons_of_mem _ hz)) with e | e
        · have := hx.1 z hz; omega
        · exact e
      · rcases List.mem_cons.1 ((h z).2 (List.mem_cons_of_mem _ hz)) with e | e
        · have := hy.1 z hz; omega
        · exact e
/-- Group g has a range. -/
def InG (l : List S26) (g : Int) : Prop := ∃ j : Nat, j < l.length ∧ (rd_T26 l j).f2 = g
noncomputable instance (l : List S26) (g : Int) : Decidable (InG l g) := Classical.propDecidable _
noncomputable def ownM (l : List S26) (m : Nat) : List Int := ((List.range m).map (fun i : Nat => (i : Int))).filter (fun g => decide (InG l g))
theorem ownM_mem (l : List S26) (m : Nat) (x : Int) : x ∈ ownM l m ↔ 0 ≤ x ∧ x < m ∧ InG l x := by
  unfold ownM
  rw [List.mem_filter, decide_eq_true_iff, List.mem_map]
  constructor
  · rintro ⟨⟨i, hi, rfl⟩, h⟩
    have := List.mem_range.1 hi
    exact ⟨by omega, by omega, h⟩
  · rintro ⟨h0, h1, h⟩
    exact ⟨⟨x.toNat, List.mem_range.2 (by omega), by omega⟩, h⟩
theorem ownM_succ (l : List S26) (m : Nat) : (InG l m → ownM l (m + 1) = ownM l m ++ [(m : Int)]) ∧ (¬ InG l m → ownM l (m + 1) = ownM l m) := by
  unfold ownM
  rw [List.range_succ, List.map_append, List.filter_append]
  exact ⟨fun h => by simp [h], fun h => by simp [h]⟩
theorem ownM_sorted (l : List S26) (m : Nat) : (ownM l m).Pairwise (· < ·) := by
  induction m with
  | zero => simp [ownM]
  | succ m ih =>
    by_cases h : InG l m
    · rw [(ownM_succ l m).1 h, List.pairwise_append]
      refine ⟨ih, by simp, fun a ha b hb => ?_⟩
      rw [List.mem_singleton] at hb
      have := ((ownM_mem l m a).1 ha).2.1
      omega
    · rw [(ownM_succ l m).2 h]; exact ih
theorem ownM_len (l : List S26) (m : Nat) : (ownM l m).length ≤ m := by
  unfold ownM
  exact Nat.le_trans (List.length_filter_le ..) (by simp)

theorem has_l (xs : List Int) (hl : xs.length ≤ 1048576) (g : Int) (d : Nat) : ∀ i : Nat, xs.length = i + d → (∀ j : Nat, j < i → rd xs (j : Int) ≠ g) → ∃ b, Ev (fun k => spec_l01Has.l0 k xs g i) b ∧ (b = true ↔ ∃ j : Nat, j < xs.length ∧ rd xs (j : Int) = g) := by
  induction d with
  | zero =>
    intro i hd hb
    refine ⟨false, ?_, ⟨fun h => (by cases h), fun ⟨j, h1, h2⟩ => absurd h2 (hb j (by omega))⟩⟩
    refine Ev.step (fun k => by rw [spec_l01Has.l0]) ?_
    exact ev_neg (by omega) (Ev.now _)
  | succ d ih =>
    intro i hd hb
    by_cases h : rd xs (i : Int) = g
    · refine ⟨true, ?_, ⟨fun _ => ⟨i, by omega, h⟩, fun _ => rfl⟩⟩
      refine Ev.step (fun k => by rw [spec_l01Has.l0]) ?_
      exact ev_pos (by omega) (ev_pos (by omega) (ev_pos h (Ev.now _)))
    · obtain ⟨b, h1, h2⟩ := ih (i + 1) (by omega) (fun j hj => by
        by_cases e : j = i
        · rw [e]; exact h
        · exact hb j (by omega))
      refine ⟨b, ?_, h2⟩
      refine Ev.step (fun k => by rw [spec_l01Has.l0]) ?_
      refine ev_pos (by omega) (ev_pos (by omega) (ev_neg h ?_))
      rw [wsucc (n := xs.length) (by omega) (by omega)]
      exact h1
theorem has_ev (xs : List Int) (hl : xs.length ≤ 1048576) (g : Int) : ∃ b, Ev (fun k => spec_l01Has.f k xs g) b ∧ (b = true ↔ g ∈ xs) := by
  obtain ⟨b, h1, h2⟩ := has_l xs hl g xs.length 0 (by omega) (fun j h => by omega)
  refine ⟨b, h1, ?_⟩
  rw [h2]
  constructor
  · rintro ⟨j, hj, rfl⟩
    unfold rd
    rw [toNat_cast]
    exact getD_mem xs j 0 hj
  · intro h
    obtain ⟨j, hj, rfl⟩ := List.mem_iff_getElem.1 h
    refine ⟨j, hj, ?_⟩
    unfold rd
    rw [toNat_cast, getD_lt _ _ _ hj]
theorem specOwn_1 (l : List S26) (hl : l.length ≤ 1048576) (m : Nat) (hm : m ≤ 99) (r : List Int) (hr : Ev (fun k => spec_Owners.l0 k l (ownM l (m + 1)) ((m + 1 : Nat) : Int)) r) (d : Nat) : ∀ i : Nat, l.length = i + d →
    ((¬ ∃ j : Nat, j < i ∧ (rd_T26 l j).f2 = m) → Ev (fun k => spec_Owners.l1 k l (ownM l m) m i) r) ∧ ((∃ j : Nat, j < i ∧ (rd_T26 l j).f2 = m) → Ev (fun k => spec_Owners.l1 k l (ownM l m ++ [(m : Int)]) m i) r) := by
  have hlen := ownM_len l m
  have hw : wrap64 ((m : Int) + 1) = ((m + 1 : Nat) : Int) := wsucc (n := 100) (by omega) (by omega)
  induction d with
  | zero =>
    intro i hd
    refine ⟨fun h => ?_, fun h => ?_⟩
    · refine Ev.step (fun k => by rw [spec_Owners.l1]) ?_
      refine ev_neg (by omega) ?_
      rw [hw, ← (ownM_succ l m).2 (fun ⟨j, h1, h2⟩ => h ⟨j, by omega, h2⟩)]
      exact hr
    · refine Ev.step (fun k => by rw [spec_Owners.l1]) ?_
      refine ev_neg (by omega) ?_
      obtain ⟨j, h1, h2⟩ := h
      rw [hw, ← (ownM_succ l m).1 ⟨j, by omega, h2⟩]
      exact hr
  | succ d ih =>
    intro i hd
    obtain ⟨i1, i2⟩ := ih (i + 1) (by omega)
    have hwi : wrap64 ((i : Int) + 1) = ((i + 1 : Nat) : Int) := wsucc (n := l.length) (by omega) (by omega)
    refine ⟨fun h => ?_, fun h => ?_⟩
    · by_cases e : (rd_T26 l i).f2 = m
      · obtain ⟨b, hb, hbi⟩ := has_ev (ownM l m) (by omega) m
        have hn : ¬ b = true := fun hb' => by have := ((ownM_mem l m m).1 (hbi.1 hb')).2.1; omega
        refine Ev.step (fun k => by rw [spec_Owners.l1]) ?_
        rw [hwi]
        exact ev_pos (by omega) (ev_pos (by omega) (ev_pos e (Ev.bind hb (ev_neg hn (ev_pos (by omega) (i2 ⟨i, by omega, e⟩))))))
      · refine Ev.step (fun k => by rw [spec_Owners.l1]) ?_
        rw [hwi]
        refine ev_pos (by omega) (ev_pos (by omega) (ev_neg e (i1 fun ⟨j, h1, h2⟩ => ?_)))
        by_cases q : j = i
        · subst q; exact e h2
        · exact h ⟨j, by omega, h2⟩
    · have hs : ∃ j : Nat, j < i + 1 ∧ (rd_T26 l j).f2 = m := by obtain ⟨j, h1, h2⟩ := h; exact ⟨j, by omega, h2⟩
      refine Ev.step (fun k => by rw [spec_Owners.l1]) ?_
      rw [hwi]
      by_cases e : (rd_T26 l i).f2 = m
      · obtain ⟨b, hb, hbi⟩ := has_ev (ownM l m ++ [(m : Int)]) (by simp; omega) m
        exact ev_pos (by omega) (ev_pos (by omega) (ev_pos e (Ev.bind hb (ev_pos (hbi.2 (by simp)) (i2 hs)))))
      · exact ev_pos (by omega) (ev_pos (by omega) (ev_neg e (i2 hs)))
theorem specOwn_0 (l : List S26) (hl : l.length ≤ 1048576) (d : Nat) : ∀ m : Nat, m + d = 100 → Ev (fun k => spec_Owners.l0 k l (ownM l m) m) (ownM l 100) := by
  induction d with
  | zero =>
    intro m hd
    obtain rfl : m = 100 := by omega
    refine Ev.step (fun k => by rw [spec_Owners.l0]) ?_
    exact ev_neg (by omega) (Ev.now _)
  | succ d ih =>
    intro m hd
    refine Ev.step (fun k => by rw [spec_Owners.l0]) ?_
    exact ev_pos (by omega) ((specOwn_1 l hl m (by omega) _ (ih (m + 1) (by omega)) l.length 0 (by omega)).1 (fun ⟨j, h, _⟩ => by omega))

theorem compact_sort (l : List S26) (hg : ∀ j : Nat, j < l.length → 0 ≤ (rd_T26 l j).f2 ∧ (rd_T26 l j).f2 ≤ 99) : Lib.compact ((l.map (fun x : S26 => x.f2)).mergeSort fun x y => decide (x ≤ y)) = ownM l 100 := by
  obtain ⟨zs, hz⟩ : ∃ zs, zs = (l.map (fun x : S26 => x.f2)).mergeSort fun x y => decide (x ≤ y) := ⟨_, rfl⟩
  have hp : zs.Pairwise (fun a b => (fun x y : Int => decide (x ≤ y)) a b = true) := by
    rw [hz]
    exact List.pairwise_mergeSort (fun a b c h1 h2 => by simp at h1 h2 ⊢; omega) (fun a b => by simp; omega) _
  have hm : ∀ x, x ∈ zs ↔ InG l x := fun x => by
    rw [hz, List.mem_mergeSort, List.mem_map]
    constructor
    · rintro ⟨y, hy, rfl⟩
      obtain ⟨j, hj, rfl⟩ := List.mem_iff_getElem.1 hy
      refine ⟨j, hj, ?_⟩
      unfold rd_T26
      rw [toNat_cast, getD_lt _ _ _ hj]
    · rintro ⟨j, hj, rfl⟩
      refine ⟨l[j], List.getElem_mem hj, ?_⟩
      unfold rd_T26
      rw [toNat_cast, getD_lt _ _ _ hj]
  rw [← hz]
  have hs : ∀ i j, i < j → j < zs.toArray.size → zs.toArray[i]! ≤ zs.toArray[j]! := fun i j hij hj => by
    have hj' : j < zs.length := by simpa using hj
    have := List.pairwise_iff_getElem.1 hp i j (by omega) hj' hij
    rw [getElem!_pos _ i (by simp; omega), getElem!_pos _ j hj]
    simpa using this
  obtain ⟨h1, h2⟩ := compactUpTo_sorted zs.toArray hs zs.length (by simp)
  refine strict_eq _ _ h1 (ownM_sorted l 100) fun x => ?_
  show x ∈ Lib.compactUpTo zs.toArray zs.length ↔ _
  rw [h2, ownM_mem]
  constructor
  · rintro ⟨j, hj, rfl⟩
    have hx : InG l zs.toArray[j]! := by
      rw [getElem!_pos _ j (by simpa using hj)]
      exact (hm _).1 (by simp)
    obtain ⟨q, hq, e⟩ := hx
    have := hg q hq
    exact ⟨by omega, by omega, q, hq, e⟩
  · rintro ⟨_, _, h⟩
    obtain ⟨j, hj, e⟩ := List.mem_iff_getElem.1 ((hm x).2 h)
    refine ⟨j, hj, ?_⟩
    rw [getElem!_pos _ j (by simpa using hj)]
    simpa using e
theorem implOwn_l (l : List S26) (hl : l.length ≤ 1048576) (hg : ∀ j : Nat, j < l.length → 0 ≤ (rd_T26 l j).f2 ∧ (rd_T26 l j).f2 ≤ 99) (d : Nat) : ∀ i : Nat, l.length = i + d → Ev (fun k => impl_Owners.l0 k ((l.take i).map (fun x : S26 => x.f2)) l l.length i) (ownM l 100) := by
  induction d with
  | zero =>
    intro i hd
    refine Ev.step (fun k => by rw [impl_Owners.l0]) ?_
    refine ev_neg (by omega) ?_
    rw [List.take_of_length_le (by omega)]
    refine Ev.bind (a := (l.map (fun x : S26 => x.f2)).mergeSort fun x y => decide (x ≤ y)) (ev_const ?_) (Ev.bind (a := ownM l 100) (ev_const ?_) (Ev.now _))
    · unfold slices_Sort_int_int.f
      rw [if_pos (by simp; omega)]
    · unfold slices_Compact_int_int.f
      rw [if_pos (by simp; omega), compact_sort l hg]
  | succ d ih =>
    intro i hd
    have h1 := List.length_take_le i l
    refine Ev.step (fun k => by rw [impl_Owners.l0]) ?_
    refine ev_pos (by omega) (ev_pos (by omega) (ev_pos (by omega) (ev_pos (by rw [List.length_map]; omega) ?_)))
    rw [wsucc (n := l.length) (by omega) (by omega)]
    have := ih (i + 1) (by omega)
    rw [take_succ_getD l i z26 (by omega), List.map_append] at this
    unfold rd_T26
    rw [toNat_cast]
    exact this

theorem eqIntS_l (l : List Int) (hl : l.length ≤ 1048576) (d : Nat) : ∀ (i : Nat), l.length = i + d → Ev (fun k => laws_eqIntS.l0 k l l i) true := by
  induction d with
  | zero =>
    intro i hd
    refine Ev.step (fun k => by rw [laws_eqIntS.l0]) ?_
    exact ev_neg (by omega) (Ev.now _)
  | succ d ih =>
    intro i hd
    refine Ev.step (fun k => by rw [laws_eqIntS.l0]) ?_
    refine ev_pos (by omega) (ev_pos (by omega) (ev_pos (by omega) (ev_pos rfl ?_)))
    rw [wsucc (n := l.length) (by omega) (by omega)]
    exact ih (i + 1) (by omega)
theorem eqIntS_ev (l : List Int) (hl : l.length ≤ 1048576) : Ev (fun k => laws_eqIntS.f k l l) true := by
  unfold laws_eqIntS.f
  exact ev_pos rfl (eqIntS_l l hl l.length 0 (by omega))
theorem markI_l (d : Nat) : ∀ (i : Nat) (xs : List Int) (c : Int), xs.length = i + d → xs.length ≤ 1048576 → 0 ≤ c → c ≤ 1 + (i : Int) →
    ∃ m ys, Ev (fun k => laws_markIntS.l0 k xs c i) (m, ys) ∧ ys.length = xs.length ∧ 0 ≤ m ∧ (∀ j, j < i → ys[j]? = xs[j]?) ∧ Ev (fun k => laws_heldIntS.l0 k ys c i) m := by
  induction d with
  | zero =>
    intro i xs c hd hl h0 h1
    refine ⟨c, xs, ?_, rfl, h0, fun _ _ => rfl, ?_⟩
    · refine Ev.step (fun k => by rw [laws_markIntS.l0]) ?_
      exact ev_neg (by omega) (Ev.now _)
    · refine Ev.step (fun k => by rw [laws_heldIntS.l0]) ?_
      exact ev_neg (by omega) (Ev.now _)
  | succ d ih =>
    intro i xs c hd hl h0 h1
    have e1 : wrap64 (c + 1) = c + 1 := w64 (by omega) (by omega)
    obtain ⟨m, ys, hm, hy, hm0, hk, hh⟩ := ih (i + 1) (xs.set i c) (c + 1) (by simp; omega) (by simpa using hl) (by omega) (by omega)
    refine ⟨m, ys, ?_, by simpa using hy, hm0, fun j hj => ?_, ?_⟩
    · refine Ev.step (fun k => by rw [laws_markIntS.l0]) ?_
      refine ev_pos (by omega) (ev_pos (by omega) ?_)
      rw [toNat_cast, e1, wsucc (n := xs.length) (by omega) (by omega)]
      exact hm
    · rw [hk j (by omega), List.getElem?_set_ne (by omega)]
    · have hi : rd ys (i : Int) = c := by
        unfold rd
        rw [toNat_cast, List.getD_eq_getElem?_getD, hk i (by omega), List.getElem?_set_self (by omega)]
        rfl
      have hyl : ys.length = xs.length := by simpa using hy
      refine Ev.step (fun k => by rw [laws_heldIntS.l0]) ?_
      refine ev_pos (by omega) (ev_pos (by omega) (ev_pos hi ?_))
      rw [e1, wsucc (n := ys.length) (by omega) (by omega)]
      exact hh
theorem markI_ev (xs : List Int) (hl : xs.length ≤ 1048576) : ∃ m ys, Ev (fun k => laws_markIntS.f k xs 1) (m, ys) ∧ 0 ≤ m ∧ Ev (fun k => laws_heldIntS.f k ys 1) m := by
  obtain ⟨m, ys, h1, _, h2, _, h3⟩ := markI_l xs.length 0 xs 1 (by omega) hl (by omega) (by omega)
  exact ⟨m, ys, h1, h2, h3⟩

theorem owners_ev (l : List S26) (hl : l.length ≤ 1048576) (hw : ∀ x ∈ l, wfR x) : ∃ r : List Int, r.length ≤ 100 ∧ Ev (fun k => spec_Owners.f k l) r ∧ Ev (fun k => impl_Owners.f k l) r := by
  obtain ⟨b, hb, hi⟩ := specRangesOk_ev l hl hw
  obtain ⟨b', hb', hi'⟩ := areRanges_ev l hl hw
  unfold spec_Owners.f impl_Owners.f
  by_cases hP : RangesP l
  · refine ⟨ownM l 100, ownM_len l 100, Ev.bind hb (ev_pos (hi.2 hP) ?_), Ev.bind hb' (ev_pos (hi'.2 hP) ?_)⟩
    · exact specOwn_0 l hl 100 0 (by omega)
    · exact implOwn_l l hl (fun j hj => (hP.2.2.2.2 j hj).2.1) l.length 0 (by omega)
  · exact ⟨[], by simp, Ev.bind hb (ev_neg (fun h => hP (hi.1 h)) (Ev.now _)), Ev.bind hb' (ev_neg (fun h => hP (hi'.1 h)) (Ev.now _))⟩
theorem FnExactOwners : Stated := by
  intro l ⟨hm, hw⟩
  refine Ev.rounds (?_ : Ev (fun k => laws_FnExactOwners.f k l) true)
  unfold laws_FnExactOwners.f
  rcases szRangeS_ev l 1048576 hm (by omega) (by omega) with ⟨hs, hn⟩ | ⟨hs, hn⟩
  · exact Ev.bind (ev_const hs) (ev_pos (by omega) (Ev.now _))
  · refine Ev.bind (ev_const hs) (ev_neg (by omega) ?_)
    have hl : l.length ≤ 1048576 := by omega
    have ht := toRangeS_ev l hl
    have hl' : (l.map conv).length ≤ 1048576 := by simpa using hl
    obtain ⟨r, hrl, hr, hr'⟩ := owners_ev _ hl' (wf_conv hw)
    have heq := eqIntS_ev r (by omega)
    obtain ⟨m, ys, hm1, hm2⟩ := markR_ev _ hl'
    obtain ⟨m', ys', hm1', hm2', hm3'⟩ := markI_ev r (by omega)
    refine Ev.bind ht (Ev.bind hr (Ev.bind ht (Ev.bind hr' (Ev.bind heq (ev_pos rfl ?_)))))
    refine Ev.bind ht (Ev.bind (eqRangeS_ev _ hl') (ev_pos rfl ?_))
    refine Ev.bind hm1 (ev_neg (by show ¬ m < 0; omega) (Ev.bind heq (ev_pos rfl ?_)))
    refine Ev.bind hm1' (Ev.bind hm3' (ev_neg (by omega) (ev_pos rfl ?_)))
    refine Ev.bind ht (Ev.bind hr' (Ev.bind heq (ev_pos rfl ?_)))
    exact Ev.bind hm3' (ev_neg (by omega) (ev_pos rfl (Ev.now _)))

end Go.Proofs.Ytfabcjkaoidmeaa.Pure
