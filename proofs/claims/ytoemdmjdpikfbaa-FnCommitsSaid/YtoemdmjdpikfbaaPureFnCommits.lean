/- The law FnCommits answers true at every input. No condition. -/
import Derived.Test.YtoemdmjdpikfbaaOpnFnCommits
import Derived.Test.YtoemdmjdpikfbaaBase
namespace Go.Proofs.Ytoemdmjdpikfbaa.Pure
open Go.RowKit Go.Proofs.Ytoemdmjdpikfbaa.QFnCommits Go.Proofs.Ytoemdmjdpikfbaa.OpnFnCommits Go.Proofs.Ytoemdmjdpikfbaa.Base Go.Proofs.YtoemdmjdpikfbaaW.PrintWords Go.Proofs.YtoemdmjdpikfbaaW.PrintLast
set_option linter.unusedVariables false
set_option linter.unusedSimpArgs false

def IdsP (l : List Int) : Prop := (∀ j : Nat, j < l.length → 0 ≤ rd l j ∧ rd l j ≤ 99 ∧ (0 < j → rd l (j - 1 : Nat) < rd l j)) ∧ l.length ≤ 7
theorem in_eq (x a b : Int) : spec_l01In.f x a b = some (decide (a ≤ x ∧ x ≤ b)) := by
  unfold spec_l01In.f
  by_cases h : a ≤ x
  · rw [if_pos h]; congr 1; simp [h]
  · rw [if_neg h, decide_eq_false (fun q => h q.1)]
theorem ids_l (l : List Int) (hl : l.length ≤ 1048576) (d : Nat) : ∀ i : Nat, l.length = i + d → ∃ b, Ev (fun k => impl_areIds.l0 k l l (l.length : Int) i) b ∧ Ev (fun k => spec_l06Ids.l0 k l i) b ∧ (b = true ↔ (∀ j : Nat, i ≤ j → j < l.length → 0 ≤ rd l j ∧ rd l j ≤ 99 ∧ (0 < j → rd l (j - 1 : Nat) < rd l j)) ∧ l.length ≤ 7) := by
  induction d with
  | zero =>
    intro i hd
    refine ⟨decide ((l.length : Int) ≤ 7), ?_, ?_, ?_⟩
    · refine Ev.step (fun k => by rw [impl_areIds.l0]) ?_
      exact ev_neg (by omega) (Ev.now _)
    · refine Ev.step (fun k => by rw [spec_l06Ids.l0]) ?_
      exact ev_neg (by omega) (Ev.now _)
    · rw [decide_eq_true_iff]
      exact ⟨fun h => ⟨fun j h1 h2 => by omega, by omega⟩, fun h => by have := h.2; omega⟩
  | succ d ih =>
    intro i hd
    have hi := wsucc (j := i) (n := l.length) (by omega) (by omega)
    obtain ⟨b, hb1, hb2, hb⟩ := ih (i + 1) (by omega)
    have bad : (¬ (0 ≤ rd l i ∧ rd l i ≤ 99 ∧ (0 < i → rd l (i - 1 : Nat) < rd l i))) → (false = true ↔ (∀ j : Nat, i ≤ j → j < l.length → 0 ≤ rd l j ∧ rd l j ≤ 99 ∧ (0 < j → rd l (j - 1 : Nat) < rd l j)) ∧ l.length ≤ 7) := fun h => ⟨fun q => (by cases q), fun q => absurd (q.1 i (Nat.le_refl i) (by omega)) h⟩
    have good : (0 ≤ rd l i ∧ rd l i ≤ 99 ∧ (0 < i → rd l (i - 1 : Nat) < rd l i)) → (b = true ↔ (∀ j : Nat, i ≤ j → j < l.length → 0 ≤ rd l j ∧ rd l j ≤ 99 ∧ (0 < j → rd l (j - 1 : Nat) < rd l j)) ∧ l.length ≤ 7) := fun h => by
      rw [hb]
      refine ⟨fun q => ⟨fun j h1 h2 => ?_, q.2⟩, fun q => ⟨fun j h1 h2 => q.1 j (by omega) h2, q.2⟩⟩
      rcases Nat.eq_or_lt_of_le h1 with e | e
      · subst e; exact h
      · exact q.1 j e h2
    by_cases h1 : rd l i < 0
    · refine ⟨false, ?_, ?_, bad (by omega)⟩
      · refine Ev.step (fun k => by rw [impl_areIds.l0]) ?_
        exact ev_pos (by omega) (ev_pos (by omega) (ev_pos (by omega) (ev_pos h1 (Ev.now _))))
      · refine Ev.step (fun k => by rw [spec_l06Ids.l0]) ?_
        exact ev_pos (by omega) (ev_pos (by omega) (Ev.bind (ev_const (in_eq _ _ _)) (ev_neg (by simp; omega) (Ev.now _))))
    by_cases h2 : rd l i > 99
    · refine ⟨false, ?_, ?_, bad (by omega)⟩
      · refine Ev.step (fun k => by rw [impl_areIds.l0]) ?_
        exact ev_pos (by omega) (ev_pos (by omega) (ev_pos (by omega) (ev_neg h1 (ev_pos h2 (Ev.now _)))))
      · refine Ev.step (fun k => by rw [spec_l06Ids.l0]) ?_
        exact ev_pos (by omega) (ev_pos (by omega) (Ev.bind (ev_const (in_eq _ _ _)) (ev_neg (by simp; omega) (Ev.now _))))
    have hin : decide (0 ≤ rd l i ∧ rd l i ≤ 99) = true := decide_eq_true ⟨by omega, by omega⟩
    by_cases h0 : i = 0
    · subst h0
      refine ⟨b, ?_, ?_, good ⟨by omega, by omega, fun h => by omega⟩⟩
      · refine Ev.step (fun k => by rw [impl_areIds.l0]) ?_
        refine ev_pos (by omega) (ev_pos (by omega) (ev_pos (by omega) (ev_neg h1 (ev_neg h2 (ev_neg (by omega) ?_)))))
        rw [hi]; exact hb1
      · refine Ev.step (fun k => by rw [spec_l06Ids.l0]) ?_
        refine ev_pos (by omega) (ev_pos (by omega) (Ev.bind (ev_const (in_eq _ _ _)) (ev_pos hin (ev_neg (by omega) ?_))))
        rw [hi]; exact hb2
    have hp := wpred (j := i) (by omega) (by omega)
    by_cases h3 : rd l (i - 1 : Nat) ≥ rd l i
    · refine ⟨false, ?_, ?_, bad (fun q => by have := q.2.2 (by omega); omega)⟩
      · refine Ev.step (fun k => by rw [impl_areIds.l0]) ?_
        refine ev_pos (by omega) (ev_pos (by omega) (ev_pos (by omega) (ev_neg h1 (ev_neg h2 (ev_pos (by omega) ?_)))))
        rw [hp]
        exact ev_pos (by omega) (ev_pos (by omega) (ev_pos h3 (Ev.now _)))
      · refine Ev.step (fun k => by rw [spec_l06Ids.l0]) ?_
        refine ev_pos (by omega) (ev_pos (by omega) (Ev.bind (ev_const (in_eq _ _ _)) (ev_pos hin (ev_pos (by omega) ?_))))
        rw [hp]
        exact ev_pos (by omega) (ev_pos (by omega) (ev_pos h3 (Ev.now _)))
    · refine ⟨b, ?_, ?_, good ⟨by omega, by omega, fun _ => by omega⟩⟩
      · refine Ev.step (fun k => by rw [impl_areIds.l0]) ?_
        refine ev_pos (by omega) (ev_pos (by omega) (ev_pos (by omega) (ev_neg h1 (ev_neg h2 (ev_pos (by omega) ?_)))))
        rw [hp, hi]
        exact ev_pos (by omega) (ev_pos (by omega) (ev_neg h3 hb1))
      · refine Ev.step (fun k => by rw [spec_l06Ids.l0]) ?_
        refine ev_pos (by omega) (ev_pos (by omega) (Ev.bind (ev_const (in_eq _ _ _)) (ev_pos hin (ev_pos (by omega) ?_))))
        rw [hp, hi]
        exact ev_pos (by omega) (ev_pos (by omega) (ev_neg h3 hb2))
theorem ids_ev (l : List Int) (hl : l.length ≤ 1048576) : ∃ b, Ev (fun k => impl_areIds.f k l) b ∧ Ev (fun k => spec_l06Ids.f k l) b ∧ (b = true ↔ IdsP l) := by
  obtain ⟨b, h1, h2, h3⟩ := ids_l l hl l.length 0 (by omega)
  exact ⟨b, h1, h2, h3.trans ⟨fun h => ⟨fun j hj => h.1 j (by omega) hj, h.2⟩, fun h => ⟨fun j _ hj => h.1 j hj, h.2⟩⟩⟩
theorem same_l (l m : List Int) (hl : l.length ≤ 1048576) (hm : m.length = l.length) (d : Nat) : ∀ i : Nat, l.length = i + d → ∃ b, Ev (fun k => slices_Equal_int_int.l0 k l m (l.length : Int) i) b ∧ Ev (fun k => spec_l06Same.l0 k l m i) b ∧ (b = true ↔ ∀ j : Nat, i ≤ j → j < l.length → rd l j = rd m j) := by
  induction d with
  | zero =>
    intro i hd
    refine ⟨true, ?_, ?_, ⟨fun _ j h1 h2 => by omega, fun _ => rfl⟩⟩
    · refine Ev.step (fun k => by rw [slices_Equal_int_int.l0]) ?_
      exact ev_neg (by omega) (Ev.now _)
    · refine Ev.step (fun k => by rw [spec_l06Same.l0]) ?_
      exact ev_neg (by omega) (Ev.now _)
  | succ d ih =>
    intro i hd
    have hi := wsucc (j := i) (n := l.length) (by omega) (by omega)
    by_cases h : rd l i = rd m i
    · obtain ⟨b, hb1, hb2, hb⟩ := ih (i + 1) (by omega)
      refine ⟨b, ?_, ?_, hb.trans ⟨fun q j h1 h2 => ?_, fun q j h1 h2 => q j (by omega) h2⟩⟩
      · refine Ev.step (fun k => by rw [slices_Equal_int_int.l0]) ?_
        rw [hi]
        exact ev_pos (by omega) (ev_pos (by omega) (ev_pos (by omega) (ev_pos (by omega) (ev_pos h hb1))))
      · refine Ev.step (fun k => by rw [spec_l06Same.l0]) ?_
        rw [hi]
        exact ev_pos (by omega) (ev_pos (by omega) (ev_pos (by omega) (ev_pos h hb2)))
      · rcases Nat.eq_or_lt_of_le h1 with e | e
        · subst e; exact h
        · exact q j e h2
    · refine ⟨false, ?_, ?_, ⟨fun q => (by cases q), fun q => absurd (q i (Nat.le_refl i) (by omega)) h⟩⟩
      · refine Ev.step (fun k => by rw [slices_Equal_int_int.l0]) ?_
        exact ev_pos (by omega) (ev_pos (by omega) (ev_pos (by omega) (ev_pos (by omega) (ev_neg h (Ev.now _)))))
      · refine Ev.step (fun k => by rw [spec_l06Same.l0]) ?_
        exact ev_pos (by omega) (ev_pos (by omega) (ev_pos (by omega) (ev_neg h (Ev.now _))))
theorem same_ev (l m : List Int) (hl : l.length ≤ 1048576) (hm : m.length ≤ 1048576) : ∃ b, Ev (fun k => slices_Equal_int_int.f k l m) b ∧ Ev (fun k => spec_l06Same.f k l m) b ∧ (b = true ↔ l = m) := by
  unfold slices_Equal_int_int.f spec_l06Same.f
  by_cases h : (l.length : Int) = (m.length : Int)
  · obtain ⟨b, h1, h2, h3⟩ := same_l l m hl (by omega) l.length 0 (by omega)
    refine ⟨b, ev_pos h h1, ev_pos h h2, h3.trans ⟨fun q => ?_, fun e => by subst e; exact fun _ _ _ => rfl⟩⟩
    refine List.ext_getElem (by omega) fun j hj hj' => ?_
    have := q j (by omega) hj
    unfold rd at this
    rwa [toNat_cast, getD_lt l j 0 hj, getD_lt m j 0 hj'] at this
  · exact ⟨false, ev_neg h (Ev.now _), ev_neg h (Ev.now _), ⟨fun q => (by cases q), fun e => absurd (by rw [e]) h⟩⟩
theorem has_l (l : List Int) (hl : l.length ≤ 1048576) (x : Int) (d : Nat) : ∀ i : Nat, l.length = i + d → ∃ b, Ev (fun k => spec_l01Has.l0 k l x i) b ∧ (b = true ↔ ∃ j : Nat, i ≤ j ∧ j < l.length ∧ rd l j = x) := by
  induction d with
  | zero =>
    intro i hd
    refine ⟨false, ?_, ⟨fun q => (by cases q), fun ⟨j, h1, h2, _⟩ => by omega⟩⟩
    refine Ev.step (fun k => by rw [spec_l01Has.l0]) ?_
    exact ev_neg (by omega) (Ev.now _)
  | succ d ih =>
    intro i hd
    have hi := wsucc (j := i) (n := l.length) (by omega) (by omega)
    by_cases h : rd l i = x
    · refine ⟨true, ?_, ⟨fun _ => ⟨i, Nat.le_refl i, by omega, h⟩, fun _ => rfl⟩⟩
      refine Ev.step (fun k => by rw [spec_l01Has.l0]) ?_
      exact ev_pos (by omega) (ev_pos (by omega) (ev_pos h (Ev.now _)))
    · obtain ⟨b, hb, h2⟩ := ih (i + 1) (by omega)
      refine ⟨b, ?_, h2.trans ⟨fun ⟨j, h3, h4, h5⟩ => ⟨j, by omega, h4, h5⟩, fun ⟨j, h3, h4, h5⟩ => ⟨j, ?_, h4, h5⟩⟩⟩
      · refine Ev.step (fun k => by rw [spec_l01Has.l0]) ?_
        rw [hi]
        exact ev_pos (by omega) (ev_pos (by omega) (ev_neg h hb))
      · rcases Nat.eq_or_lt_of_le h3 with e | e
        · subst e; exact absurd h5 h
        · exact e
theorem mem_rd (l : List Int) (x : Int) : x ∈ l ↔ ∃ j : Nat, j < l.length ∧ rd l j = x := by
  constructor
  · intro h
    obtain ⟨j, hj, e⟩ := List.mem_iff_getElem.1 h
    refine ⟨j, hj, ?_⟩
    unfold rd
    rw [toNat_cast, getD_lt l j 0 hj]; exact e
  · rintro ⟨j, hj, rfl⟩
    unfold rd
    rw [toNat_cast]
    exact getD_mem l j 0 hj
theorem has_ev (l : List Int) (hl : l.length ≤ 1048576) (x : Int) : Ev (fun k => spec_l01Has.f k l x) (decide (x ∈ l)) := by
  obtain ⟨b, h1, h2⟩ := has_l l hl x l.length 0 (by omega)
  have : b = decide (x ∈ l) := by
    rw [Bool.eq_iff_iff, h2, decide_eq_true_iff, mem_rd]
    exact ⟨fun ⟨j, _, h3, h4⟩ => ⟨j, h3, h4⟩, fun ⟨j, h3, h4⟩ => ⟨j, by omega, h3, h4⟩⟩
  rw [← this]; exact h1
def ConfP (a b c : List Int) : Prop := IdsP a ∧ 0 < a.length ∧ IdsP b ∧ IdsP c ∧ a ≠ b ∧ ∀ x ∈ c, x ∉ a ∧ x ∉ b
theorem confOk_l (a b c : List Int) (ha : a.length ≤ 1048576) (hb : b.length ≤ 1048576) (hc : c.length ≤ 1048576) (d : Nat) : ∀ i : Nat, c.length = i + d → ∃ r, Ev (fun k => spec_ConfOk.l0 k i a b c) r ∧ (r = true ↔ ∀ j : Nat, i ≤ j → j < c.length → rd c j ∉ a ∧ rd c j ∉ b) := by
  induction d with
  | zero =>
    intro i hd
    refine ⟨true, ?_, ⟨fun _ j h1 h2 => by omega, fun _ => rfl⟩⟩
    refine Ev.step (fun k => by rw [spec_ConfOk.l0]) ?_
    exact ev_neg (by omega) (Ev.now _)
  | succ d ih =>
    intro i hd
    have hi := wsucc (j := i) (n := c.length) (by omega) (by omega)
    by_cases h1 : rd c i ∈ a
    · refine ⟨false, ?_, ⟨fun q => (by cases q), fun q => absurd h1 (q i (Nat.le_refl i) (by omega)).1⟩⟩
      refine Ev.step (fun k => by rw [spec_ConfOk.l0]) ?_
      exact ev_pos (by omega) (ev_pos (by omega) (Ev.bind (has_ev a ha _) (ev_pos (decide_eq_true h1) (Ev.now _))))
    by_cases h2 : rd c i ∈ b
    · refine ⟨false, ?_, ⟨fun q => (by cases q), fun q => absurd h2 (q i (Nat.le_refl i) (by omega)).2⟩⟩
      refine Ev.step (fun k => by rw [spec_ConfOk.l0]) ?_
      exact ev_pos (by omega) (ev_pos (by omega) (Ev.bind (has_ev a ha _) (ev_neg (by simpa using h1) (Ev.bind (has_ev b hb _) (ev_pos (decide_eq_true h2) (Ev.now _))))))
    obtain ⟨r, hr, h3⟩ := ih (i + 1) (by omega)
    refine ⟨r, ?_, h3.trans ⟨fun q j e1 e2 => ?_, fun q j e1 e2 => q j (by omega) e2⟩⟩
    · refine Ev.step (fun k => by rw [spec_ConfOk.l0]) ?_
      rw [hi]
      exact ev_pos (by omega) (ev_pos (by omega) (Ev.bind (has_ev a ha _) (ev_neg (by simpa using h1) (Ev.bind (has_ev b hb _) (ev_neg (by simpa using h2) hr)))))
    · rcases Nat.eq_or_lt_of_le e1 with e | e
      · subst e; exact ⟨h1, h2⟩
      · exact q j e e2
theorem isConf_ev (a b c : List Int) (ha : a.length ≤ 1048576) (hb : b.length ≤ 1048576) (hc : c.length ≤ 1048576) : ∃ r, Ev (fun k => impl_isConf.f k a b c) r ∧ Ev (fun k => spec_ConfOk.f k a b c) r ∧ (r = true ↔ ConfP a b c) := by
  obtain ⟨ia, ia1, ia2, ia3⟩ := ids_ev a ha
  obtain ⟨ib, ib1, ib2, ib3⟩ := ids_ev b hb
  obtain ⟨ic, ic1, ic2, ic3⟩ := ids_ev c hc
  obtain ⟨q, q1, q2, q3⟩ := same_ev a b ha hb
  obtain ⟨r, r1, r2⟩ := confOk_l a b c ha hb hc c.length 0 (by omega)
  have j0 : ∀ x : Bool, x = true → Ev (fun k => spec_ConfOk.j0 k x a b c) false := fun x hx => by
    refine Ev.step (fun k => by rw [spec_ConfOk.j0]) ?_
    exact ev_pos hx (Ev.now _)
  have nb : ∀ {x : Bool}, ¬ x = true → x = false := fun {x} h => by simpa using h
  have set_ : ∀ y : Bool, y = decide ((a.length : Int) > 0) → ia = true → Ev (fun k => spec_l06Set.f k a) y := fun y hy h => by
    unfold spec_l06Set.f
    rw [hy]
    exact Ev.bind ia2 (ev_pos h (Ev.now _))
  unfold impl_isConf.f spec_ConfOk.f
  by_cases h1 : ia = true
  rotate_left
  · refine ⟨false, Ev.bind ia1 (ev_neg h1 (Ev.now _)), ?_, ⟨fun q => (by cases q), fun q => absurd (ia3.2 q.1) h1⟩⟩
    refine Ev.bind (a := false) (by unfold spec_l06Set.f; exact Ev.bind ia2 (ev_neg h1 (Ev.now _))) (ev_neg (by simp) (j0 _ rfl))
  by_cases h2 : (a.length : Int) = 0
  · exact ⟨false, Ev.bind ia1 (ev_pos h1 (ev_pos h2 (Ev.now _))), Ev.bind (set_ _ rfl h1) (ev_neg (by rw [decide_eq_false (by omega)]; simp) (j0 _ rfl)), ⟨fun q => (by cases q), fun q => by have := q.2.1; omega⟩⟩
  have hs : decide ((a.length : Int) > 0) = true := decide_eq_true (by omega)
  by_cases h3 : ib = true
  rotate_left
  · exact ⟨false, Ev.bind ia1 (ev_pos h1 (ev_neg h2 (Ev.bind ib1 (ev_neg h3 (Ev.now _))))), Ev.bind (set_ _ rfl h1) (ev_pos hs (Ev.bind ib2 (ev_neg h3 (j0 _ rfl)))), ⟨fun q => (by cases q), fun q => absurd (ib3.2 q.2.2.1) h3⟩⟩
  by_cases h5 : ic = true
  rotate_left
  · refine ⟨false, Ev.bind ia1 (ev_pos h1 (ev_neg h2 (Ev.bind ib1 (ev_pos h3 (Ev.bind q1 ?_))))), Ev.bind (set_ _ rfl h1) (ev_pos hs (Ev.bind ib2 (ev_pos h3 (Ev.bind ic2 (ev_neg h5 (j0 _ rfl)))))), ⟨fun q => (by cases q), fun q => absurd (ic3.2 q.2.2.2.1) h5⟩⟩
    by_cases h4 : q = true
    · exact ev_pos h4 (Ev.now _)
    · exact ev_neg h4 (Ev.bind ic1 (ev_neg h5 (Ev.now _)))
  by_cases h4 : q = true
  · exact ⟨false, Ev.bind ia1 (ev_pos h1 (ev_neg h2 (Ev.bind ib1 (ev_pos h3 (Ev.bind q1 (ev_pos h4 (Ev.now _))))))), Ev.bind (set_ _ rfl h1) (ev_pos hs (Ev.bind ib2 (ev_pos h3 (Ev.bind ic2 (ev_pos h5 (Ev.bind q2 (j0 _ h4))))))), ⟨fun q => (by cases q), fun z => absurd (q3.1 h4) z.2.2.2.2.1⟩⟩
  have e : (!c.any (slices_ContainsFunc_int_int.p a b)) = r := by
    rw [Bool.eq_iff_iff, r2]
    simp only [Bool.not_eq_true', List.any_eq_false, slices_ContainsFunc_int_int.p, Bool.or_eq_true, decide_eq_true_iff, not_or]
    exact ⟨fun h j _ hj => h _ ((mem_rd c _).2 ⟨j, hj, rfl⟩), fun h x hx => by obtain ⟨j, hj, rfl⟩ := (mem_rd c x).1 hx; exact h j (by omega) hj⟩
  refine ⟨r, Ev.bind ia1 (ev_pos h1 (ev_neg h2 (Ev.bind ib1 (ev_pos h3 (Ev.bind q1 (ev_neg h4 (Ev.bind ic1 (ev_pos h5 (Ev.bind (a := c.any (slices_ContainsFunc_int_int.p a b)) (ev_const rfl) ?_))))))))), Ev.bind (set_ _ rfl h1) (ev_pos hs (Ev.bind ib2 (ev_pos h3 (Ev.bind ic2 (ev_pos h5 (Ev.bind q2 ?_)))))), ?_⟩
  · rw [e]; exact Ev.now _
  · refine Ev.step (fun k => by rw [spec_ConfOk.j0]) ?_
    exact ev_neg h4 r1
  · rw [r2]
    exact ⟨fun h => ⟨ia3.1 h1, by omega, ib3.1 h3, ic3.1 h5, fun z => h4 (q3.2 z), fun x hx => by obtain ⟨j, hj, rfl⟩ := (mem_rd c x).1 hx; exact h j (by omega) hj⟩, fun h j _ hj => h.2.2.2.2.2 _ ((mem_rd c _).2 ⟨j, hj, rfl⟩)⟩

theorem strict_eq : ∀ (xs ys : List Int), xs.Pairwise (· < ·) → ys.Pairwise (· < ·) → (∀ x, x ∈ xs ↔ x ∈ ys) → xs = ys := by
  intro xs
  induction xs with
  | nil =>
    intro ys _ _ h
    cases ys with
    | nil => rfl
    | cons y ys => exact absurd ((h y).2 (List.mem_cons_self ..)) (by simp)
  | cons x xs ih =>
    intro ys hx hy h
    cases ys with
    | nil => exact absurd ((h x).1 (List.mem_cons_self ..)) (by simp)
    | cons y ys =>
      rw [List.pairwise_cons] at hx hy
      have e : x = y := by
        rcases List.mem_cons.1 ((h x).1 (List.mem_cons_self ..)) with e | e
        · exact e
        · rcases List.mem_cons.1 ((h y).2 (List.mem_cons_self ..)) with e2 | e2
          · exact e2.symm
          · have := hy.1 x e; have := hx.1 y e2; omega
      subst e
      congr 1
      refine ih ys hx.2 hy.2 fun z => ⟨fun hz => ?_, fun hz => ?_⟩
      · rcases List.mem_cons.1 ((h z).1 (List.mem_cons_of_mem _ hz)) with e | e
        · have := hx.1 z hz; omega
        · exact e
      · rcases List.mem_cons.1 ((h z).2 (List.mem_cons_of_mem _ hz)) with e | e
        · have := hy.1 z hz; omega
        · exact e

def votM (a b : List Int) (m : Nat) : List Int := ((List.range m).map (fun i : Nat => (i : Int))).filter (fun x => decide (x ∈ a) || decide (x ∈ b))
theorem votM_mem (a b : List Int) (m : Nat) (x : Int) : x ∈ votM a b m ↔ 0 ≤ x ∧ x < m ∧ (x ∈ a ∨ x ∈ b) := by
  unfold votM
  rw [List.mem_filter, List.mem_map]
  constructor
  · rintro ⟨⟨i, hi, rfl⟩, h⟩
    rw [List.mem_range] at hi
    exact ⟨by omega, by omega, by simpa using h⟩
  · rintro ⟨h0, h1, h⟩
    exact ⟨⟨x.toNat, by rw [List.mem_range]; omega, by omega⟩, by simpa using h⟩
theorem votM_succ (a b : List Int) (m : Nat) : votM a b (m + 1) = if (m : Int) ∈ a ∨ (m : Int) ∈ b then votM a b m ++ [(m : Int)] else votM a b m := by
  unfold votM
  rw [List.range_succ, List.map_append, List.filter_append]
  by_cases h : (m : Int) ∈ a ∨ (m : Int) ∈ b
  · rw [if_pos h]
    congr 1
    simp [h]
  · rw [if_neg h]
    have h1 : ¬ (m : Int) ∈ a := fun q => h (.inl q)
    have h2 : ¬ (m : Int) ∈ b := fun q => h (.inr q)
    simp [h1, h2]
theorem votM_len (a b : List Int) (m : Nat) : (votM a b m).length ≤ m := by
  unfold votM
  refine Nat.le_trans (List.length_filter_le _ _) ?_
  simp
theorem votM_sorted (a b : List Int) (m : Nat) : (votM a b m).Pairwise (· < ·) := by
  induction m with
  | zero => simp [votM]
  | succ m ih =>
    rw [votM_succ]
    by_cases h : (m : Int) ∈ a ∨ (m : Int) ∈ b
    · rw [if_pos h, List.pairwise_append]
      refine ⟨ih, by simp, fun x hx y hy => ?_⟩
      rw [List.mem_singleton] at hy
      have := (votM_mem a b m x).1 hx
      omega
    · rw [if_neg h]; exact ih
theorem ids_range {l : List Int} (h : IdsP l) {x : Int} (hx : x ∈ l) : 0 ≤ x ∧ x ≤ 99 := by
  obtain ⟨j, hj, rfl⟩ := (mem_rd l x).1 hx
  exact ⟨(h.1 j hj).1, (h.1 j hj).2.1⟩

theorem l01Copy_l (l : List Int) (hl : l.length ≤ 1048576) (d : Nat) : ∀ i : Nat, l.length = i + d → Ev (fun k => spec_l01Copy.l0 k l (l.take i) i) l := by
  induction d with
  | zero =>
    intro i hd
    refine Ev.step (fun k => by rw [spec_l01Copy.l0]) ?_
    rw [List.take_of_length_le (by omega)]
    exact ev_neg (by omega) (Ev.now _)
  | succ d ih =>
    intro i hd
    have hi := wsucc (j := i) (n := l.length) (by omega) (by omega)
    refine Ev.step (fun k => by rw [spec_l01Copy.l0]) ?_
    rw [hi]
    refine ev_pos (by omega) (ev_pos (by omega) (ev_pos (by rw [List.length_take]; omega) ?_))
    have e : l.take i ++ [rd l (i : Int)] = l.take (i + 1) := by
      rw [take_succ_getD l i 0 (by omega)]
      unfold rd
      rw [toNat_cast]
    rw [e]
    exact ih (i + 1) (by omega)
theorem l01Copy_ev (l : List Int) (hl : l.length ≤ 1048576) : Ev (fun k => spec_l01Copy.f k l) l := l01Copy_l l hl l.length 0 (by omega)
theorem l06Copy_ev (a b c : List Int) (ha : a.length ≤ 1048576) (hb : b.length ≤ 1048576) (hc : c.length ≤ 1048576) : Ev (fun k => spec_l06Copy.f k a b c) (a, b, c) :=
  Ev.bind (l01Copy_ev a ha) (Ev.bind (l01Copy_ev b hb) (Ev.bind (l01Copy_ev c hc) (Ev.now _)))
theorem l06Less_l (l o : List Int) (hl : l.length ≤ 1048576) (ho : o.length ≤ 1048576) (d : Nat) : ∀ i : Nat, l.length = i + d → Ev (fun k => spec_l06Less.l0 k l o ((l.take i).filter (fun x => !decide (x ∈ o))) i) (l.filter (fun x => !decide (x ∈ o))) := by
  induction d with
  | zero =>
    intro i hd
    refine Ev.step (fun k => by rw [spec_l06Less.l0]) ?_
    rw [List.take_of_length_le (by omega)]
    exact ev_neg (by omega) (Ev.now _)
  | succ d ih =>
    intro i hd
    have hi := wsucc (j := i) (n := l.length) (by omega) (by omega)
    have h := ih (i + 1) (by omega)
    rw [take_succ_getD l i 0 (by omega), List.filter_append, show l.getD i 0 = rd l (i : Int) by unfold rd; rw [toNat_cast]] at h
    refine Ev.step (fun k => by rw [spec_l06Less.l0]) ?_
    rw [hi]
    refine ev_pos (by omega) (ev_pos (by omega) (Ev.bind (has_ev o ho _) ?_))
    by_cases q : rd l (i : Int) ∈ o
    · rw [List.filter_cons_of_neg (by simpa using q), List.filter_nil, List.append_nil] at h
      exact ev_pos (decide_eq_true q) h
    · rw [List.filter_cons_of_pos (by simpa using q), List.filter_nil] at h
      have hx : ((l.take i).filter (fun x => !decide (x ∈ o))).length ≤ l.length := Nat.le_trans (List.length_filter_le _ _) (by rw [List.length_take]; omega)
      exact ev_neg (by simpa using q) (ev_pos (by omega) h)
theorem l06Less_ev (l o : List Int) (hl : l.length ≤ 1048576) (ho : o.length ≤ 1048576) : Ev (fun k => spec_l06Less.f k l o) (l.filter (fun x => !decide (x ∈ o))) := l06Less_l l o hl ho l.length 0 (by omega)

theorem learn_l (a b c a' b' : List Int) (hc : c.length ≤ 1048576) (id : Int) (d : Nat) : ∀ i : Nat, 100 = i + d → ∀ r, Ev (fun k => spec_Learner.j2 k a b c a' b' (votM c [id] 100)) r → Ev (fun k => spec_Learner.l0 k id i a b c a' b' (votM c [id] i)) r := by
  induction d with
  | zero =>
    intro i hd r hr
    have : i = 100 := by omega
    subst this
    refine Ev.step (fun k => by rw [spec_Learner.l0]) ?_
    exact ev_neg (by omega) hr
  | succ d ih =>
    intro i hd r hr
    have hi := wsucc (j := i) (n := 100) (by omega) (by omega)
    have hlen := votM_len c [id] i
    have h := ih (i + 1) (by omega) r hr
    rw [votM_succ] at h
    refine Ev.step (fun k => by rw [spec_Learner.l0]) ?_
    rw [hi]
    refine ev_pos (by omega) ?_
    by_cases h1 : (i : Int) = id
    · rw [if_pos (.inr (by simp [h1]))] at h
      exact ev_pos h1 (ev_pos (by omega) h)
    refine ev_neg h1 (Ev.bind (has_ev c hc _) ?_)
    by_cases h2 : (i : Int) ∈ c
    · rw [if_pos (.inl h2)] at h
      exact ev_pos (decide_eq_true h2) (ev_pos (by omega) h)
    · rw [if_neg (by rintro (q | q); exact h2 q; exact h1 (by simpa using q))] at h
      exact ev_neg (by simpa using h2) h
theorem specLearn_j2 (a b c c1 : List Int) (h : ConfP a b c) (hl1 : c1.length ≤ 1048576) : ∃ (c' : List Int) (ok : Bool), Ev (fun k => spec_Learner.j2 k a b c a b c1) (a, b, c', ok) ∧ ConfP a b c' ∧ (ok = false → c' = c) := by
  obtain ⟨pa, _, pb, pc, _⟩ := And.left ⟨h, trivial⟩
  have la := pa.2
  have lb := pb.2
  have lc := pc.2
  obtain ⟨r1, _, g2, g3⟩ := isConf_ev a b c1 (by omega) (by omega) hl1
  obtain ⟨b1, _, b2, _⟩ := same_ev c1 c hl1 (by omega)
  have hsc := l06Copy_ev a b c (by omega) (by omega) (by omega)
  by_cases e : r1 = true
  · by_cases e1 : b1 = true
    · refine ⟨c, false, ?_, h, fun _ => rfl⟩
      refine Ev.step (fun k => by rw [spec_Learner.j2]) ?_
      exact Ev.bind g2 (ev_pos e (Ev.bind b2 (ev_pos e1 (Ev.bind hsc (Ev.now _)))))
    · refine ⟨c1, true, ?_, g3.1 e, fun q => (by cases q)⟩
      refine Ev.step (fun k => by rw [spec_Learner.j2]) ?_
      exact Ev.bind g2 (ev_pos e (Ev.bind b2 (ev_neg e1 (Ev.now _))))
  · refine ⟨c, false, ?_, h, fun _ => rfl⟩
    refine Ev.step (fun k => by rw [spec_Learner.j2]) ?_
    exact Ev.bind g2 (ev_neg e (Ev.bind hsc (Ev.now _)))
theorem specLearn_ev (a b c : List Int) (h : ConfP a b c) (id : Int) (on : Bool) : ∃ (c' : List Int) (ok : Bool), Ev (fun k => spec_Learner.f k a b c id on) (a, b, c', ok) ∧ ConfP a b c' := by
  obtain ⟨pa, _, pb, pc, _⟩ := And.left ⟨h, trivial⟩
  have la := pa.2
  have lb := pb.2
  have lc := pc.2
  obtain ⟨r, _, h2, h3⟩ := isConf_ev a b c (by omega) (by omega) (by omega)
  have hsc := l06Copy_ev a b c (by omega) (by omega) (by omega)
  have hh := has_ev c (by omega) id
  unfold spec_Learner.f
  by_cases hon : (decide (id ∈ c) == on) = true
  · refine ⟨c, false, Ev.bind h2 (ev_pos (h3.2 h) (Ev.bind hh ?_)), h⟩
    refine Ev.step (fun k => by rw [spec_Learner.j0]) ?_
    exact ev_pos hon (Ev.bind hsc (Ev.now _))
  have hl6 := l06Less_ev c [id] (by omega) (by simp)
  have hv := votM_len c [id] 100
  have hf := List.length_filter_le (fun x => !decide (x ∈ [id])) c
  cases on with
  | true =>
    obtain ⟨c', ok, m1, m2, _⟩ := specLearn_j2 a b c (votM c [id] 100) h (by omega)
    refine ⟨c', ok, Ev.bind h2 (ev_pos (h3.2 h) (Ev.bind hh ?_)), m2⟩
    refine Ev.step (fun k => by rw [spec_Learner.j0]) ?_
    exact ev_neg hon (Ev.bind hsc (Ev.bind hl6 (ev_pos rfl (learn_l a b c a b (by omega) id 100 0 (by omega) _ m1))))
  | false =>
    obtain ⟨c', ok, m1, m2, _⟩ := specLearn_j2 a b c _ h (show (c.filter (fun x => !decide (x ∈ [id]))).length ≤ 1048576 by omega)
    refine ⟨c', ok, Ev.bind h2 (ev_pos (h3.2 h) (Ev.bind hh ?_)), m2⟩
    refine Ev.step (fun k => by rw [spec_Learner.j0]) ?_
    exact ev_neg hon (Ev.bind hsc (Ev.bind hl6 (ev_neg (by simp) m1)))

theorem and_mask (x : Int) (m : Nat) (hm : m < 9223372036854775808) : 0 ≤ Go.bits .and .i64 x (m : Int) ∧ Go.bits .and .i64 x (m : Int) ≤ m := by
  have h : (BitVec.ofInt 64 x &&& BitVec.ofInt 64 (m : Int)).toNat ≤ m := by
    rw [BitVec.toNat_and]
    refine Nat.le_trans Nat.and_le_right ?_
    rw [BitVec.ofInt_natCast, BitVec.toNat_ofNat]
    exact Nat.mod_le _ _
  obtain ⟨q, hq⟩ : ∃ q : Nat, q = (BitVec.ofInt 64 x &&& BitVec.ofInt 64 (m : Int)).toNat := ⟨_, rfl⟩
  have e : Go.bits .and .i64 x (m : Int) = IntKind.i64.wrap (q : Int) := by rw [hq]; rfl
  rw [e, IntKind.wrap_i64]
  omega
theorem u64_range (x : Int) : 0 ≤ IntKind.u64.wrap x ∧ IntKind.u64.wrap x ≤ 18446744073709551615 := by
  simp only [IntKind.wrap, IntKind.signed, IntKind.bits]
  simp
  omega
theorem byte_ev (b : List Int) (hb : b.length ≤ 1048576) (i h : Int) (h0 : 0 ≤ i) : ∃ x i' h', spec_l01Byte.f b i h = some (x, i', h') ∧ 0 ≤ i' ∧ 0 ≤ x ∧ x ≤ 255 := by
  unfold spec_l01Byte.f
  by_cases hi : i < (b.length : Int)
  · rw [if_pos hi, if_pos h0]
    have := and_mask
    exact ⟨_, _, _, rfl, by rw [w64 (by omega) (by omega)]; omega, (and_mask _ 255 (by decide)).1, (and_mask _ 255 (by decide)).2⟩
  · rw [if_neg hi]
    exact ⟨_, _, _, rfl, h0, (and_mask _ 255 (by decide)).1, (and_mask _ 255 (by decide)).2⟩
theorem below_ev (b : List Int) (hb : b.length ≤ 1048576) (i h n : Int) (h0 : 0 ≤ i) : ∃ x i' h', spec_l01Below.f b i h n = some (x, i', h') ∧ 0 ≤ i' ∧ 0 ≤ x ∧ (0 < n → x < n) ∧ (n ≤ 0 → x = 0) := by
  unfold spec_l01Below.f
  by_cases h1 : n ≤ 0
  · rw [if_pos h1]
    exact ⟨0, i, h, rfl, h0, by omega, by omega, fun _ => rfl⟩
  rw [if_neg h1]
  by_cases h2 : n ≤ 256
  · rw [if_pos h2]
    obtain ⟨x, i', h', e, g0, g1, g2⟩ := byte_ev b hb i h h0
    rw [e]
    simp only [Option.bind_some]
    rw [if_neg (by omega)]
    exact ⟨_, _, _, rfl, g0, Int.tmod_nonneg _ g1, fun _ => Int.tmod_lt_of_pos _ (by omega), fun h => by omega⟩
  · rw [if_neg h2]
    obtain ⟨x, i1, h1', e1, g0, g1, g2⟩ := byte_ev b hb i h h0
    obtain ⟨y, i2, h2', e2, k0, k1, k2⟩ := byte_ev b hb i1 h1' g0
    obtain ⟨z, i3, h3', e3, m0, m1, m2⟩ := byte_ev b hb i2 h2' k0
    rw [e1]
    simp only [Option.bind_some]
    rw [e2]
    simp only [Option.bind_some]
    rw [e3]
    simp only [Option.bind_some]
    rw [if_neg (by omega)]
    have w1 : wrap64 (x * 65536) = x * 65536 := w64 (by omega) (by omega)
    have w2 : wrap64 (y * 256) = y * 256 := w64 (by omega) (by omega)
    have w3 : wrap64 (x * 65536 + y * 256) = x * 65536 + y * 256 := w64 (by omega) (by omega)
    have w4 : wrap64 (x * 65536 + y * 256 + z) = x * 65536 + y * 256 + z := w64 (by omega) (by omega)
    rw [w1, w2, w3, w4]
    exact ⟨_, _, _, rfl, m0, Int.tmod_nonneg _ (by omega), fun _ => Int.tmod_lt_of_pos _ (by omega), fun h => by omega⟩

theorem size_ev (l : List Int) (hl : l.length ≤ 1048576) (m : Int) : ∃ n, spec_l01Size.f l m = some n ∧ n ≤ m ∧ (0 ≤ m → 0 ≤ n) := by
  unfold spec_l01Size.f
  rw [w64 (x := (l.length : Int) / 16) (by omega) (by omega), w64 (x := 2 + (l.length : Int) / 16) (by omega) (by omega)]
  by_cases h : 2 + (l.length : Int) / 16 > m
  · rw [if_pos h]; exact ⟨m, rfl, by omega, fun h => h⟩
  · rw [if_neg h]; exact ⟨_, rfl, by omega, fun _ => by omega⟩

theorem ids_of {l : List Int} (h : l.Pairwise (· < ·)) (hr : ∀ x ∈ l, 0 ≤ x ∧ x ≤ 99) (hl : l.length ≤ 7) : IdsP l := by
  refine ⟨fun j hj => ?_, hl⟩
  have e : ∀ q : Nat, (hq : q < l.length) → rd l (q : Nat) = l[q] := fun q hq => by unfold rd; rw [toNat_cast, getD_lt l q 0 hq]
  have := hr (rd l (j : Nat)) (by rw [e j hj]; exact List.getElem_mem _)
  refine ⟨this.1, this.2, fun h0 => ?_⟩
  rw [e j hj, e (j - 1) (by omega)]
  exact (List.pairwise_iff_getElem.1 h) (j - 1) j (by omega) hj (by omega)
theorem ids_nil : IdsP [] := ⟨fun j h => absurd h (by simp), by simp⟩
theorem ids_filter {l : List Int} (h : IdsP l) (p : Int → Bool) (hp : l.Pairwise (· < ·)) : IdsP (l.filter p) := by
  refine ids_of (hp.sublist List.filter_sublist) (fun x hx => ids_range h ((List.mem_filter.1 hx).1)) ?_
  have := List.length_filter_le p l
  have := h.2
  omega
theorem ids_pw {l : List Int} (h : IdsP l) : l.Pairwise (· < ·) := by
  have s : ∀ j i : Nat, i < j → j < l.length → rd l (i : Nat) < rd l (j : Nat) := by
    intro j
    induction j with
    | zero => intro i h1; omega
    | succ j ih =>
      intro i hij hj
      have := (h.1 (j + 1) hj).2.2 (by omega)
      rw [Nat.add_sub_cancel] at this
      by_cases e : i = j
      · subst e; exact this
      · have := ih i (by omega) (by omega); omega
  rw [List.pairwise_iff_getElem]
  intro i j hi hj hij
  have := s j i hij hj
  unfold rd at this
  rwa [toNat_cast, toNat_cast, getD_lt l i 0 hi, getD_lt l j 0 hj] at this
/-- What Begin comes to, in the reference. -/
theorem specBegin_ev (a b c w : List Int) (h : ConfP a b c) (hw : w.length ≤ 1048576) : (b = [] ∧ IdsP w ∧ 0 < w.length ∧ a ≠ w → Ev (fun k => spec_Begin.f k a b c w) (a, w, c.filter (fun x => !decide (x ∈ w)), true) ∧ ConfP a w (c.filter (fun x => !decide (x ∈ w)))) ∧ (¬ (b = [] ∧ IdsP w ∧ 0 < w.length ∧ a ≠ w) → Ev (fun k => spec_Begin.f k a b c w) (a, b, c, false)) := by
  obtain ⟨pa, pa0, pb, pc, pab, pd⟩ := id h
  have la := pa.2
  have lb := pb.2
  have lc := pc.2
  obtain ⟨r, _, h2, h3⟩ := isConf_ev a b c (by omega) (by omega) (by omega)
  have hsc := l06Copy_ev a b c (by omega) (by omega) (by omega)
  have hl6 := l06Less_ev c w (by omega) hw
  obtain ⟨iw, _, iw2, iw3⟩ := ids_ev w hw
  obtain ⟨q, _, q2, q3⟩ := same_ev a w (by omega) hw
  have ht : ∀ x : Bool, x = true → Ev (fun k => spec_Begin.j0 k w x a b c) (a, b, c, false) := fun x hx => by
    refine Ev.step (fun k => by rw [spec_Begin.j0]) ?_
    exact ev_pos hx (Ev.bind hsc (Ev.now _))
  refine ⟨fun ⟨e0, e1, e2, e3⟩ => ⟨?_, ?_⟩, fun hn => ?_⟩
  · unfold spec_Begin.f
    refine Ev.bind h2 (ev_pos (h3.2 h) (ev_neg (by rw [e0]; simp) (Ev.bind (a := true) ?_ (ev_pos rfl (Ev.bind q2 ?_)))))
    · unfold spec_l06Set.f
      refine Ev.bind iw2 (ev_pos (iw3.2 e1) ?_)
      rw [decide_eq_true (show (w.length : Int) > 0 by omega)]
      exact Ev.now _
    · refine Ev.step (fun k => by rw [spec_Begin.j0]) ?_
      exact ev_neg (fun z => e3 (q3.1 z)) (Ev.bind (l01Copy_ev a (by omega)) (Ev.bind (l01Copy_ev w hw) (Ev.bind hl6 (Ev.now _))))
  · refine ⟨pa, pa0, e1, ids_filter pc _ (ids_pw pc), e3, fun x hx => ?_⟩
    rw [List.mem_filter] at hx
    exact ⟨(pd x hx.1).1, by simpa using hx.2⟩
  · unfold spec_Begin.f
    refine Ev.bind h2 (ev_pos (h3.2 h) ?_)
    by_cases e0 : (b.length : Int) > 0
    · exact ev_pos e0 (ht _ rfl)
    refine ev_neg e0 ?_
    have e0' : b = [] := List.eq_nil_of_length_eq_zero (by omega)
    by_cases e1 : iw = true
    rotate_left
    · refine Ev.bind (a := false) ?_ (ev_neg (by simp) (ht _ rfl))
      unfold spec_l06Set.f
      exact Ev.bind iw2 (ev_neg e1 (Ev.now _))
    have hset : Ev (fun k => spec_l06Set.f k w) (decide ((w.length : Int) > 0)) := by
      unfold spec_l06Set.f
      exact Ev.bind iw2 (ev_pos e1 (Ev.now _))
    by_cases e2 : 0 < w.length
    rotate_left
    · exact Ev.bind hset (ev_neg (by rw [decide_eq_false (by omega)]; simp) (ht _ rfl))
    refine Ev.bind hset (ev_pos (decide_eq_true (by omega)) (Ev.bind q2 (ht _ ?_)))
    exact q3.2 (Classical.byContradiction fun z => hn ⟨e0', iw3.1 e1, e2, z⟩)
theorem specFinish_ev (a b c : List Int) (h : ConfP a b c) : (0 < b.length → Ev (fun k => spec_Finish.f k a b c) (b, [], c, true) ∧ ConfP b [] c) ∧ (b = [] → Ev (fun k => spec_Finish.f k a b c) (a, b, c, false)) := by
  obtain ⟨pa, pa0, pb, pc, pab, pd⟩ := id h
  have la := pa.2
  have lb := pb.2
  have lc := pc.2
  obtain ⟨r, _, h2, h3⟩ := isConf_ev a b c (by omega) (by omega) (by omega)
  have hsc := l06Copy_ev a b c (by omega) (by omega) (by omega)
  unfold spec_Finish.f
  refine ⟨fun h0 => ⟨?_, ?_⟩, fun h0 => ?_⟩
  · refine Ev.bind h2 (ev_pos (h3.2 h) ?_)
    refine Ev.step (fun k => by rw [spec_Finish.j0]) ?_
    refine ev_neg (by rw [show ((b.length : Int) == 0) = false by rw [beq_eq_false_iff_ne]; omega]; simp) ?_
    exact Ev.bind (l01Copy_ev b (by omega)) (Ev.bind (l01Copy_ev c (by omega)) (Ev.now _))
  · exact ⟨pb, h0, ids_nil, pc, fun e => by rw [e] at h0; simp at h0, fun x hx => ⟨(pd x hx).2, by simp⟩⟩
  · refine Ev.bind h2 (ev_pos (h3.2 h) ?_)
    refine Ev.step (fun k => by rw [spec_Finish.j0]) ?_
    exact ev_pos (by rw [h0]; rfl) (Ev.bind hsc (Ev.now _))
theorem specPlay_l (ops : List S77) (hops : ops.length ≤ 100) (hw : ∀ x ∈ ops, x.f2.length ≤ 1048576) (d : Nat) : ∀ (i : Nat) (told : List Bool) (a b c : List Int), ops.length = i + d → told.length = i → ConfP a b c → ∃ a' b' c' t', Ev (fun k => spec_PlayConf.l0 k ops told i a b c) (a', b', c', t') ∧ ConfP a' b' c' := by
  induction d with
  | zero =>
    intro i told a b c hd ht h
    refine ⟨a, b, c, told, ?_, h⟩
    refine Ev.step (fun k => by rw [spec_PlayConf.l0]) ?_
    exact ev_neg (by omega) (Ev.now _)
  | succ d ih =>
    intro i told a b c hd ht h
    have hi := wsucc (j := i) (n := ops.length) (by omega) (by omega)
    have hwi : (rd_T77 ops i).f2.length ≤ 1048576 := by
      unfold rd_T77
      rw [toNat_cast]
      exact hw _ (getD_mem ops i _ (by omega))
    have go : ∀ (t : Bool) (a1 b1 c1 : List Int), ConfP a1 b1 c1 → ∃ a' b' c' t', Ev (fun k => if told.length < 140737488355328 then spec_PlayConf.l0 k ops (told ++ [t]) (wrap64 ((i : Int) + 1)) a1 b1 c1 else none) (a', b', c', t') ∧ ConfP a' b' c' := fun t a1 b1 c1 h1 => by
      obtain ⟨a', b', c', t', m1, m2⟩ := ih (i + 1) (told ++ [t]) a1 b1 c1 (by omega) (by simp [ht]) h1
      rw [hi]
      exact ⟨a', b', c', t', ev_pos (by omega) m1, m2⟩
    by_cases k0 : (rd_T77 ops i).f0 = 0
    · obtain ⟨s1, s2⟩ := specBegin_ev a b c _ h hwi
      by_cases q : b = [] ∧ IdsP (rd_T77 ops i).f2 ∧ 0 < (rd_T77 ops i).f2.length ∧ a ≠ (rd_T77 ops i).f2
      · obtain ⟨e1, e2⟩ := s1 q
        obtain ⟨a', b', c', t', m1, m2⟩ := go true _ _ _ e2
        refine ⟨a', b', c', t', ?_, m2⟩
        refine Ev.step (fun k => by rw [spec_PlayConf.l0]) ?_
        exact ev_pos (by omega) (ev_pos (by omega) (ev_pos k0 (Ev.bind e1 m1)))
      · obtain ⟨a', b', c', t', m1, m2⟩ := go false _ _ _ h
        refine ⟨a', b', c', t', ?_, m2⟩
        refine Ev.step (fun k => by rw [spec_PlayConf.l0]) ?_
        exact ev_pos (by omega) (ev_pos (by omega) (ev_pos k0 (Ev.bind (s2 q) m1)))
    by_cases k1 : (rd_T77 ops i).f0 = 1
    · obtain ⟨s1, s2⟩ := specFinish_ev a b c h
      by_cases q : b = []
      · obtain ⟨a', b', c', t', m1, m2⟩ := go false _ _ _ h
        refine ⟨a', b', c', t', ?_, m2⟩
        refine Ev.step (fun k => by rw [spec_PlayConf.l0]) ?_
        exact ev_pos (by omega) (ev_pos (by omega) (ev_neg k0 (ev_pos k1 (Ev.bind (s2 q) m1))))
      · obtain ⟨e1, e2⟩ := s1 (by cases b with | nil => exact absurd rfl q | cons x y => simp)
        obtain ⟨a', b', c', t', m1, m2⟩ := go true _ _ _ e2
        refine ⟨a', b', c', t', ?_, m2⟩
        refine Ev.step (fun k => by rw [spec_PlayConf.l0]) ?_
        exact ev_pos (by omega) (ev_pos (by omega) (ev_neg k0 (ev_pos k1 (Ev.bind e1 m1))))
    by_cases k2 : (rd_T77 ops i).f0 = 2
    · obtain ⟨c1, ok, e1, e2⟩ := specLearn_ev a b c h (rd_T77 ops i).f1 true
      obtain ⟨a', b', c', t', m1, m2⟩ := go ok _ _ _ e2
      refine ⟨a', b', c', t', ?_, m2⟩
      refine Ev.step (fun k => by rw [spec_PlayConf.l0]) ?_
      exact ev_pos (by omega) (ev_pos (by omega) (ev_neg k0 (ev_neg k1 (ev_pos k2 (Ev.bind e1 m1)))))
    by_cases k3 : (rd_T77 ops i).f0 = 3
    · obtain ⟨c1, ok, e1, e2⟩ := specLearn_ev a b c h (rd_T77 ops i).f1 false
      obtain ⟨a', b', c', t', m1, m2⟩ := go ok _ _ _ e2
      refine ⟨a', b', c', t', ?_, m2⟩
      refine Ev.step (fun k => by rw [spec_PlayConf.l0]) ?_
      exact ev_pos (by omega) (ev_pos (by omega) (ev_neg k0 (ev_neg k1 (ev_neg k2 (ev_pos k3 (Ev.bind e1 m1))))))
    · obtain ⟨a', b', c', t', m1, m2⟩ := go false _ _ _ h
      refine ⟨a', b', c', t', ?_, m2⟩
      refine Ev.step (fun k => by rw [spec_PlayConf.l0]) ?_
      exact ev_pos (by omega) (ev_pos (by omega) (ev_neg k0 (ev_neg k1 (ev_neg k2 (ev_neg k3 m1)))))
theorem specPlay_ev (ops : List S77) (hops : ops.length ≤ 100) (hw : ∀ x ∈ ops, x.f2.length ≤ 1048576) (a b c : List Int) (h : ConfP a b c) : ∃ a' b' c' t', Ev (fun k => spec_PlayConf.f k a b c ops) (a', b', c', t') ∧ ConfP a' b' c' := by
  obtain ⟨pa, _, pb, pc, _⟩ := id h
  have la := pa.2
  have lb := pb.2
  have lc := pc.2
  obtain ⟨r, _, h2, h3⟩ := isConf_ev a b c (by omega) (by omega) (by omega)
  obtain ⟨a', b', c', t', m1, m2⟩ := specPlay_l ops hops hw ops.length 0 [] a b c (by omega) rfl h
  refine ⟨a', b', c', t', ?_, m2⟩
  unfold spec_PlayConf.f
  refine Ev.bind h2 (ev_pos (h3.2 h) ?_)
  refine Ev.step (fun k => by rw [spec_PlayConf.j0]) ?_
  exact ev_neg (by simp; omega) (Ev.bind (l06Copy_ev a b c (by omega) (by omega) (by omega)) m1)
theorem drawSet_l (b : List Int) (hb : b.length ≤ 1048576) (d : Nat) : ∀ (xs : List Int) (x i h : Int), 0 ≤ i → 0 ≤ x → x ≤ 100 → 9 - x ≤ d → xs.Pairwise (· < ·) → (∀ y ∈ xs, 0 ≤ y ∧ y ≤ 8 ∧ y < x) → xs.length ≤ 5 → ∃ r i' h', Ev (fun k => spec_l06DrawSet.l0 k xs x b i h) (r, i', h') ∧ 0 ≤ i' ∧ IdsP r ∧ ((0 < xs.length ∨ x < 9) → 0 < r.length) := by
  have fin : ∀ (xs : List Int) (x i h : Int), 0 ≤ i → xs.Pairwise (· < ·) → (∀ y ∈ xs, 0 ≤ y ∧ y ≤ 8 ∧ y < x) → xs.length ≤ 5 → ¬ (x < 9 ∧ (xs.length : Int) < 5) → ∃ r i' h', Ev (fun k => spec_l06DrawSet.l0 k xs x b i h) (r, i', h') ∧ 0 ≤ i' ∧ IdsP r ∧ ((0 < xs.length ∨ x < 9) → 0 < r.length) := fun xs x i h h0 hp hr hl hn => by
    refine ⟨xs, i, h, ?_, h0, ids_of hp (fun y hy => by have := hr y hy; omega) (by omega), fun q => by omega⟩
    refine Ev.step (fun k => by rw [spec_l06DrawSet.l0]) ?_
    by_cases q : x < 9
    · exact ev_pos q (ev_neg (fun z => hn ⟨q, z⟩) (Ev.now _))
    · exact ev_neg q (Ev.now _)
  induction d with
  | zero =>
    intro xs x i h h0 hx hx2 hd hp hr hl
    exact fin xs x i h h0 hp hr hl (by omega)
  | succ d ih =>
    intro xs x i h h0 hx hx2 hd hp hr hl
    by_cases hn : x < 9 ∧ (xs.length : Int) < 5
    rotate_left
    · exact fin xs x i h h0 hp hr hl hn
    obtain ⟨y, i1, h1, e, g0, g1, g2, _⟩ := below_ev b hb i h 3 h0
    have g3 := g2 (by decide)
    obtain ⟨r, i', h', m1, m2, m3, m4⟩ := ih (xs ++ [x]) (x + 1 + y) i1 h1 g0 (by omega) (by omega) (by omega) (by
      rw [List.pairwise_append]
      exact ⟨hp, by simp, fun u hu v hv => by rw [List.mem_singleton] at hv; have := hr u hu; omega⟩) (fun z hz => by
      rcases List.mem_append.1 hz with hz | hz
      · have := hr z hz; omega
      · rw [List.mem_singleton] at hz; omega) (by simp; omega)
    refine ⟨r, i', h', ?_, m2, m3, fun _ => m4 (.inl (by simp))⟩
    refine Ev.step (fun k => by rw [spec_l06DrawSet.l0]) ?_
    refine ev_pos hn.1 (ev_pos hn.2 (ev_pos (by omega) (Ev.bind (ev_const e) ?_)))
    rw [w64 (x := x + 1) (by omega) (by omega), w64 (x := x + 1 + y) (by omega) (by omega)]
    exact m1
theorem drawSet_ev (b : List Int) (hb : b.length ≤ 1048576) (i h : Int) (h0 : 0 ≤ i) : ∃ r i' h', Ev (fun k => spec_l06DrawSet.f k b i h) (r, i', h') ∧ 0 ≤ i' ∧ IdsP r ∧ 0 < r.length := by
  obtain ⟨y, i1, h1, e, g0, g1, g2, _⟩ := below_ev b hb i h 3 h0
  have g3 := g2 (by decide)
  obtain ⟨r, i', h', m1, m2, m3, m4⟩ := drawSet_l b hb 9 [] y i1 h1 g0 g1 (by omega) (by omega) (by simp) (by simp) (by simp)
  exact ⟨r, i', h', Ev.bind (ev_const e) m1, m2, m3, m4 (.inr (by omega))⟩
theorem pick_ev (b : List Int) (hb : b.length ≤ 1048576) (i h : Int) (h0 : 0 ≤ i) (l : List Int) (hl : 0 < l.length) (hl2 : l.length ≤ 1000) : ∃ x i' h', spec_l01PickInt.f b i h l = some (x, i', h') ∧ 0 ≤ i' := by
  obtain ⟨y, i1, h1, e, g0, g1, g2, _⟩ := below_ev b hb i h l.length h0
  have g3 := g2 (by omega)
  unfold spec_l01PickInt.f
  rw [e]
  simp only [Option.bind_some]
  rw [if_pos g1, if_pos g3]
  exact ⟨_, _, _, rfl, g0⟩
theorem drawOps_l (b : List Int) (hb : b.length ≤ 1048576) (d : Nat) : ∀ (xs : List S77) (n i h : Int), 0 ≤ i → n = d → d ≤ 100 → xs.length + d ≤ 100 → (∀ x ∈ xs, x.f2.length ≤ 1048576) → ∃ r i' h', Ev (fun k => spec_l06DrawOps.l0 k xs n b i h) (r, i', h') ∧ 0 ≤ i' ∧ r.length ≤ 100 ∧ (∀ x ∈ r, x.f2.length ≤ 1048576) := by
  induction d with
  | zero =>
    intro xs n i h h0 hn hd hl hw
    refine ⟨xs, i, h, ?_, h0, by omega, hw⟩
    refine Ev.step (fun k => by rw [spec_l06DrawOps.l0]) ?_
    exact ev_neg (by omega) (Ev.now _)
  | succ d ih =>
    intro xs n i h h0 hn hd hl hw
    obtain ⟨y1, i1, h1, e1, g1, _⟩ := below_ev b hb i h 6 h0
    obtain ⟨y2, i2, h2, e2, g2⟩ := pick_ev b hb i1 h1 g1 [0, 1, 2, 2, 3, 0, 1, wrap64 (y1 - 1)] (by simp) (by simp)
    obtain ⟨y3, i3, h3, e3, g3, _⟩ := below_ev b hb i2 h2 14 g2
    obtain ⟨y4, i4, h4, e4, g4, g5, _⟩ := drawSet_ev b hb i3 h3 g3
    have := g5.2
    obtain ⟨r, i', h', m1, m2, m3, m4⟩ := ih (xs ++ [⟨y2, y3, y4⟩]) (n - 1) i4 h4 g4 (by omega) (by omega) (by simp; omega) (fun z hz => by
      rcases List.mem_append.1 hz with hz | hz
      · exact hw z hz
      · rw [List.mem_singleton] at hz; rw [hz]; show y4.length ≤ _; omega)
    refine ⟨r, i', h', ?_, m2, m3, m4⟩
    refine Ev.step (fun k => by rw [spec_l06DrawOps.l0]) ?_
    refine ev_pos (by omega) (Ev.bind (ev_const e1) (Ev.bind (ev_const e2) (Ev.bind (ev_const e3) (Ev.bind e4 (ev_pos (by omega) ?_)))))
    rw [w64 (x := n - 1) (by omega) (by omega)]
    exact m1
theorem drawOps_ev (b : List Int) (hb : b.length ≤ 1048576) (i h : Int) (h0 : 0 ≤ i) (l : List Int) (hl : l.length ≤ 1048576) : ∃ r i' h', Ev (fun k => spec_l06DrawOps.f k b i h l) (r, i', h') ∧ 0 ≤ i' ∧ r.length ≤ 100 ∧ (∀ x ∈ r, x.f2.length ≤ 1048576) := by
  obtain ⟨n, e, n1, n2⟩ := size_ev l hl 12
  have n3 := n2 (by omega)
  obtain ⟨y, i1, h1, e1, g0, g1, g2, _⟩ := below_ev b hb i h (2 + n) h0
  have g3 := g2 (by omega)
  obtain ⟨r, i', h', m1, m2⟩ := drawOps_l b hb y.toNat [] y i1 h1 g0 (by omega) (by omega) (by simp; omega) (by simp)
  refine ⟨r, i', h', ?_, m2⟩
  unfold spec_l06DrawOps.f
  refine Ev.bind (ev_const e) ?_
  rw [w64 (x := 2 + n) (by omega) (by omega)]
  exact Ev.bind (ev_const e1) m1
theorem drawRight_ev (b : List Int) (hb : b.length ≤ 1048576) (i h : Int) (h0 : 0 ≤ i) (l : List Int) (hl : l.length ≤ 1048576) : ∃ a1 b1 c1 i' h', Ev (fun k => spec_l06DrawRight.f k b i h l) (a1, b1, c1, i', h') ∧ 0 ≤ i' ∧ ConfP a1 b1 c1 := by
  obtain ⟨s, i1, h1, e1, g1, g2, g3⟩ := drawSet_ev b hb i h h0
  obtain ⟨ops, i2, h2, e2, g4, g5, g6⟩ := drawOps_ev b hb i1 h1 g1 l hl
  obtain ⟨a', b', c', t', m1, m2⟩ := specPlay_ev ops g5 g6 s [] [] ⟨g2, g3, ids_nil, ids_nil, fun e => by rw [e] at g3; simp at g3, fun x hx => by simp at hx⟩
  exact ⟨a', b', c', i2, h2, Ev.bind e1 (Ev.bind e2 (Ev.bind m1 (Ev.now _))), g4, m2⟩

theorem new_l (l : List Int) (hl : l.length ≤ 1048576) (d : Nat) : ∀ (i : Nat) (h : Int), l.length = i + d → ∃ h', Ev (fun k => spec_l01New.l0 k l h i) (l, 0, h') := by
  induction d with
  | zero =>
    intro i h hd
    refine ⟨h, ?_⟩
    refine Ev.step (fun k => by rw [spec_l01New.l0]) ?_
    exact ev_neg (by omega) (Ev.now _)
  | succ d ih =>
    intro i h hd
    by_cases h4 : (i : Int) < 4000
    · obtain ⟨h', hh⟩ := ih (i + 1) (Go.bits .and .i64 (wrap64 ((wrap64 ((wrap64 (h * 149)) + (wrap64 (rd l i)))) + 11)) 1073741823) (by omega)
      refine ⟨h', ?_⟩
      refine Ev.step (fun k => by rw [spec_l01New.l0]) ?_
      rw [wsucc (n := l.length) (by omega) (by omega)]
      exact ev_pos (by omega) (ev_pos h4 (ev_pos (by omega) hh))
    · refine ⟨h, ?_⟩
      refine Ev.step (fun k => by rw [spec_l01New.l0]) ?_
      exact ev_pos (by omega) (ev_neg h4 (Ev.now _))
theorem new_ev (l : List Int) (hl : l.length ≤ 1048576) : ∃ h, Ev (fun k => spec_l01New.f k l) (l, 0, h) := by
  obtain ⟨h, hh⟩ := new_l l hl l.length 0 (wrap64 (138138 + (l.length : Int))) (by omega)
  exact ⟨h, hh⟩

theorem drawConf_ev (l : List Int) (hl : l.length ≤ 1048576) : ∃ a b c w, Ev (fun k => spec_DrawRightConf.f k l) (a, b, c, w) ∧ ConfP a b c ∧ IdsP w ∧ 0 < w.length := by
  obtain ⟨h, e0⟩ := new_ev l hl
  obtain ⟨a, b, c, i1, h1, e1, g1, g2⟩ := drawRight_ev l hl 0 h (by omega) l hl
  obtain ⟨w, i2, h2, e2, _, g3, g4⟩ := drawSet_ev l hl i1 h1 g1
  exact ⟨a, b, c, w, Ev.bind e0 (Ev.bind e1 (Ev.bind e2 (Ev.now _))), g2, g3, g4⟩

def cnt (s y : List Int) : Nat := (s.filter (fun x => decide (x ∈ y))).length
def maj (s y : List Int) : Bool := decide (2 * cnt s y > s.length)
def qM (a b y : List Int) : Bool := maj a y && (decide (b.length = 0) || maj b y)
theorem cnt_succ (s y : List Int) (i : Nat) (hi : i < s.length) : cnt (s.take (i + 1)) y = if rd s i ∈ y then cnt (s.take i) y + 1 else cnt (s.take i) y := by
  unfold cnt
  rw [take_succ_getD s i 0 hi, List.filter_append, List.length_append, show s.getD i 0 = rd s (i : Int) by unfold rd; rw [toNat_cast]]
  by_cases h : rd s (i : Int) ∈ y
  · rw [if_pos h, List.filter_cons_of_pos (by simpa using h)]; simp
  · rw [if_neg h, List.filter_cons_of_neg (by simpa using h)]; simp
theorem cnt_le (s y : List Int) : cnt s y ≤ s.length := List.length_filter_le _ _
theorem cnt_mono (s : List Int) {y z : List Int} (h : ∀ x, x ∈ y → x ∈ z) : cnt s y ≤ cnt s z := by
  unfold cnt
  induction s with
  | nil => simp
  | cons x s ih =>
    by_cases h1 : x ∈ y
    · rw [List.filter_cons_of_pos (by simpa using h1), List.filter_cons_of_pos (by simpa using h x h1)]
      simpa using ih
    · rw [List.filter_cons_of_neg (by simpa using h1)]
      by_cases h2 : x ∈ z
      · rw [List.filter_cons_of_pos (by simpa using h2)]; simp; omega
      · rw [List.filter_cons_of_neg (by simpa using h2)]; exact ih
theorem maj_mono (s : List Int) {y z : List Int} (h : ∀ x, x ∈ y → x ∈ z) (hm : maj s y = true) : maj s z = true := by
  have := cnt_mono s h
  unfold maj at *
  rw [decide_eq_true_iff] at *
  omega
theorem qM_mono (a b : List Int) {y z : List Int} (h : ∀ x, x ∈ y → x ∈ z) (hm : qM a b y = true) : qM a b z = true := by
  unfold qM at *
  rw [Bool.and_eq_true, Bool.or_eq_true] at *
  exact ⟨maj_mono a h hm.1, hm.2.elim .inl fun q => .inr (maj_mono b h q)⟩
theorem cnt_all {s y : List Int} (h : ∀ x ∈ s, x ∈ y) : cnt s y = s.length := by
  unfold cnt
  rw [List.filter_eq_self.2 (fun x hx => by simpa using h x hx)]
theorem maj_all {s y : List Int} (h : ∀ x ∈ s, x ∈ y) (h0 : 0 < s.length) : maj s y = true := by
  unfold maj
  rw [decide_eq_true_iff, cnt_all h]
  omega
theorem qM_all {a b y : List Int} (ha : ∀ x ∈ a, x ∈ y) (hb : ∀ x ∈ b, x ∈ y) (h0 : 0 < a.length) : qM a b y = true := by
  unfold qM
  rw [Bool.and_eq_true, Bool.or_eq_true]
  refine ⟨maj_all ha h0, ?_⟩
  by_cases q : b.length = 0
  · exact .inl (decide_eq_true q)
  · exact .inr (maj_all hb (by omega))
theorem qM_nil (a b : List Int) : qM a b [] = false := by
  have : cnt a [] = 0 := by unfold cnt; simp
  unfold qM maj
  rw [this, decide_eq_false (by omega)]
  rfl
theorem index_l (l : List Int) (hl : l.length ≤ 1048576) (a : Int) (d : Nat) : ∀ i : Nat, l.length = i + d → (∀ j : Nat, j < i → rd l j ≠ a) → ∃ r, Ev (fun k => slices_Index_int_int.l0 k l a (l.length : Int) i) r ∧ decide (r ≥ 0) = decide (a ∈ l) := by
  induction d with
  | zero =>
    intro i hd hb
    refine ⟨-1, ?_, ?_⟩
    · refine Ev.step (fun k => by rw [slices_Index_int_int.l0]) ?_
      exact ev_neg (by omega) (Ev.now _)
    · rw [decide_eq_false (by omega), decide_eq_false]
      intro h
      obtain ⟨j, hj, e⟩ := (mem_rd l a).1 h
      exact hb j (by omega) e
  | succ d ih =>
    intro i hd hb
    have hi := wsucc (j := i) (n := l.length) (by omega) (by omega)
    by_cases h : a = rd l i
    · refine ⟨i, ?_, ?_⟩
      · refine Ev.step (fun k => by rw [slices_Index_int_int.l0]) ?_
        exact ev_pos (by omega) (ev_pos (by omega) (ev_pos (by omega) (ev_pos h (Ev.now _))))
      · rw [decide_eq_true (by omega), decide_eq_true ((mem_rd l a).2 ⟨i, by omega, h.symm⟩)]
    · obtain ⟨r, h1, h2⟩ := ih (i + 1) (by omega) (fun j hj => by
        by_cases e : j = i
        · subst e; exact fun z => h z.symm
        · exact hb j (by omega))
      refine ⟨r, ?_, h2⟩
      refine Ev.step (fun k => by rw [slices_Index_int_int.l0]) ?_
      rw [hi]
      exact ev_pos (by omega) (ev_pos (by omega) (ev_pos (by omega) (ev_neg h h1)))
theorem contains_ev (l : List Int) (hl : l.length ≤ 1048576) (a : Int) : Ev (fun k => slices_Contains_int_int.f k l a) (decide (a ∈ l)) := by
  obtain ⟨r, h1, h2⟩ := index_l l hl a l.length 0 (by omega) (fun j h => by omega)
  unfold slices_Contains_int_int.f slices_Index_int_int.f
  rw [← h2]
  exact Ev.bind h1 (Ev.now _)
theorem half_end (s y : List Int) (hs : s.length ≤ 1048576) : decide (wrap64 (2 * (cnt s y : Int)) > (s.length : Int)) = maj s y := by
  have := cnt_le s y
  unfold maj
  rw [w64 (by omega) (by omega)]
  exact decide_eq_decide.2 (by omega)
theorem majI_l (s y : List Int) (hs : s.length ≤ 1048576) (hy : y.length ≤ 1048576) (d : Nat) : ∀ i : Nat, s.length = i + d → Ev (fun k => impl_hasMajority.l0 k s y (cnt (s.take i) y) s s.length i) (maj s y) := by
  induction d with
  | zero =>
    intro i hd
    refine Ev.step (fun k => by rw [impl_hasMajority.l0]) ?_
    rw [List.take_of_length_le (by omega), ← half_end s y hs]
    exact ev_neg (by omega) (Ev.now _)
  | succ d ih =>
    intro i hd
    have hi := wsucc (j := i) (n := s.length) (by omega) (by omega)
    have hc := wsucc (j := cnt (s.take i) y) (n := 1048577) (by have := cnt_le (s.take i) y; rw [List.length_take] at this; omega) (by omega)
    have h := ih (i + 1) (by omega)
    rw [cnt_succ s y i (by omega)] at h
    refine Ev.step (fun k => by rw [impl_hasMajority.l0]) ?_
    rw [hi, hc]
    refine ev_pos (by omega) (ev_pos (by omega) (ev_pos (by omega) (Ev.bind (contains_ev y hy _) ?_)))
    by_cases q : rd s (i : Int) ∈ y
    · rw [if_pos q] at h
      exact ev_pos (decide_eq_true q) h
    · rw [if_neg q] at h
      exact ev_neg (by simpa using q) h
theorem majI_ev (s y : List Int) (hs : s.length ≤ 1048576) (hy : y.length ≤ 1048576) : Ev (fun k => impl_hasMajority.f k s y) (maj s y) := majI_l s y hs hy s.length 0 (by omega)
theorem quorumI_ev (a b c y : List Int) (ha : a.length ≤ 1048576) (hb : b.length ≤ 1048576) (hy : y.length ≤ 1048576) : Ev (fun k => impl_quorum.f k a b c y) (qM a b y) := by
  unfold impl_quorum.f qM
  refine Ev.bind (majI_ev a y ha hy) ?_
  by_cases h : maj a y = true
  · by_cases q : b.length = 0
    · rw [h, decide_eq_true q]
      exact ev_pos rfl (ev_pos (by omega) (Ev.now _))
    · rw [h, decide_eq_false q, Bool.false_or, Bool.true_and]
      exact ev_pos rfl (ev_neg (by omega) (Ev.bind (majI_ev b y hb hy) (Ev.now _)))
  · have h' : maj a y = false := by simpa using h
    rw [h', Bool.false_and]
    exact ev_neg (by simp) (Ev.now _)
theorem QuorumI_ev (a b c y : List Int) (h : ConfP a b c) (hy : y.length ≤ 1048576) : Ev (fun k => impl_Quorum.f k a b c y) (qM a b y) := by
  obtain ⟨pa, _, pb, pc, _⟩ := id h
  have la := pa.2
  have lb := pb.2
  have lc := pc.2
  obtain ⟨r, h1, _, h3⟩ := isConf_ev a b c (by omega) (by omega) (by omega)
  exact Ev.bind h1 (ev_pos (h3.2 h) (Ev.bind (quorumI_ev a b c y (by omega) (by omega) hy) (Ev.now _)))

theorem majS_l (s y : List Int) (hs : s.length ≤ 1048576) (hy : y.length ≤ 1048576) (d : Nat) : ∀ i : Nat, s.length = i + d → Ev (fun k => spec_l06Half.l0 k s y (cnt (s.take i) y) i) (maj s y) := by
  induction d with
  | zero =>
    intro i hd
    refine Ev.step (fun k => by rw [spec_l06Half.l0]) ?_
    rw [List.take_of_length_le (by omega), ← half_end s y hs]
    exact ev_neg (by omega) (Ev.now _)
  | succ d ih =>
    intro i hd
    have hi := wsucc (j := i) (n := s.length) (by omega) (by omega)
    have hc := wsucc (j := cnt (s.take i) y) (n := 1048577) (by have := cnt_le (s.take i) y; rw [List.length_take] at this; omega) (by omega)
    have h := ih (i + 1) (by omega)
    rw [cnt_succ s y i (by omega)] at h
    refine Ev.step (fun k => by rw [spec_l06Half.l0]) ?_
    rw [hi, hc]
    refine ev_pos (by omega) (ev_pos (by omega) (Ev.bind (has_ev y hy _) ?_))
    by_cases q : rd s (i : Int) ∈ y
    · rw [if_pos q] at h
      exact ev_pos (decide_eq_true q) h
    · rw [if_neg q] at h
      exact ev_neg (by simpa using q) h
theorem majS_ev (s y : List Int) (hs : s.length ≤ 1048576) (hy : y.length ≤ 1048576) : Ev (fun k => spec_l06Half.f k s y) (maj s y) := majS_l s y hs hy s.length 0 (by omega)
theorem QuorumS_ev (a b c y : List Int) (h : ConfP a b c) (hy : y.length ≤ 1048576) : Ev (fun k => spec_Quorum.f k a b c y) (qM a b y) := by
  obtain ⟨pa, _, pb, pc, _⟩ := id h
  have la := pa.2
  have lb := pb.2
  have lc := pc.2
  obtain ⟨r, _, h2, h3⟩ := isConf_ev a b c (by omega) (by omega) (by omega)
  unfold spec_Quorum.f qM
  refine Ev.bind h2 (ev_pos (h3.2 h) (Ev.bind (majS_ev a y (by omega) hy) ?_))
  by_cases h : maj a y = true
  · by_cases q : b.length = 0
    · rw [h, decide_eq_true q]
      exact ev_pos rfl (ev_pos (by omega) (Ev.now _))
    · rw [h, decide_eq_false q, Bool.false_or, Bool.true_and]
      exact ev_pos rfl (ev_neg (by omega) (Ev.bind (majS_ev b y (by omega) hy) (Ev.now _)))
  · have h' : maj a y = false := by simpa using h
    rw [h', Bool.false_and]
    exact ev_neg (by simp) (Ev.now _)

def yesM (acks : List S60) (m : Int) : List Int := (acks.filter (fun x => decide (x.f1 ≥ m))).map (·.f0)
def comL (a b : List Int) (acks : List S60) : List S60 → Int → Int
  | [], m => m
  | x :: xs, m => comL a b acks xs (if x.f1 > m ∧ qM a b (yesM acks x.f1) = true then x.f1 else m)
theorem yes_len (acks : List S60) (m : Int) : (yesM acks m).length ≤ acks.length := by
  unfold yesM
  rw [List.length_map]
  exact List.length_filter_le _ _
theorem yes_succ (acks : List S60) (m : Int) (j : Nat) (hj : j < acks.length) : yesM (acks.take (j + 1)) m = if (rd_T60 acks j).f1 ≥ m then yesM (acks.take j) m ++ [(rd_T60 acks j).f0] else yesM (acks.take j) m := by
  unfold yesM
  rw [take_succ_getD acks j z60 hj, List.filter_append, List.map_append, show acks.getD j z60 = rd_T60 acks (j : Int) by unfold rd_T60; rw [toNat_cast]]
  by_cases h : (rd_T60 acks (j : Int)).f1 ≥ m
  · rw [if_pos h, List.filter_cons_of_pos (by simpa using h)]; rfl
  · rw [if_neg h, List.filter_cons_of_neg (by simpa using h)]; simp
theorem com_ge (a b : List Int) (acks : List S60) : ∀ (xs : List S60) (m : Int), m ≤ comL a b acks xs m := by
  intro xs
  induction xs with
  | nil => intro m; exact Int.le_refl _
  | cons x xs ih =>
    intro m
    unfold comL
    by_cases h : x.f1 > m ∧ qM a b (yesM acks x.f1) = true
    · rw [if_pos h]; have := ih x.f1; omega
    · rw [if_neg h]; exact ih m
theorem com_is (a b : List Int) (acks : List S60) : ∀ (xs : List S60) (m : Int), comL a b acks xs m = m ∨ ∃ x ∈ xs, x.f1 = comL a b acks xs m ∧ qM a b (yesM acks x.f1) = true := by
  intro xs
  induction xs with
  | nil => intro m; exact .inl rfl
  | cons x xs ih =>
    intro m
    unfold comL
    by_cases h : x.f1 > m ∧ qM a b (yesM acks x.f1) = true
    · rw [if_pos h]
      rcases ih x.f1 with e | ⟨y, hy, e1, e2⟩
      · exact .inr ⟨x, by simp, e.symm, h.2⟩
      · exact .inr ⟨y, by simp [hy], e1, e2⟩
    · rw [if_neg h]
      rcases ih m with e | ⟨y, hy, e1, e2⟩
      · exact .inl e
      · exact .inr ⟨y, by simp [hy], e1, e2⟩
theorem com_max (a b : List Int) (acks : List S60) : ∀ (xs : List S60) (m : Int) (x : S60), x ∈ xs → qM a b (yesM acks x.f1) = true → x.f1 ≤ comL a b acks xs m := by
  intro xs
  induction xs with
  | nil => intro m x hx; simp at hx
  | cons y xs ih =>
    intro m x hx hq
    unfold comL
    rcases List.mem_cons.1 hx with e | hx
    · subst e
      by_cases h : x.f1 > m
      · rw [if_pos ⟨h, hq⟩]; exact com_ge a b acks xs x.f1
      · rw [if_neg (fun z => h z.1)]; have := com_ge a b acks xs m; omega
    · exact ih _ x hx hq
theorem min_of (acks : List S60) (n : Int) : (∃ x ∈ acks, x.f1 ≥ n) → ∃ y ∈ acks, y.f1 ≥ n ∧ ∀ z ∈ acks, z.f1 ≥ n → y.f1 ≤ z.f1 := by
  induction acks with
  | nil => rintro ⟨x, hx, _⟩; simp at hx
  | cons w acks ih =>
    intro hx
    by_cases h : ∃ x ∈ acks, x.f1 ≥ n
    · obtain ⟨y, hy, h1, h2⟩ := ih h
      by_cases hw : w.f1 ≥ n ∧ w.f1 < y.f1
      · refine ⟨w, by simp, hw.1, fun z hz hz2 => ?_⟩
        rcases List.mem_cons.1 hz with e | hz
        · subst e; exact Int.le_refl _
        · have := h2 z hz hz2; omega
      · refine ⟨y, by simp [hy], h1, fun z hz hz2 => ?_⟩
        rcases List.mem_cons.1 hz with e | hz
        · subst e; omega
        · exact h2 z hz hz2
    · obtain ⟨x, hx1, hx2⟩ := hx
      rcases List.mem_cons.1 hx1 with e | hx1
      · subst e
        refine ⟨x, by simp, hx2, fun z hz hz2 => ?_⟩
        rcases List.mem_cons.1 hz with e | hz
        · subst e; exact Int.le_refl _
        · exact absurd ⟨z, hz, hz2⟩ h
      · exact absurd ⟨x, hx1, hx2⟩ h
/-- Above what is told there is no quorum. -/
theorem com_next (a b : List Int) (acks : List S60) (n : Int) (hn : comL a b acks acks 0 < n) : qM a b (yesM acks n) = false := by
  cases hq : qM a b (yesM acks n) with
  | false => rfl
  | true =>
    exfalso
    have hne : ∃ x ∈ acks, x.f1 ≥ n := by
      apply Classical.byContradiction
      intro h
      have : yesM acks n = [] := by
        unfold yesM
        rw [List.filter_eq_nil_iff.2 (fun x hx => by simp; exact Int.not_le.1 fun z => h ⟨x, hx, z⟩)]
        rfl
      rw [this, qM_nil] at hq
      cases hq
    obtain ⟨y, hy, h1, h2⟩ := min_of acks n hne
    have e : yesM acks y.f1 = yesM acks n := by
      unfold yesM
      congr 1
      apply List.filter_congr
      intro z hz
      exact decide_eq_decide.2 ⟨fun q => by omega, fun q => h2 z hz q⟩
    have := com_max a b acks acks 0 y hy (by rw [e]; exact hq)
    omega
theorem com_more (a b : List Int) (acks : List S60) (e : S60) : comL a b acks acks 0 ≤ comL a b (acks ++ [e]) (acks ++ [e]) 0 := by
  rcases com_is a b acks acks 0 with h | ⟨x, hx, h1, h2⟩
  · rw [h]; exact com_ge _ _ _ _ _
  · rw [← h1]
    refine com_max a b _ _ 0 x (by simp [hx]) (qM_mono a b (fun z hz => ?_) h2)
    unfold yesM at *
    rw [List.filter_append, List.map_append, List.mem_append]
    exact .inl hz
theorem drop_rd60 (acks : List S60) (i : Nat) (hi : i < acks.length) : acks.drop i = rd_T60 acks i :: acks.drop (i + 1) := by
  rw [List.drop_eq_getElem_cons hi]
  unfold rd_T60
  rw [toNat_cast, getD_lt acks i _ hi]
theorem comI_l1 (a b c : List Int) (acks : List S60) (hl : acks.length ≤ 100) (best f0 f1 i : Int) (r : Int) (hr : Ev (fun k => if f1 > best then ((impl_quorum.f k a b c (yesM acks f1)).bind fun t => (if t = true then (impl_CommitOf.l0 k acks f1 acks acks.length (wrap64 (i + 1)) a b c) else (impl_CommitOf.l0 k acks best acks acks.length (wrap64 (i + 1)) a b c))) else (impl_CommitOf.l0 k acks best acks acks.length (wrap64 (i + 1)) a b c)) r) (d : Nat) : ∀ j : Nat, acks.length = j + d → Ev (fun k => impl_CommitOf.l1 k acks best (yesM (acks.take j) f1) acks acks.length i acks acks.length j a b c f0 f1) r := by
  induction d with
  | zero =>
    intro j hd
    refine Ev.step (fun k => by rw [impl_CommitOf.l1]) ?_
    rw [List.take_of_length_le (by omega)]
    exact ev_neg (by omega) hr
  | succ d ih =>
    intro j hd
    have hj := wsucc (j := j) (n := acks.length) (by omega) (by omega)
    have h := ih (j + 1) (by omega)
    rw [yes_succ acks f1 j (by omega)] at h
    have hlen := yes_len (acks.take j) f1
    rw [List.length_take] at hlen
    refine Ev.step (fun k => by rw [impl_CommitOf.l1]) ?_
    rw [hj]
    refine ev_pos (by omega) (ev_pos (by omega) (ev_pos (by omega) ?_))
    by_cases q : (rd_T60 acks j).f1 ≥ f1
    · rw [if_pos q] at h
      exact ev_pos q (ev_pos (by omega) h)
    · rw [if_neg q] at h
      exact ev_neg q h
theorem comI_l0 (a b c : List Int) (hC : ConfP a b c) (acks : List S60) (hl : acks.length ≤ 100) (hp : ∀ x ∈ acks, 0 ≤ x.f1) (d : Nat) : ∀ (i : Nat) (best : Int), acks.length = i + d → Ev (fun k => impl_CommitOf.l0 k acks best acks acks.length i a b c) (comL a b acks (acks.drop i) best) := by
  have la := hC.1.2
  have lb := hC.2.2.1.2
  induction d with
  | zero =>
    intro i best hd
    refine Ev.step (fun k => by rw [impl_CommitOf.l0]) ?_
    rw [List.drop_of_length_le (by omega)]
    exact ev_neg (by omega) (Ev.now _)
  | succ d ih =>
    intro i best hd
    have hi := wsucc (j := i) (n := acks.length) (by omega) (by omega)
    have hpi : 0 ≤ (rd_T60 acks i).f1 := by
      unfold rd_T60
      rw [toNat_cast]
      exact hp _ (getD_mem acks i _ (by omega))
    have hlen := yes_len acks (rd_T60 acks i).f1
    refine Ev.step (fun k => by rw [impl_CommitOf.l0]) ?_
    refine ev_pos (by omega) (ev_pos (by omega) (ev_pos (by omega) (ev_neg (by omega) ?_)))
    refine comI_l1 a b c acks hl best _ (rd_T60 acks i).f1 i _ ?_ acks.length 0 (by omega)
    rw [hi, drop_rd60 acks i (by omega)]
    unfold comL
    by_cases h1 : (rd_T60 acks i).f1 > best
    · refine ev_pos h1 (Ev.bind (quorumI_ev a b c _ (by omega) (by omega) (by omega)) ?_)
      by_cases h2 : qM a b (yesM acks (rd_T60 acks i).f1) = true
      · rw [if_pos ⟨h1, h2⟩]
        exact ev_pos h2 (ih (i + 1) _ (by omega))
      · rw [if_neg (fun z => h2 z.2)]
        exact ev_neg h2 (ih (i + 1) _ (by omega))
    · rw [if_neg (fun z => h1 z.1)]
      exact ev_neg h1 (ih (i + 1) _ (by omega))
theorem comI_ev (a b c : List Int) (hC : ConfP a b c) (acks : List S60) (hl : acks.length ≤ 100) (hp : ∀ x ∈ acks, 0 ≤ x.f1) : Ev (fun k => impl_CommitOf.f k a b c acks) (comL a b acks acks 0) := by
  obtain ⟨pa, _, pb, pc, _⟩ := id hC
  have la := pa.2
  have lb := pb.2
  have lc := pc.2
  obtain ⟨r, h1, _, h3⟩ := isConf_ev a b c (by omega) (by omega) (by omega)
  refine Ev.bind h1 (ev_pos (h3.2 hC) ?_)
  refine Ev.step (fun k => by rw [impl_CommitOf.j0]) ?_
  exact ev_neg (by simp; omega) (comI_l0 a b c hC acks hl hp acks.length 0 0 (by omega))
theorem comS_l2 (a b c : List Int) (acks : List S60) (hl : acks.length ≤ 100) (best : Int) (i : Nat) (hi : i < acks.length) (r : Int) (hr : Ev (fun k => if (rd_T60 acks i).f1 > best then ((spec_Quorum.f k a b c (yesM acks (rd_T60 acks i).f1)).bind fun t => (if t = true then (spec_CommitOf.l1 k acks (rd_T60 acks i).f1 (wrap64 ((i : Int) + 1)) a b c) else (spec_CommitOf.l1 k acks best (wrap64 ((i : Int) + 1)) a b c))) else (spec_CommitOf.l1 k acks best (wrap64 ((i : Int) + 1)) a b c)) r) (d : Nat) : ∀ j : Nat, acks.length = j + d → Ev (fun k => spec_CommitOf.l2 k acks best i (yesM (acks.take j) (rd_T60 acks i).f1) j a b c) r := by
  induction d with
  | zero =>
    intro j hd
    refine Ev.step (fun k => by rw [spec_CommitOf.l2]) ?_
    rw [List.take_of_length_le (by omega)]
    exact ev_neg (by omega) (ev_pos (by omega) (ev_pos (by omega) hr))
  | succ d ih =>
    intro j hd
    have hj := wsucc (j := j) (n := acks.length) (by omega) (by omega)
    have h := ih (j + 1) (by omega)
    rw [yes_succ acks _ j (by omega)] at h
    have hlen := yes_len (acks.take j) (rd_T60 acks i).f1
    rw [List.length_take] at hlen
    refine Ev.step (fun k => by rw [spec_CommitOf.l2]) ?_
    rw [hj]
    refine ev_pos (by omega) (ev_pos (by omega) (ev_pos (by omega) (ev_pos (by omega) ?_)))
    by_cases q : (rd_T60 acks j).f1 ≥ (rd_T60 acks i).f1
    · rw [if_pos q] at h
      exact ev_pos q (ev_pos (by omega) h)
    · rw [if_neg q] at h
      exact ev_neg q h
theorem comS_l1 (a b c : List Int) (hC : ConfP a b c) (acks : List S60) (hl : acks.length ≤ 100) (d : Nat) : ∀ (i : Nat) (best : Int), acks.length = i + d → Ev (fun k => spec_CommitOf.l1 k acks best i a b c) (comL a b acks (acks.drop i) best) := by
  induction d with
  | zero =>
    intro i best hd
    refine Ev.step (fun k => by rw [spec_CommitOf.l1]) ?_
    rw [List.drop_of_length_le (by omega)]
    exact ev_neg (by omega) (Ev.now _)
  | succ d ih =>
    intro i best hd
    have hi := wsucc (j := i) (n := acks.length) (by omega) (by omega)
    have hlen := yes_len acks (rd_T60 acks i).f1
    refine Ev.step (fun k => by rw [spec_CommitOf.l1]) ?_
    refine ev_pos (by omega) ?_
    refine comS_l2 a b c acks hl best i (by omega) _ ?_ acks.length 0 (by omega)
    rw [hi, drop_rd60 acks i (by omega)]
    unfold comL
    by_cases h1 : (rd_T60 acks i).f1 > best
    · refine ev_pos h1 (Ev.bind (QuorumS_ev a b c _ hC (by omega)) ?_)
      by_cases h2 : qM a b (yesM acks (rd_T60 acks i).f1) = true
      · rw [if_pos ⟨h1, h2⟩]
        exact ev_pos h2 (ih (i + 1) _ (by omega))
      · rw [if_neg (fun z => h2 z.2)]
        exact ev_neg h2 (ih (i + 1) _ (by omega))
    · rw [if_neg (fun z => h1 z.1)]
      exact ev_neg h1 (ih (i + 1) _ (by omega))
theorem comS_l0 (a b c : List Int) (hC : ConfP a b c) (acks : List S60) (hl : acks.length ≤ 100) (hp : ∀ x ∈ acks, 0 ≤ x.f1) (best : Int) (d : Nat) : ∀ (i : Nat), acks.length = i + d → Ev (fun k => spec_CommitOf.l0 k acks best i a b c) (comL a b acks acks best) := by
  induction d with
  | zero =>
    intro i hd
    refine Ev.step (fun k => by rw [spec_CommitOf.l0]) ?_
    exact ev_neg (by omega) (comS_l1 a b c hC acks hl acks.length 0 best (by omega))
  | succ d ih =>
    intro i hd
    have hi := wsucc (j := i) (n := acks.length) (by omega) (by omega)
    have hpi : 0 ≤ (rd_T60 acks i).f1 := by
      unfold rd_T60
      rw [toNat_cast]
      exact hp _ (getD_mem acks i _ (by omega))
    refine Ev.step (fun k => by rw [spec_CommitOf.l0]) ?_
    rw [hi]
    exact ev_pos (by omega) (ev_pos (by omega) (ev_neg (by omega) (ih (i + 1) (by omega))))
theorem comS_ev (a b c : List Int) (hC : ConfP a b c) (acks : List S60) (hl : acks.length ≤ 100) (hp : ∀ x ∈ acks, 0 ≤ x.f1) : Ev (fun k => spec_CommitOf.f k a b c acks) (comL a b acks acks 0) := by
  obtain ⟨pa, _, pb, pc, _⟩ := id hC
  have la := pa.2
  have lb := pb.2
  have lc := pc.2
  obtain ⟨r, _, h2, h3⟩ := isConf_ev a b c (by omega) (by omega) (by omega)
  refine Ev.bind h2 (ev_pos (h3.2 hC) ?_)
  refine Ev.step (fun k => by rw [spec_CommitOf.j0]) ?_
  exact ev_neg (by simp; omega) (comS_l0 a b c hC acks hl hp 0 acks.length 0 (by omega))

/-- compact of a sorted list: its members, each once, in order. -/
theorem compactUpTo_sorted (d : Array Int) (hs : ∀ i j, i < j → j < d.size → d[i]! ≤ d[j]!) : ∀ m, m ≤ d.size → (Lib.compactUpTo d m).Pairwise (· < ·) ∧ (∀ x, x ∈ Lib.compactUpTo d m ↔ ∃ j, j < m ∧ d[j]! = x) := by
  intro m
  induction m with
  | zero =>
    intro _
    refine ⟨by simp [Lib.compactUpTo], fun x => ⟨fun h => by simp [Lib.compactUpTo] at h, fun ⟨j, h, _⟩ => by omega⟩⟩
  | succ m ih =>
    intro hm
    obtain ⟨h1, h2⟩ := ih (by omega)
    rw [Lib.compactUpTo_succ]
    by_cases hk : Lib.keeps d m = true
    · rw [if_pos hk]
      have hlt : ∀ j, j < m → d[j]! < d[m]! := fun j hj => by
        have a := hs j m hj (by omega)
        rcases Int.lt_or_eq_of_le a with h | h
        · exact h
        · exfalso
          have b := hs j (m - 1)
          have c : d[m - 1]! ≤ d[m]! := hs (m - 1) m (by omega) (by omega)
          have e : d[m]! = d[m - 1]! := by
            by_cases q : j = m - 1
            · rw [← q]; exact h.symm
            · have := b (by omega) (by omega); omega
          rw [Lib.keeps_neg (by omega) e] at hk
          cases hk
      refine ⟨?_, fun x => ?_⟩
      · rw [List.pairwise_append]
        refine ⟨h1, by simp, fun a ha b hb => ?_⟩
        obtain ⟨j, hj, rfl⟩ := (h2 a).1 ha
        rw [List.mem_singleton] at hb
        rw [hb]
        exact hlt j hj
      · rw [List.mem_append, h2, List.mem_singleton]
        constructor
        · rintro (⟨j, hj, e⟩ | rfl)
          · exact ⟨j, by omega, e⟩
          · exact ⟨m, by omega, rfl⟩
        · rintro ⟨j, hj, e⟩
          by_cases q : j = m
          · subst q; exact .inr e.symm
          · exact .inl ⟨j, by omega, e⟩
    · have hk' : Lib.keeps d m = false := by simpa using hk
      rw [if_neg hk, List.append_nil]
      refine ⟨h1, fun x => ?_⟩
      rw [h2]
      constructor
      · rintro ⟨j, hj, e⟩; exact ⟨j, by omega, e⟩
      · rintro ⟨j, hj, e⟩
        by_cases q : j = m
        · subst q
          by_cases h0 : j = 0
          · subst h0
            rw [Lib.keeps_lt_one d 0 (by omega)] at hk'; cases hk'
          · by_cases q2 : d[j]! = d[j - 1]!
            · exact ⟨j - 1, by omega, q2.symm.trans e⟩
            · rw [Lib.keeps_pos q2] at hk'; cases hk'
        · exact ⟨j, by omega, e⟩

theorem compact_vot (a b : List Int) (hr : ∀ x, x ∈ a ∨ x ∈ b → 0 ≤ x ∧ x ≤ 99) : Lib.compact ((a ++ b).mergeSort fun x y => decide (x ≤ y)) = votM a b 100 := by
  obtain ⟨zs, hz⟩ : ∃ zs, zs = (a ++ b).mergeSort fun x y => decide (x ≤ y) := ⟨_, rfl⟩
  have hp : zs.Pairwise (fun a b => (fun x y : Int => decide (x ≤ y)) a b = true) := by
    rw [hz]
    exact List.pairwise_mergeSort (fun a b c h1 h2 => by simp at h1 h2 ⊢; omega) (fun a b => by simp; omega) _
  have hm : ∀ x, x ∈ zs ↔ x ∈ a ∨ x ∈ b := fun x => by rw [hz, List.mem_mergeSort, List.mem_append]
  rw [← hz]
  have hs : ∀ i j, i < j → j < zs.toArray.size → zs.toArray[i]! ≤ zs.toArray[j]! := fun i j hij hj => by
    have hj' : j < zs.length := by simpa using hj
    have := List.pairwise_iff_getElem.1 hp i j (by omega) hj' hij
    rw [getElem!_pos _ i (by simp; omega), getElem!_pos _ j hj]
    simpa using this
  obtain ⟨h1, h2⟩ := compactUpTo_sorted zs.toArray hs zs.length (by simp)
  refine strict_eq _ _ h1 (votM_sorted a b 100) fun x => ?_
  show x ∈ Lib.compactUpTo zs.toArray zs.length ↔ _
  rw [h2, votM_mem]
  constructor
  · rintro ⟨j, hj, rfl⟩
    have hx : zs.toArray[j]! ∈ a ∨ zs.toArray[j]! ∈ b := by
      rw [getElem!_pos _ j (by simpa using hj)]
      exact (hm _).1 (by simp)
    have := hr _ hx
    exact ⟨by omega, by omega, hx⟩
  · rintro ⟨_, _, h⟩
    obtain ⟨j, hj, e⟩ := List.mem_iff_getElem.1 ((hm x).2 h)
    refine ⟨j, hj, ?_⟩
    rw [getElem!_pos _ j (by simpa using hj)]
    simpa using e
theorem votersI_ev (a b c : List Int) (h : ConfP a b c) : Ev (fun k => impl_Voters.f k a b c) (votM a b 100) := by
  obtain ⟨pa, _, pb, pc, _⟩ := id h
  have la := pa.2
  have lb := pb.2
  obtain ⟨r, h1, _, h3⟩ := isConf_ev a b c (by omega) (by omega) (by have := pc.2; omega)
  have hs : slices_Sort_int_int.f (a ++ b) = some ((a ++ b).mergeSort fun x y => decide (x ≤ y)) := by
    unfold slices_Sort_int_int.f
    rw [if_pos (by simp; omega)]
  have hcm : slices_Compact_int_int.f ((a ++ b).mergeSort fun x y => decide (x ≤ y)) = some (votM a b 100) := by
    unfold slices_Compact_int_int.f
    rw [if_pos (by simp; omega), compact_vot a b (fun x hx => hx.elim (ids_range pa) (ids_range pb))]
  unfold impl_Voters.f
  refine Ev.bind h1 (ev_pos (h3.2 h) ?_)
  refine Ev.bind (a := ([] : List Int)) (Ev.now _) (ev_pos (by simp; omega) (Ev.bind (a := a) (ev_const (by simp)) (ev_pos (by omega) ?_)))
  exact Ev.bind (ev_const hs) (Ev.bind (ev_const hcm) (Ev.now _))

theorem at_ev (l : List Int) (hl : l.length ≤ 1048576) (hw : ∀ x ∈ l, (Lit.int .u8 x).wf = true) (i : Nat) (hi : i ≤ 1000) : ∃ x, laws_at.f l i = some x ∧ 0 ≤ x ∧ x ≤ 255 := by
  unfold laws_at.f
  by_cases h : (i : Int) < (l.length : Int)
  · rw [if_pos h, if_pos (by omega)]
    have hx : 0 ≤ rd l i ∧ rd l i ≤ 255 := by
      unfold rd
      rw [toNat_cast]
      have := hw _ (getD_mem l i 0 (by omega))
      generalize l.getD i 0 = x at this ⊢
      simp [Lit.wf, IntKind.min, IntKind.max, IntKind.signed, IntKind.bits] at this
      omega
    exact ⟨_, rfl, by rw [w64 (by omega) (by omega)]; omega, by rw [w64 (by omega) (by omega)]; omega⟩
  · rw [if_neg h, w64 (x := (i : Int) * 13) (by omega) (by omega), w64 (x := (l.length : Int) * 5) (by omega) (by omega), w64 (by omega) (by omega)]
    exact ⟨_, rfl, Int.tmod_nonneg _ (by omega), by have := Int.tmod_lt_of_pos ((i : Int) * 13 + (l.length : Int) * 5) (show (0 : Int) < 256 by omega); omega⟩

theorem lawC_l2 (x0 : List Int) (a b c : List Int) (acks : List S60) (hl : acks.length ≤ 100) (x i : Int) (r : Bool) (hr : Ev (fun k => if i > 0 then ((impl_Quorum.f k a b c (yesM acks i)).bind fun t => (if (t != (i == x)) = true then (some false) else (laws_FnCommits.l1 k x0 acks x (wrap64 (i + 1)) a b c))) else (laws_FnCommits.l1 k x0 acks x (wrap64 (i + 1)) a b c)) r) (d : Nat) : ∀ j : Nat, acks.length = j + d → Ev (fun k => laws_FnCommits.l2 k x0 acks x i (yesM (acks.take j) i) j a b c) r := by
  induction d with
  | zero =>
    intro j hd
    refine Ev.step (fun k => by rw [laws_FnCommits.l2]) ?_
    rw [List.take_of_length_le (by omega)]
    exact ev_neg (by omega) hr
  | succ d ih =>
    intro j hd
    have hj := wsucc (j := j) (n := acks.length) (by omega) (by omega)
    have h := ih (j + 1) (by omega)
    rw [yes_succ acks i j (by omega)] at h
    have hlen := yes_len (acks.take j) i
    rw [List.length_take] at hlen
    refine Ev.step (fun k => by rw [laws_FnCommits.l2]) ?_
    rw [hj]
    refine ev_pos (by omega) (ev_pos (by omega) ?_)
    by_cases q : (rd_T60 acks j).f1 ≥ i
    · rw [if_pos q] at h
      exact ev_pos q (ev_pos (by omega) h)
    · rw [if_neg q] at h
      exact ev_neg q h
theorem lawC_l0 (l : List Int) (hl : l.length ≤ 1048576) (hw : ∀ x ∈ l, (Lit.int .u8 x).wf = true) (a b c : List Int) (hC : ConfP a b c) (d : Nat) : ∀ (i : Nat) (acks : List S60), 10 = i + d → acks.length ≤ i → (∀ x ∈ acks, 0 ≤ x.f1 ∧ x.f1 ≤ 8) → Ev (fun k => laws_FnCommits.l0 k l acks i a b c) true := by
  induction d with
  | zero =>
    intro i acks hd hn hp
    have hp0 : ∀ x ∈ acks, 0 ≤ x.f1 := fun x hx => (hp x hx).1
    refine Ev.step (fun k => by rw [laws_FnCommits.l0]) ?_
    refine ev_neg (by omega) (Ev.bind (comI_ev a b c hC acks (by omega) hp0) ?_)
    obtain ⟨x, hx⟩ : ∃ x, x = comL a b acks acks 0 := ⟨_, rfl⟩
    have x0 : 0 ≤ x := by rw [hx]; exact com_ge _ _ _ _ _
    have x1 : x ≤ 8 := by
      rcases com_is a b acks acks 0 with h | ⟨y, hy, h1, _⟩
      · rw [← hx] at h; omega
      · have := (hp y hy).2; rw [← hx] at h1; omega
    have hxq : x > 0 → qM a b (yesM acks x) = true := fun h => by
      rcases com_is a b acks acks 0 with e | ⟨y, hy, h1, h2⟩
      · rw [← hx] at e; omega
      · rw [hx, ← h1]; exact h2
    have hnq : qM a b (yesM acks (x + 1)) = false := com_next a b acks (x + 1) (by rw [← hx]; omega)
    rw [← hx]
    have w1 : wrap64 (x + 1) = x + 1 := w64 (by omega) (by omega)
    have w2 : wrap64 (x + 1 + 1) = x + 2 := by rw [w64 (by omega) (by omega)]; omega
    have ylen : ∀ m, (yesM acks m).length ≤ 1048576 := fun m => by have := yes_len acks m; omega
    have hCS := comS_ev a b c hC acks (by omega) hp0
    rw [← hx] at hCS
    obtain ⟨u, hu, u0, u1⟩ := at_ev l hl hw 30 (by omega)
    obtain ⟨v, hv, v0, v1⟩ := at_ev l hl hw 31 (by omega)
    have hV := votersI_ev a b c hC
    have hvq : qM a b (votM a b 100) = true := by
      refine qM_all (fun z hz => ?_) (fun z hz => ?_) hC.2.1
      · have := ids_range hC.1 hz
        exact (votM_mem a b 100 z).2 ⟨by omega, by omega, .inl hz⟩
      · have := ids_range hC.2.2.1 hz
        exact (votM_mem a b 100 z).2 ⟨by omega, by omega, .inr hz⟩
    -- the end
    have e3 : Ev (fun k => laws_FnCommits.l1 k l acks x (x + 2) a b c) true := by
      refine Ev.step (fun k => by rw [laws_FnCommits.l1]) ?_
      rw [w1]
      refine ev_neg (by omega) (Ev.bind (a := ([] : List S60)) (Ev.now _) (ev_pos (by simp; omega) (Ev.bind (a := acks) (ev_const (by simp)) (Ev.bind (ev_const hu) (Ev.bind (ev_const hv) (ev_pos (by omega) (Ev.bind hCS (ev_pos rfl ?_))))))))
      refine Ev.bind (comI_ev a b c hC _ (by simp; omega) (fun z hz => ?_)) (ev_pos ?_ (Ev.bind hV (Ev.bind (QuorumI_ev a b c _ hC (by have := votM_len a b 100; omega)) ?_)))
      · rcases List.mem_append.1 hz with hz | hz
        · exact hp0 z hz
        · rw [List.mem_singleton] at hz; rw [hz]; exact Int.tmod_nonneg _ v0
      · rw [hx]; exact com_more a b acks _
      · rw [hvq]; exact Ev.now _
    have e2 : Ev (fun k => laws_FnCommits.l1 k l acks x (x + 1) a b c) true := by
      refine Ev.step (fun k => by rw [laws_FnCommits.l1]) ?_
      rw [w1]
      refine ev_pos (by omega) (lawC_l2 l a b c acks (by omega) x (x + 1) true ?_ acks.length 0 (by omega))
      rw [w2]
      refine ev_pos (by omega) (Ev.bind (QuorumI_ev a b c _ hC (ylen _)) (ev_neg ?_ e3))
      rw [hnq, show ((x + 1 == x) : Bool) = false by rw [beq_eq_false_iff_ne]; omega]
      simp
    refine Ev.step (fun k => by rw [laws_FnCommits.l1]) ?_
    rw [w1]
    refine ev_pos (by omega) (lawC_l2 l a b c acks (by omega) x x true ?_ acks.length 0 (by omega))
    rw [w1]
    by_cases h0 : x > 0
    · refine ev_pos h0 (Ev.bind (QuorumI_ev a b c _ hC (ylen _)) (ev_neg ?_ e2))
      rw [hxq h0]
      simp
    · exact ev_neg h0 e2
  | succ d ih =>
    intro i acks hd hn hp
    have hi := wsucc (j := i) (n := 10) (by omega) (by omega)
    obtain ⟨u, hu, u0, u1⟩ := at_ev l hl hw i (by omega)
    obtain ⟨v, hv, v0, v1⟩ := at_ev l hl hw (i + 10) (by omega)
    refine Ev.step (fun k => by rw [laws_FnCommits.l0]) ?_
    rw [hi, show wrap64 ((i : Int) + 10) = ((i + 10 : Nat) : Int) by rw [w64 (by omega) (by omega)]; omega]
    refine ev_pos (by omega) (Ev.bind (ev_const hu) ?_)
    by_cases q : Int.tmod u 4 > 0
    · refine ev_pos q (Ev.bind (ev_const hv) (ev_pos (by omega) ?_))
      refine ih (i + 1) _ (by omega) (by simp; omega) (fun z hz => ?_)
      rcases List.mem_append.1 hz with hz | hz
      · exact hp z hz
      · rw [List.mem_singleton] at hz
        rw [hz]
        exact ⟨Int.tmod_nonneg _ v0, by have := Int.tmod_lt_of_pos v (show (0 : Int) < 9 by omega); show Int.tmod v 9 ≤ 8; omega⟩
    · exact ev_neg q (ih (i + 1) acks (by omega) (by omega) hp)
theorem FnCommits : Stated := by
  intro l hl
  refine Ev.rounds (?_ : Ev (fun k => laws_FnCommits.f k l) true)
  unfold laws_FnCommits.f
  by_cases h : (l.length : Int) > 1048576
  · exact Ev.bind (a := true) (ev_const (by unfold laws_big.f; rw [decide_eq_true h])) (ev_pos rfl (Ev.now _))
  have hl' : l.length ≤ 1048576 := by omega
  refine Ev.bind (a := false) (ev_const (by unfold laws_big.f; rw [decide_eq_false h])) (ev_neg (by simp) ?_)
  obtain ⟨a, b, c, w, e, hC, _⟩ := drawConf_ev l hl'
  refine Ev.bind e ?_
  exact lawC_l0 l hl' hl.2 a b c hC 10 0 [] (by omega) (by simp) (by simp)

end Go.Proofs.Ytoemdmjdpikfbaa.Pure
