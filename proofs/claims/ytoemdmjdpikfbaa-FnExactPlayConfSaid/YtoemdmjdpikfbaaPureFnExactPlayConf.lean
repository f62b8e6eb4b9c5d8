/- The law FnExactPlayConf answers true at every input. No condition. -/
import Derived.Test.YtoemdmjdpikfbaaOpnFnExactPlayConf
import Derived.Test.YtoemdmjdpikfbaaBase
namespace Go.Proofs.Ytoemdmjdpikfbaa.Pure
open Go.RowKit Go.Proofs.Ytoemdmjdpikfbaa.QFnExactPlayConf Go.Proofs.Ytoemdmjdpikfbaa.OpnFnExactPlayConf Go.Proofs.Ytoemdmjdpikfbaa.Base Go.Proofs.YtoemdmjdpikfbaaW.PrintWords Go.Proofs.YtoemdmjdpikfbaaW.PrintLast
set_option linter.unusedVariables false
set_option linter.unusedSimpArgs false
theorem in_eq (x a b : Int) : spec_l01In.f x a b = some (decide (a ≤ x ∧ x ≤ b)) := by
  unfold spec_l01In.f
  by_cases h : a ≤ x
  · rw [if_pos h]; congr 1; simp [h]
  · rw [if_neg h, decide_eq_false (fun q => h q.1)]
def IdsP (l : List Int) : Prop := (∀ j : Nat, j < l.length → 0 ≤ rd l j ∧ rd l j ≤ 99 ∧ (0 < j → rd l (j - 1 : Nat) < rd l j)) ∧ l.length ≤ 7
theorem ids_l (l : List Int) (hl : l.length ≤ 1048576) (d : Nat) : ∀ i : Nat, l.length = i + d → ∃ b, Ev (fun k => impl_areIds.l0 k l l (l.length : Int) i) b ∧ Ev (fun k => spec_l06Ids.l0 k l i) b ∧ (b = true ↔ (∀ j : Nat, i ≤ j → j < l.length → 0 ≤ rd l j ∧ rd l j ≤ 99 ∧ (0 < j → rd l (j - 1 : Nat) < rd l j)) ∧ l.length ≤ 7) := by
  induction d with
  | zero =>
    intro i hd
    refine ⟨decide ((l.length : Int) ≤ 7), ?_, ?_, ?_⟩
    · refine Ev.step (fun k => by rw [impl_areIds.l0]) ?_
      exact ev_neg (by omega) (Ev.now _)
    · refine Ev.step (fun k => by rw [spec_l06Ids.l0]) ?_
      exact ev_neg (by omega) (Ev.now _)
    · rw [decide_eq_true_iff]
      exact ⟨fun h => ⟨fun j h1 h2 => by omega, by omega⟩, fun h => by have := h.2; omega⟩
  | succ d ih =>
    intro i hd
    have hi := wsucc (j := i) (n := l.length) (by omega) (by omega)
    obtain ⟨b, hb1, hb2, hb⟩ := ih (i + 1) (by omega)
    have bad : (¬ (0 ≤ rd l i ∧ rd l i ≤ 99 ∧ (0 < i → rd l (i - 1 : Nat) < rd l i))) → (false = true ↔ (∀ j : Nat, i ≤ j → j < l.length → 0 ≤ rd l j ∧ rd l j ≤ 99 ∧ (0 < j → rd l (j - 1 : Nat) < rd l j)) ∧ l.length ≤ 7) := fun h => ⟨fun q => (by cases q), fun q => absurd (q.1 i (Nat.le_refl i) (by omega)) h⟩
    have good : (0 ≤ rd l i ∧ rd l i ≤ 99 ∧ (0 < i → rd l (i - 1 : Nat) < rd l i)) → (b = true ↔ (∀ j : Nat, i ≤ j → j < l.length → 0 ≤ rd l j ∧ rd l j ≤ 99 ∧ (0 < j → rd l (j - 1 : Nat) < rd l j)) ∧ l.length ≤ 7) := fun h => by
      rw [hb]
      refine ⟨fun q => ⟨fun j h1 h2 => ?_, q.2⟩, fun q => ⟨fun j h1 h2 => q.1 j (by omega) h2, q.2⟩⟩
      rcases Nat.eq_or_lt_of_le h1 with e | e
      · subst e; exact h
      · exact q.1 j e h2
    by_cases h1 : rd l i < 0
    · refine ⟨false, ?_, ?_, bad (by omega)⟩
      · refine Ev.step (fun k => by rw [impl_areIds.l0]) ?_
        exact ev_pos (by omega) (ev_pos (by omega) (ev_pos (by omega) (ev_pos h1 (Ev.now _))))
      · refine Ev.step (fun k => by rw [spec_l06Ids.l0]) ?_
        exact ev_pos (by omega) (ev_pos (by omega) (Ev.bind (ev_const (in_eq _ _ _)) (ev_neg (by simp; omega) (Ev.now _))))
    by_cases h2 : rd l i > 99
    · refine ⟨false, ?_, ?_, bad (by omega)⟩
      · refine Ev.step (fun k => by rw [impl_areIds.l0]) ?_
        exact ev_pos (by omega) (ev_pos (by omega) (ev_pos (by omega) (ev_neg h1 (ev_pos h2 (Ev.now _)))))
      · refine Ev.step (fun k => by rw [spec_l06Ids.l0]) ?_
        exact ev_pos (by omega) (ev_pos (by omega) (Ev.bind (ev_const (in_eq _ _ _)) (ev_neg (by simp; omega) (Ev.now _))))
    have hin : decide (0 ≤ rd l i ∧ rd l i ≤ 99) = true := decide_eq_true ⟨by omega, by omega⟩
    by_cases h0 : i = 0
    · subst h0
      refine ⟨b, ?_, ?_, good ⟨by omega, by omega, fun h => by omega⟩⟩
      · refine Ev.step (fun k => by rw [impl_areIds.l0]) ?_
        refine ev_pos (by omega) (ev_pos (by omega) (ev_pos (by omega) (ev_neg h1 (ev_neg h2 (ev_neg (by omega) ?_)))))
        rw [hi]; exact hb1
      · refine Ev.step (fun k => by rw [spec_l06Ids.l0]) ?_
        refine ev_pos (by omega) (ev_pos (by omega) (Ev.bind (ev_const (in_eq _ _ _)) (ev_pos hin (ev_neg (by omega) ?_))))
        rw [hi]; exact hb2
    have hp := wpred (j := i) (by omega) (by omega)
    by_cases h3 : rd l (i - 1 : Nat) ≥ rd l i
    · refine ⟨false, ?_, ?_, bad (fun q => by have := q.2.2 (by omega); omega)⟩
      · refine Ev.step (fun k => by rw [impl_areIds.l0]) ?_
        refine ev_pos (by omega) (ev_pos (by omega) (ev_pos (by omega) (ev_neg h1 (ev_neg h2 (ev_pos (by omega) ?_)))))
        rw [hp]
        exact ev_pos (by omega) (ev_pos (by omega) (ev_pos h3 (Ev.now _)))
      · refine Ev.step (fun k => by rw [spec_l06Ids.l0]) ?_
        refine ev_pos (by omega) (ev_pos (by omega) (Ev.bind (ev_const (in_eq _ _ _)) (ev_pos hin (ev_pos (by omega) ?_))))
        rw [hp]
        exact ev_pos (by omega) (ev_pos (by omega) (ev_pos h3 (Ev.now _)))
    · refine ⟨b, ?_, ?_, good ⟨by omega, by omega, fun _ => by omega⟩⟩
      · refine Ev.step (fun k => by rw [impl_areIds.l0]) ?_
        refine ev_pos (by omega) (ev_pos (by omega) (ev_pos (by omega) (ev_neg h1 (ev_neg h2 (ev_pos (by omega) ?_)))))
        rw [hp, hi]
        exact ev_pos (by omega) (ev_pos (by omega) (ev_neg h3 hb1))
      · refine Ev.step (fun k => by rw [spec_l06Ids.l0]) ?_
        refine ev_pos (by omega) (ev_pos (by omega) (Ev.bind (ev_const (in_eq _ _ _)) (ev_pos hin (ev_pos (by omega) ?_))))
        rw [hp, hi]
        exact ev_pos (by omega) (ev_pos (by omega) (ev_neg h3 hb2))
theorem ids_ev (l : List Int) (hl : l.length ≤ 1048576) : ∃ b, Ev (fun k => impl_areIds.f k l) b ∧ Ev (fun k => spec_l06Ids.f k l) b ∧ (b = true ↔ IdsP l) := by
  obtain ⟨b, h1, h2, h3⟩ := ids_l l hl l.length 0 (by omega)
  exact ⟨b, h1, h2, h3.trans ⟨fun h => ⟨fun j hj => h.1 j (by omega) hj, h.2⟩, fun h => ⟨fun j _ hj => h.1 j hj, h.2⟩⟩⟩
theorem has_l (l : List Int) (hl : l.length ≤ 1048576) (x : Int) (d : Nat) : ∀ i : Nat, l.length = i + d → ∃ b, Ev (fun k => spec_l01Has.l0 k l x i) b ∧ (b = true ↔ ∃ j : Nat, i ≤ j ∧ j < l.length ∧ rd l j = x) := by
  induction d with
  | zero =>
    intro i hd
    refine ⟨false, ?_, ⟨fun q => (by cases q), fun ⟨j, h1, h2, _⟩ => by omega⟩⟩
    refine Ev.step (fun k => by rw [spec_l01Has.l0]) ?_
    exact ev_neg (by omega) (Ev.now _)
  | succ d ih =>
    intro i hd
    have hi := wsucc (j := i) (n := l.length) (by omega) (by omega)
    by_cases h : rd l i = x
    · refine ⟨true, ?_, ⟨fun _ => ⟨i, Nat.le_refl i, by omega, h⟩, fun _ => rfl⟩⟩
      refine Ev.step (fun k => by rw [spec_l01Has.l0]) ?_
      exact ev_pos (by omega) (ev_pos (by omega) (ev_pos h (Ev.now _)))
    · obtain ⟨b, hb, h2⟩ := ih (i + 1) (by omega)
      refine ⟨b, ?_, h2.trans ⟨fun ⟨j, h3, h4, h5⟩ => ⟨j, by omega, h4, h5⟩, fun ⟨j, h3, h4, h5⟩ => ⟨j, ?_, h4, h5⟩⟩⟩
      · refine Ev.step (fun k => by rw [spec_l01Has.l0]) ?_
        rw [hi]
        exact ev_pos (by omega) (ev_pos (by omega) (ev_neg h hb))
      · rcases Nat.eq_or_lt_of_le h3 with e | e
        · subst e; exact absurd h5 h
        · exact e
theorem mem_rd (l : List Int) (x : Int) : x ∈ l ↔ ∃ j : Nat, j < l.length ∧ rd l j = x := by
  constructor
  · intro h
    obtain ⟨j, hj, e⟩ := List.mem_iff_getElem.1 h
    refine ⟨j, hj, ?_⟩
    unfold rd
    rw [toNat_cast, getD_lt l j 0 hj]; exact e
  · rintro ⟨j, hj, rfl⟩
    unfold rd
    rw [toNat_cast]
    exact getD_mem l j 0 hj
theorem has_ev (l : List Int) (hl : l.length ≤ 1048576) (x : Int) : Ev (fun k => spec_l01Has.f k l x) (decide (x ∈ l)) := by
  obtain ⟨b, h1, h2⟩ := has_l l hl x l.length 0 (by omega)
  have : b = decide (x ∈ l) := by
    rw [Bool.eq_iff_iff, h2, decide_eq_true_iff, mem_rd]
    exact ⟨fun ⟨j, _, h3, h4⟩ => ⟨j, h3, h4⟩, fun ⟨j, h3, h4⟩ => ⟨j, by omega, h3, h4⟩⟩
  rw [← this]; exact h1
theorem same_l (l m : List Int) (hl : l.length ≤ 1048576) (hm : m.length = l.length) (d : Nat) : ∀ i : Nat, l.length = i + d → ∃ b, Ev (fun k => slices_Equal_int_int.l0 k l m (l.length : Int) i) b ∧ Ev (fun k => spec_l06Same.l0 k l m i) b ∧ (b = true ↔ ∀ j : Nat, i ≤ j → j < l.length → rd l j = rd m j) := by
  induction d with
  | zero =>
    intro i hd
    refine ⟨true, ?_, ?_, ⟨fun _ j h1 h2 => by omega, fun _ => rfl⟩⟩
    · refine Ev.step (fun k => by rw [slices_Equal_int_int.l0]) ?_
      exact ev_neg (by omega) (Ev.now _)
    · refine Ev.step (fun k => by rw [spec_l06Same.l0]) ?_
      exact ev_neg (by omega) (Ev.now _)
  | succ d ih =>
    intro i hd
    have hi := wsucc (j := i) (n := l.length) (by omega) (by omega)
    by_cases h : rd l i = rd m i
    · obtain ⟨b, hb1, hb2, hb⟩ := ih (i + 1) (by omega)
      refine ⟨b, ?_, ?_, hb.trans ⟨fun q j h1 h2 => ?_, fun q j h1 h2 => q j (by omega) h2⟩⟩
      · refine Ev.step (fun k => by rw [slices_Equal_int_int.l0]) ?_
        rw [hi]
        exact ev_pos (by omega) (ev_pos (by omega) (ev_pos (by omega) (ev_pos (by omega) (ev_pos h hb1))))
      · refine Ev.step (fun k => by rw [spec_l06Same.l0]) ?_
        rw [hi]
        exact ev_pos (by omega) (ev_pos (by omega) (ev_pos (by omega) (ev_pos h hb2)))
      · rcases Nat.eq_or_lt_of_le h1 with e | e
        · subst e; exact h
        · exact q j e h2
    · refine ⟨false, ?_, ?_, ⟨fun q => (by cases q), fun q => absurd (q i (Nat.le_refl i) (by omega)) h⟩⟩
      · refine Ev.step (fun k => by rw [slices_Equal_int_int.l0]) ?_
        exact ev_pos (by omega) (ev_pos (by omega) (ev_pos (by omega) (ev_pos (by omega) (ev_neg h (Ev.now _)))))
      · refine Ev.step (fun k => by rw [spec_l06Same.l0]) ?_
        exact ev_pos (by omega) (ev_pos (by omega) (ev_pos (by omega) (ev_neg h (Ev.now _))))
theorem same_ev (l m : List Int) (hl : l.length ≤ 1048576) (hm : m.length ≤ 1048576) : ∃ b, Ev (fun k => slices_Equal_int_int.f k l m) b ∧ Ev (fun k => spec_l06Same.f k l m) b ∧ (b = true ↔ l = m) := by
  unfold slices_Equal_int_int.f spec_l06Same.f
  by_cases h : (l.length : Int) = (m.length : Int)
  · obtain ⟨b, h1, h2, h3⟩ := same_l l m hl (by omega) l.length 0 (by omega)
    refine ⟨b, ev_pos h h1, ev_pos h h2, h3.trans ⟨fun q => ?_, fun e => by subst e; exact fun _ _ _ => rfl⟩⟩
    refine List.ext_getElem (by omega) fun j hj hj' => ?_
    have := q j (by omega) hj
    unfold rd at this
    rwa [toNat_cast, getD_lt l j 0 hj, getD_lt m j 0 hj'] at this
  · exact ⟨false, ev_neg h (Ev.now _), ev_neg h (Ev.now _), ⟨fun q => (by cases q), fun e => absurd (by rw [e]) h⟩⟩
def ConfP (a b c : List Int) : Prop := IdsP a ∧ 0 < a.length ∧ IdsP b ∧ IdsP c ∧ a ≠ b ∧ ∀ x ∈ c, x ∉ a ∧ x ∉ b
theorem confOk_l (a b c : List Int) (ha : a.length ≤ 1048576) (hb : b.length ≤ 1048576) (hc : c.length ≤ 1048576) (d : Nat) : ∀ i : Nat, c.length = i + d → ∃ r, Ev (fun k => spec_ConfOk.l0 k i a b c) r ∧ (r = true ↔ ∀ j : Nat, i ≤ j → j < c.length → rd c j ∉ a ∧ rd c j ∉ b) := by
  induction d with
  | zero =>
    intro i hd
    refine ⟨true, ?_, ⟨fun _ j h1 h2 => by omega, fun _ => rfl⟩⟩
    refine Ev.step (fun k => by rw [spec_ConfOk.l0]) ?_
    exact ev_neg (by omega) (Ev.now _)
  | succ d ih =>
    intro i hd
    have hi := wsucc (j := i) (n := c.length) (by omega) (by omega)
    by_cases h1 : rd c i ∈ a
    · refine ⟨false, ?_, ⟨fun q => (by cases q), fun q => absurd h1 (q i (Nat.le_refl i) (by omega)).1⟩⟩
      refine Ev.step (fun k => by rw [spec_ConfOk.l0]) ?_
      exact ev_pos (by omega) (ev_pos (by omega) (Ev.bind (has_ev a ha _) (ev_pos (decide_eq_true h1) (Ev.now _))))
    by_cases h2 : rd c i ∈ b
    · refine ⟨false, ?_, ⟨fun q => (by cases q), fun q => absurd h2 (q i (Nat.le_refl i) (by omega)).2⟩⟩
      refine Ev.step (fun k => by rw [spec_ConfOk.l0]) ?_
      exact ev_pos (by omega) (ev_pos (by omega) (Ev.bind (has_ev a ha _) (ev_neg (by simpa using h1) (Ev.bind (has_ev b hb _) (ev_pos (decide_eq_true h2) (Ev.now _))))))
    obtain ⟨r, hr, h3⟩ := ih (i + 1) (by omega)
    refine ⟨r, ?_, h3.trans ⟨fun q j e1 e2 => ?_, fun q j e1 e2 => q j (by omega) e2⟩⟩
    · refine Ev.step (fun k => by rw [spec_ConfOk.l0]) ?_
      rw [hi]
      exact ev_pos (by omega) (ev_pos (by omega) (Ev.bind (has_ev a ha _) (ev_neg (by simpa using h1) (Ev.bind (has_ev b hb _) (ev_neg (by simpa using h2) hr)))))
    · rcases Nat.eq_or_lt_of_le e1 with e | e
      · subst e; exact ⟨h1, h2⟩
      · exact q j e e2
theorem isConf_ev (a b c : List Int) (ha : a.length ≤ 1048576) (hb : b.length ≤ 1048576) (hc : c.length ≤ 1048576) : ∃ r, Ev (fun k => impl_isConf.f k a b c) r ∧ Ev (fun k => spec_ConfOk.f k a b c) r ∧ (r = true ↔ ConfP a b c) := by
  obtain ⟨ia, ia1, ia2, ia3⟩ := ids_ev a ha
  obtain ⟨ib, ib1, ib2, ib3⟩ := ids_ev b hb
  obtain ⟨ic, ic1, ic2, ic3⟩ := ids_ev c hc
  obtain ⟨q, q1, q2, q3⟩ := same_ev a b ha hb
  obtain ⟨r, r1, r2⟩ := confOk_l a b c ha hb hc c.length 0 (by omega)
  have j0 : ∀ x : Bool, x = true → Ev (fun k => spec_ConfOk.j0 k x a b c) false := fun x hx => by
    refine Ev.step (fun k => by rw [spec_ConfOk.j0]) ?_
    exact ev_pos hx (Ev.now _)
  have nb : ∀ {x : Bool}, ¬ x = true → x = false := fun {x} h => by simpa using h
  have set_ : ∀ y : Bool, y = decide ((a.length : Int) > 0) → ia = true → Ev (fun k => spec_l06Set.f k a) y := fun y hy h => by
    unfold spec_l06Set.f
    rw [hy]
    exact Ev.bind ia2 (ev_pos h (Ev.now _))
  unfold impl_isConf.f spec_ConfOk.f
  by_cases h1 : ia = true
  rotate_left
  · refine ⟨false, Ev.bind ia1 (ev_neg h1 (Ev.now _)), ?_, ⟨fun q => (by cases q), fun q => absurd (ia3.2 q.1) h1⟩⟩
    refine Ev.bind (a := false) (by unfold spec_l06Set.f; exact Ev.bind ia2 (ev_neg h1 (Ev.now _))) (ev_neg (by simp) (j0 _ rfl))
  by_cases h2 : (a.length : Int) = 0
  · exact ⟨false, Ev.bind ia1 (ev_pos h1 (ev_pos h2 (Ev.now _))), Ev.bind (set_ _ rfl h1) (ev_neg (by rw [decide_eq_false (by omega)]; simp) (j0 _ rfl)), ⟨fun q => (by cases q), fun q => by have := q.2.1; omega⟩⟩
  have hs : decide ((a.length : Int) > 0) = true := decide_eq_true (by omega)
  by_cases h3 : ib = true
  rotate_left
  · exact ⟨false, Ev.bind ia1 (ev_pos h1 (ev_neg h2 (Ev.bind ib1 (ev_neg h3 (Ev.now _))))), Ev.bind (set_ _ rfl h1) (ev_pos hs (Ev.bind ib2 (ev_neg h3 (j0 _ rfl)))), ⟨fun q => (by cases q), fun q => absurd (ib3.2 q.2.2.1) h3⟩⟩
  by_cases h5 : ic = true
  rotate_left
  · refine ⟨false, Ev.bind ia1 (ev_pos h1 (ev_neg h2 (Ev.bind ib1 (ev_pos h3 (Ev.bind q1 ?_))))), Ev.bind (set_ _ rfl h1) (ev_pos hs (Ev.bind ib2 (ev_pos h3 (Ev.bind ic2 (ev_neg h5 (j0 _ rfl)))))), ⟨fun q => (by cases q), fun q => absurd (ic3.2 q.2.2.2.1) h5⟩⟩
    by_cases h4 : q = true
    · exact ev_pos h4 (Ev.now _)
    · exact ev_neg h4 (Ev.bind ic1 (ev_neg h5 (Ev.now _)))
  by_cases h4 : q = true
  · exact ⟨false, Ev.bind ia1 (ev_pos h1 (ev_neg h2 (Ev.bind ib1 (ev_pos h3 (Ev.bind q1 (ev_pos h4 (Ev.now _))))))), Ev.bind (set_ _ rfl h1) (ev_pos hs (Ev.bind ib2 (ev_pos h3 (Ev.bind ic2 (ev_pos h5 (Ev.bind q2 (j0 _ h4))))))), ⟨fun q => (by cases q), fun z => absurd (q3.1 h4) z.2.2.2.2.1⟩⟩
  have e : (!c.any (slices_ContainsFunc_int_int.p a b)) = r := by
    rw [Bool.eq_iff_iff, r2]
    simp only [Bool.not_eq_true', List.any_eq_false, slices_ContainsFunc_int_int.p, Bool.or_eq_true, decide_eq_true_iff, not_or]
    exact ⟨fun h j _ hj => h _ ((mem_rd c _).2 ⟨j, hj, rfl⟩), fun h x hx => by obtain ⟨j, hj, rfl⟩ := (mem_rd c x).1 hx; exact h j (by omega) hj⟩
  refine ⟨r, Ev.bind ia1 (ev_pos h1 (ev_neg h2 (Ev.bind ib1 (ev_pos h3 (Ev.bind q1 (ev_neg h4 (Ev.bind ic1 (ev_pos h5 (Ev.bind (a := c.any (slices_ContainsFunc_int_int.p a b)) (ev_const rfl) ?_))))))))), Ev.bind (set_ _ rfl h1) (ev_pos hs (Ev.bind ib2 (ev_pos h3 (Ev.bind ic2 (ev_pos h5 (Ev.bind q2 ?_)))))), ?_⟩
  · rw [e]; exact Ev.now _
  · refine Ev.step (fun k => by rw [spec_ConfOk.j0]) ?_
    exact ev_neg h4 r1
  · rw [r2]
    exact ⟨fun h => ⟨ia3.1 h1, by omega, ib3.1 h3, ic3.1 h5, fun z => h4 (q3.2 z), fun x hx => by obtain ⟨j, hj, rfl⟩ := (mem_rd c x).1 hx; exact h j (by omega) hj⟩, fun h j _ hj => h.2.2.2.2.2 _ ((mem_rd c _).2 ⟨j, hj, rfl⟩)⟩
theorem eqIntS_l (l : List Int) (hl : l.length ≤ 1048576) (d : Nat) : ∀ (i : Nat), l.length = i + d → Ev (fun k => laws_eqIntS.l0 k l l i) true := by
  induction d with
  | zero =>
    intro i hd
    refine Ev.step (fun k => by rw [laws_eqIntS.l0]) ?_
    exact ev_neg (by omega) (Ev.now _)
  | succ d ih =>
    intro i hd
    refine Ev.step (fun k => by rw [laws_eqIntS.l0]) ?_
    refine ev_pos (by omega) (ev_pos (by omega) (ev_pos (by omega) (ev_pos rfl ?_)))
    rw [wsucc (n := l.length) (by omega) (by omega)]
    exact ih (i + 1) (by omega)
theorem eqIntS_ev (l : List Int) (hl : l.length ≤ 1048576) : Ev (fun k => laws_eqIntS.f k l l) true := by
  unfold laws_eqIntS.f
  exact ev_pos rfl (eqIntS_l l hl l.length 0 (by omega))
theorem markI_l (d : Nat) : ∀ (i : Nat) (xs : List Int) (c : Int), xs.length = i + d → xs.length ≤ 1048576 → 0 ≤ c → c + d ≤ 4611686018427387904 →
    ∃ ys, Ev (fun k => laws_markIntS.l0 k xs c i) (c + d, ys) ∧ ys.length = xs.length ∧ (∀ j, j < i → ys[j]? = xs[j]?) ∧ Ev (fun k => laws_heldIntS.l0 k ys c i) (c + d) := by
  induction d with
  | zero =>
    intro i xs c hd hl h0 h1
    refine ⟨xs, ?_, rfl, fun _ _ => rfl, ?_⟩
    · refine Ev.step (fun k => by rw [laws_markIntS.l0]) ?_
      refine ev_neg (by omega) ?_
      rw [show c + ((0 : Nat) : Int) = c by omega]
      exact Ev.now _
    · refine Ev.step (fun k => by rw [laws_heldIntS.l0]) ?_
      refine ev_neg (by omega) ?_
      rw [show c + ((0 : Nat) : Int) = c by omega]
      exact Ev.now _
  | succ d ih =>
    intro i xs c hd hl h0 h1
    have e1 : wrap64 (c + 1) = c + 1 := w64 (by omega) (by omega)
    obtain ⟨ys, hm, hy, hk, hh⟩ := ih (i + 1) (xs.set i c) (c + 1) (by simp; omega) (by simpa using hl) (by omega) (by omega)
    have e2 : c + 1 + (d : Int) = c + ((d + 1 : Nat) : Int) := by omega
    rw [e2] at hm hh
    refine ⟨ys, ?_, by simpa using hy, fun j hj => ?_, ?_⟩
    · refine Ev.step (fun k => by rw [laws_markIntS.l0]) ?_
      refine ev_pos (by omega) (ev_pos (by omega) ?_)
      rw [toNat_cast, e1, wsucc (n := xs.length) (by omega) (by omega)]
      exact hm
    · rw [hk j (by omega), List.getElem?_set_ne (by omega)]
    · have hi : rd ys (i : Int) = c := by
        unfold rd
        rw [toNat_cast, List.getD_eq_getElem?_getD, hk i (by omega), List.getElem?_set_self (by omega)]
        rfl
      have hyl : ys.length = xs.length := by simpa using hy
      refine Ev.step (fun k => by rw [laws_heldIntS.l0]) ?_
      refine ev_pos (by omega) (ev_pos (by omega) (ev_pos hi ?_))
      rw [e1, wsucc (n := ys.length) (by omega) (by omega)]
      exact hh
theorem markI_ev (xs : List Int) (hl : xs.length ≤ 1048576) (c : Int) (h0 : 0 ≤ c) (h1 : c ≤ 4611686018426339328) : ∃ ys, Ev (fun k => laws_markIntS.f k xs c) (c + xs.length, ys) ∧ ys.length = xs.length ∧ Ev (fun k => laws_heldIntS.f k ys c) (c + xs.length) := by
  obtain ⟨ys, h2, h3, _, h4⟩ := markI_l xs.length 0 xs c (by omega) hl h0 (by omega)
  exact ⟨ys, h2, h3, h4⟩
theorem set_take_next (l m : List Int) (i : Nat) (hi : i < l.length) (hm : m.length = l.length) (ht : m.take i = l.take i) : (m.set i (rd l (i : Int))).take (i + 1) = l.take (i + 1) := by
  rw [take_set_succ m i _ (by omega), ht, take_succ_getD l i 0 hi]
  unfold rd
  rw [toNat_cast]
theorem toIntS_l (l : List Int) (hl : l.length ≤ 1048576) (d : Nat) : ∀ (i : Nat) (m : List Int), l.length = i + d → m.length = l.length → m.take i = l.take i → Ev (fun k => laws_toIntS.l0 k l m i) l := by
  induction d with
  | zero =>
    intro i m hd hm ht
    have : m = l := by
      rw [List.take_of_length_le (by omega), List.take_of_length_le (by omega)] at ht
      exact ht
    subst this
    refine Ev.step (fun k => by rw [laws_toIntS.l0]) ?_
    exact ev_neg (by omega) (Ev.now _)
  | succ d ih =>
    intro i m hd hm ht
    refine Ev.step (fun k => by rw [laws_toIntS.l0]) ?_
    refine ev_pos (by omega) (ev_pos (by omega) (ev_pos (by omega) ?_))
    rw [wsucc (n := l.length) (by omega) (by omega), toNat_cast]
    exact ih (i + 1) _ (by omega) (by simpa using hm) (set_take_next l m i (by omega) hm ht)
theorem toIntS_ev (l : List Int) (hl : l.length ≤ 1048576) : Ev (fun k => laws_toIntS.f k l) l := by
  unfold laws_toIntS.f
  refine ev_pos (by omega) (ev_pos (by rw [toNat_cast]; omega) ?_)
  refine toIntS_l l hl l.length 0 _ (by omega) (by simp) (by simp)
theorem szIntS_e (l : List Int) (hl : l.length ≤ 9223372036854775807) (a : Int) (h0 : 0 ≤ a) (h1 : a ≤ 1048576) : laws_szIntS.f l a = some (if (l.length : Int) ≤ a then a - l.length else -1) := by
  unfold laws_szIntS.f
  rw [w64 (x := a - l.length) (by omega) (by omega)]
  by_cases h : (l.length : Int) ≤ a
  · rw [if_neg (by omega), if_pos h]
  · rw [if_pos (by omega), if_neg h]
theorem szConf_e (a b c : List Int) (ha : a.length ≤ 9223372036854775807) (hb : b.length ≤ 9223372036854775807) (hc : c.length ≤ 9223372036854775807) : (∃ r, r < 0 ∧ laws_szConf.f a b c 1048576 = some r) ∨ (∃ r, ¬ r < 0 ∧ laws_szConf.f a b c 1048576 = some r ∧ a.length ≤ 1048576 ∧ b.length ≤ 1048576 ∧ c.length ≤ 1048576) := by
  unfold laws_szConf.f
  rw [szIntS_e a ha 1048576 (by omega) (by omega), Option.bind_some]
  by_cases h1 : (a.length : Int) ≤ 1048576
  rotate_left
  · exact .inl ⟨-1, by omega, by rw [if_neg h1, if_pos (by omega)]⟩
  rw [if_pos h1, if_neg (by omega), szIntS_e b hb _ (by omega) (by omega), Option.bind_some]
  by_cases h2 : (b.length : Int) ≤ 1048576 - a.length
  rotate_left
  · exact .inl ⟨-1, by omega, by rw [if_neg h2, if_pos (by omega)]⟩
  rw [if_pos h2, if_neg (by omega), szIntS_e c hc _ (by omega) (by omega), Option.bind_some]
  by_cases h3 : (c.length : Int) ≤ 1048576 - a.length - b.length
  rotate_left
  · exact .inl ⟨-1, by omega, by rw [if_neg h3, if_pos (by omega)]⟩
  exact .inr ⟨1048576 - a.length - b.length - c.length, by omega, by rw [if_pos h3, if_neg (by omega)], by omega, by omega, by omega⟩
theorem toConf_ev (a b c : List Int) (ha : a.length ≤ 1048576) (hb : b.length ≤ 1048576) (hc : c.length ≤ 1048576) : Ev (fun k => laws_toConf.f k a b c) (a, b, c) :=
  Ev.bind (toIntS_ev a ha) (Ev.bind (toIntS_ev b hb) (Ev.bind (toIntS_ev c hc) (Ev.now _)))
theorem eqConf_ev (a b c : List Int) (ha : a.length ≤ 1048576) (hb : b.length ≤ 1048576) (hc : c.length ≤ 1048576) : Ev (fun k => laws_eqConf.f k a b c a b c) true :=
  Ev.bind (eqIntS_ev a ha) (ev_pos rfl (Ev.bind (eqIntS_ev b hb) (ev_pos rfl (Ev.bind (eqIntS_ev c hc) (ev_pos rfl (Ev.now _))))))
theorem markConf_ev (a b c : List Int) (ha : a.length ≤ 1048576) (hb : b.length ≤ 1048576) (hc : c.length ≤ 1048576) (m : Int) (h0 : 0 ≤ m) (h1 : m ≤ 1152921504606846976) : ∃ x y z, Ev (fun k => laws_markConf.f k a b c m) (m + a.length + b.length + c.length, x, y, z) := by
  obtain ⟨x, hx, _⟩ := markI_ev a ha m h0 (by omega)
  obtain ⟨y, hy, _⟩ := markI_ev b hb (m + a.length) (by omega) (by omega)
  obtain ⟨z, hz, _⟩ := markI_ev c hc (m + a.length + b.length) (by omega) (by omega)
  exact ⟨x, y, z, Ev.bind hx (Ev.bind hy (Ev.bind hz (Ev.now _)))⟩
theorem strict_eq : ∀ (xs ys : List Int), xs.Pairwise (· < ·) → ys.Pairwise (· < ·) → (∀ x, x ∈ xs ↔ x ∈ ys) → xs = ys := by
  intro xs
  induction xs with
  | nil =>
    intro ys _ _ h
    cases ys with
    | nil => rfl
    | cons y ys => exact absurd ((h y).2 (List.mem_cons_self ..)) (by simp)
  | cons x xs ih =>
    intro ys hx hy h
    cases ys with
    | nil => exact absurd ((h x).1 (List.mem_cons_self ..)) (by simp)
    | cons y ys =>
      rw [List.pairwise_cons] at hx hy
      have e : x = y := by
        rcases List.mem_cons.1 ((h x).1 (List.mem_cons_self ..)) with e | e
        · exact e
        · rcases List.mem_cons.1 ((h y).2 (List.mem_cons_self ..)) with e2 | e2
          · exact e2.symm
          · have := hy.1 x e; have := hx.1 y e2; omega
      subst e
      congr 1
      refine ih ys hx.2 hy.2 fun z => ⟨fun hz => ?_, fun hz => ?_⟩
      · rcases List.mem_cons.1 ((h z).1 (List.mem_cons_of_mem _ hz)) with e | e
        · have := hx.1 z hz; omega
        · exact e
      · rcases List.mem_cons.1 ((h z).2 (List.mem_cons_of_mem _ hz)) with e | e
        · have := hy.1 z hz; omega
        · exact e
def votM (a b : List Int) (m : Nat) : List Int := ((List.range m).map (fun i : Nat => (i : Int))).filter (fun x => decide (x ∈ a) || decide (x ∈ b))
theorem votM_mem (a b : List Int) (m : Nat) (x : Int) : x ∈ votM a b m ↔ 0 ≤ x ∧ x < m ∧ (x ∈ a ∨ x ∈ b) := by
  unfold votM
  rw [List.mem_filter, List.mem_map]
  constructor
  · rintro ⟨⟨i, hi, rfl⟩, h⟩
    rw [List.mem_range] at hi
    exact ⟨by omega, by omega, by simpa using h⟩
  · rintro ⟨h0, h1, h⟩
    exact ⟨⟨x.toNat, by rw [List.mem_range]; omega, by omega⟩, by simpa using h⟩
theorem votM_succ (a b : List Int) (m : Nat) : votM a b (m + 1) = if (m : Int) ∈ a ∨ (m : Int) ∈ b then votM a b m ++ [(m : Int)] else votM a b m := by
  unfold votM
  rw [List.range_succ, List.map_append, List.filter_append]
  by_cases h : (m : Int) ∈ a ∨ (m : Int) ∈ b
  · rw [if_pos h]
    congr 1
    simp [h]
  · rw [if_neg h]
    have h1 : ¬ (m : Int) ∈ a := fun q => h (.inl q)
    have h2 : ¬ (m : Int) ∈ b := fun q => h (.inr q)
    simp [h1, h2]
theorem votM_len (a b : List Int) (m : Nat) : (votM a b m).length ≤ m := by
  unfold votM
  refine Nat.le_trans (List.length_filter_le _ _) ?_
  simp
theorem votM_sorted (a b : List Int) (m : Nat) : (votM a b m).Pairwise (· < ·) := by
  induction m with
  | zero => simp [votM]
  | succ m ih =>
    rw [votM_succ]
    by_cases h : (m : Int) ∈ a ∨ (m : Int) ∈ b
    · rw [if_pos h, List.pairwise_append]
      refine ⟨ih, by simp, fun x hx y hy => ?_⟩
      rw [List.mem_singleton] at hy
      have := (votM_mem a b m x).1 hx
      omega
    · rw [if_neg h]; exact ih
theorem ids_range {l : List Int} (h : IdsP l) {x : Int} (hx : x ∈ l) : 0 ≤ x ∧ x ≤ 99 := by
  obtain ⟨j, hj, rfl⟩ := (mem_rd l x).1 hx
  exact ⟨(h.1 j hj).1, (h.1 j hj).2.1⟩
theorem l01Copy_l (l : List Int) (hl : l.length ≤ 1048576) (d : Nat) : ∀ i : Nat, l.length = i + d → Ev (fun k => spec_l01Copy.l0 k l (l.take i) i) l := by
  induction d with
  | zero =>
    intro i hd
    refine Ev.step (fun k => by rw [spec_l01Copy.l0]) ?_
    rw [List.take_of_length_le (by omega)]
    exact ev_neg (by omega) (Ev.now _)
  | succ d ih =>
    intro i hd
    have hi := wsucc (j := i) (n := l.length) (by omega) (by omega)
    refine Ev.step (fun k => by rw [spec_l01Copy.l0]) ?_
    rw [hi]
    refine ev_pos (by omega) (ev_pos (by omega) (ev_pos (by rw [List.length_take]; omega) ?_))
    have e : l.take i ++ [rd l (i : Int)] = l.take (i + 1) := by
      rw [take_succ_getD l i 0 (by omega)]
      unfold rd
      rw [toNat_cast]
    rw [e]
    exact ih (i + 1) (by omega)
theorem l01Copy_ev (l : List Int) (hl : l.length ≤ 1048576) : Ev (fun k => spec_l01Copy.f k l) l := l01Copy_l l hl l.length 0 (by omega)
theorem l06Copy_ev (a b c : List Int) (ha : a.length ≤ 1048576) (hb : b.length ≤ 1048576) (hc : c.length ≤ 1048576) : Ev (fun k => spec_l06Copy.f k a b c) (a, b, c) :=
  Ev.bind (l01Copy_ev a ha) (Ev.bind (l01Copy_ev b hb) (Ev.bind (l01Copy_ev c hc) (Ev.now _)))
theorem l06Less_l (l o : List Int) (hl : l.length ≤ 1048576) (ho : o.length ≤ 1048576) (d : Nat) : ∀ i : Nat, l.length = i + d → Ev (fun k => spec_l06Less.l0 k l o ((l.take i).filter (fun x => !decide (x ∈ o))) i) (l.filter (fun x => !decide (x ∈ o))) := by
  induction d with
  | zero =>
    intro i hd
    refine Ev.step (fun k => by rw [spec_l06Less.l0]) ?_
    rw [List.take_of_length_le (by omega)]
    exact ev_neg (by omega) (Ev.now _)
  | succ d ih =>
    intro i hd
    have hi := wsucc (j := i) (n := l.length) (by omega) (by omega)
    have h := ih (i + 1) (by omega)
    rw [take_succ_getD l i 0 (by omega), List.filter_append, show l.getD i 0 = rd l (i : Int) by unfold rd; rw [toNat_cast]] at h
    refine Ev.step (fun k => by rw [spec_l06Less.l0]) ?_
    rw [hi]
    refine ev_pos (by omega) (ev_pos (by omega) (Ev.bind (has_ev o ho _) ?_))
    by_cases q : rd l (i : Int) ∈ o
    · rw [List.filter_cons_of_neg (by simpa using q), List.filter_nil, List.append_nil] at h
      exact ev_pos (decide_eq_true q) h
    · rw [List.filter_cons_of_pos (by simpa using q), List.filter_nil] at h
      have hx : ((l.take i).filter (fun x => !decide (x ∈ o))).length ≤ l.length := Nat.le_trans (List.length_filter_le _ _) (by rw [List.length_take]; omega)
      exact ev_neg (by simpa using q) (ev_pos (by omega) h)
theorem l06Less_ev (l o : List Int) (hl : l.length ≤ 1048576) (ho : o.length ≤ 1048576) : Ev (fun k => spec_l06Less.f k l o) (l.filter (fun x => !decide (x ∈ o))) := l06Less_l l o hl ho l.length 0 (by omega)
theorem learn_l (a b c a' b' : List Int) (hc : c.length ≤ 1048576) (id : Int) (d : Nat) : ∀ i : Nat, 100 = i + d → ∀ r, Ev (fun k => spec_Learner.j2 k a b c a' b' (votM c [id] 100)) r → Ev (fun k => spec_Learner.l0 k id i a b c a' b' (votM c [id] i)) r := by
  induction d with
  | zero =>
    intro i hd r hr
    have : i = 100 := by omega
    subst this
    refine Ev.step (fun k => by rw [spec_Learner.l0]) ?_
    exact ev_neg (by omega) hr
  | succ d ih =>
    intro i hd r hr
    have hi := wsucc (j := i) (n := 100) (by omega) (by omega)
    have hlen := votM_len c [id] i
    have h := ih (i + 1) (by omega) r hr
    rw [votM_succ] at h
    refine Ev.step (fun k => by rw [spec_Learner.l0]) ?_
    rw [hi]
    refine ev_pos (by omega) ?_
    by_cases h1 : (i : Int) = id
    · rw [if_pos (.inr (by simp [h1]))] at h
      exact ev_pos h1 (ev_pos (by omega) h)
    refine ev_neg h1 (Ev.bind (has_ev c hc _) ?_)
    by_cases h2 : (i : Int) ∈ c
    · rw [if_pos (.inl h2)] at h
      exact ev_pos (decide_eq_true h2) (ev_pos (by omega) h)
    · rw [if_neg (by rintro (q | q); exact h2 q; exact h1 (by simpa using q))] at h
      exact ev_neg (by simpa using h2) h
theorem specLearn_j2 (a b c c1 : List Int) (h : ConfP a b c) (hl1 : c1.length ≤ 1048576) : ∃ (c' : List Int) (ok : Bool), Ev (fun k => spec_Learner.j2 k a b c a b c1) (a, b, c', ok) ∧ ConfP a b c' ∧ (ok = false → c' = c) ∧ (c' = c ∨ c' = c1) := by
  obtain ⟨pa, _, pb, pc, _⟩ := And.left ⟨h, trivial⟩
  have la := pa.2
  have lb := pb.2
  have lc := pc.2
  obtain ⟨r1, _, g2, g3⟩ := isConf_ev a b c1 (by omega) (by omega) hl1
  obtain ⟨b1, _, b2, _⟩ := same_ev c1 c hl1 (by omega)
  have hsc := l06Copy_ev a b c (by omega) (by omega) (by omega)
  by_cases e : r1 = true
  · by_cases e1 : b1 = true
    · refine ⟨c, false, ?_, h, fun _ => rfl, .inl rfl⟩
      refine Ev.step (fun k => by rw [spec_Learner.j2]) ?_
      exact Ev.bind g2 (ev_pos e (Ev.bind b2 (ev_pos e1 (Ev.bind hsc (Ev.now _)))))
    · refine ⟨c1, true, ?_, g3.1 e, fun q => (by cases q), .inr rfl⟩
      refine Ev.step (fun k => by rw [spec_Learner.j2]) ?_
      exact Ev.bind g2 (ev_pos e (Ev.bind b2 (ev_neg e1 (Ev.now _))))
  · refine ⟨c, false, ?_, h, fun _ => rfl, .inl rfl⟩
    refine Ev.step (fun k => by rw [spec_Learner.j2]) ?_
    exact Ev.bind g2 (ev_neg e (Ev.bind hsc (Ev.now _)))
theorem specLearn_ev (a b c : List Int) (h : ConfP a b c) (id : Int) (on : Bool) : ∃ (c' : List Int) (ok : Bool), Ev (fun k => spec_Learner.f k a b c id on) (a, b, c', ok) ∧ ConfP a b c' ∧ ∀ x ∈ c', x ∈ c ∨ x = id := by
  obtain ⟨pa, _, pb, pc, _⟩ := And.left ⟨h, trivial⟩
  have la := pa.2
  have lb := pb.2
  have lc := pc.2
  obtain ⟨r, _, h2, h3⟩ := isConf_ev a b c (by omega) (by omega) (by omega)
  have hsc := l06Copy_ev a b c (by omega) (by omega) (by omega)
  have hh := has_ev c (by omega) id
  unfold spec_Learner.f
  by_cases hon : (decide (id ∈ c) == on) = true
  · refine ⟨c, false, Ev.bind h2 (ev_pos (h3.2 h) (Ev.bind hh ?_)), h, fun x hx => .inl hx⟩
    refine Ev.step (fun k => by rw [spec_Learner.j0]) ?_
    exact ev_pos hon (Ev.bind hsc (Ev.now _))
  have hl6 := l06Less_ev c [id] (by omega) (by simp)
  have hv := votM_len c [id] 100
  have hf := List.length_filter_le (fun x => !decide (x ∈ [id])) c
  cases on with
  | true =>
    obtain ⟨c', ok, m1, m2, _, m3⟩ := specLearn_j2 a b c (votM c [id] 100) h (by omega)
    refine ⟨c', ok, Ev.bind h2 (ev_pos (h3.2 h) (Ev.bind hh ?_)), m2, fun x hx => m3.elim (fun e => .inl (by rw [← e]; exact hx)) (fun e => by
      rw [e] at hx
      rcases ((votM_mem c [id] 100 x).1 hx).2.2 with q | q
      · exact .inl q
      · exact .inr (List.mem_singleton.1 q))⟩
    refine Ev.step (fun k => by rw [spec_Learner.j0]) ?_
    exact ev_neg hon (Ev.bind hsc (Ev.bind hl6 (ev_pos rfl (learn_l a b c a b (by omega) id 100 0 (by omega) _ m1))))
  | false =>
    obtain ⟨c', ok, m1, m2, _, m3⟩ := specLearn_j2 a b c _ h (show (c.filter (fun x => !decide (x ∈ [id]))).length ≤ 1048576 by omega)
    refine ⟨c', ok, Ev.bind h2 (ev_pos (h3.2 h) (Ev.bind hh ?_)), m2, fun x hx => m3.elim (fun e => .inl (by rw [← e]; exact hx)) (fun e => by
      rw [e] at hx
      exact .inl (List.mem_filter.1 hx).1)⟩
    refine Ev.step (fun k => by rw [spec_Learner.j0]) ?_
    exact ev_neg hon (Ev.bind hsc (Ev.bind hl6 (ev_neg (by simp) m1)))
def Asc (l : List Int) : Prop := ∀ i j : Nat, i < j → j < l.length → rd l i < rd l j
theorem asc_of {l : List Int} (h : IdsP l) : Asc l := by
  intro i j
  induction j with
  | zero => intro h1; omega
  | succ j ih =>
    intro hij hj
    have := (h.1 (j + 1) hj).2.2 (by omega)
    rw [Nat.add_sub_cancel] at this
    by_cases e : i = j
    · subst e; exact this
    · have := ih (by omega) (by omega); omega
theorem asc_pw {l : List Int} (h : Asc l) : l.Pairwise (· < ·) := by
  rw [List.pairwise_iff_getElem]
  intro i j hi hj hij
  have := h i j hij hj
  unfold rd at this
  rwa [toNat_cast, toNat_cast, getD_lt l i 0 hi, getD_lt l j 0 hj] at this
theorem less_e (x y : Int) : cmp_Less_int.f x y = some (decide (x < y)) := by
  unfold cmp_Less_int.f cmp_isNaN_int.f
  simp
theorem bs_end (l : List Int) (hl : l.length ≤ 1048576) (x : Int) (i : Nat) (hi : i ≤ l.length) : ∃ p : Nat, p ≤ l.length ∧ Ev (fun k => slices_BinarySearch_int_int.l0 k l x l.length i i) ((p : Int), decide (p < l.length ∧ rd l p = x)) ∧ (Asc l → (∀ q : Nat, q < i → rd l q < x) → (∀ q : Nat, i ≤ q → q < l.length → ¬ rd l q < x) → (∀ q : Nat, q < p → rd l q < x) ∧ (∀ q : Nat, p ≤ q → q < l.length → ¬ rd l q < x)) := by
  refine ⟨i, hi, ?_, fun _ a b => ⟨a, b⟩⟩
  refine Ev.step (fun k => by rw [slices_BinarySearch_int_int.l0]) ?_
  refine ev_neg (by omega) ?_
  by_cases h : i < l.length
  · refine ev_pos (by omega) (ev_pos (by omega) (ev_pos (by omega) ?_))
    by_cases e : rd l i = x
    · rw [decide_eq_true ⟨h, e⟩]; exact ev_pos e (Ev.now _)
    · rw [decide_eq_false (fun q => e q.2)]
      exact ev_neg e (Ev.bind (a := false) (ev_const (by unfold slices_isNaN_int.f; simp)) (ev_neg (by simp) (Ev.now _)))
  · rw [decide_eq_false (fun q => h q.1)]
    exact ev_neg (by omega) (Ev.now _)
theorem bs_l (l : List Int) (hl : l.length ≤ 1048576) (x : Int) (d : Nat) : ∀ i j : Nat, j ≤ i + d → i ≤ j → j ≤ l.length → ∃ p : Nat, p ≤ l.length ∧ Ev (fun k => slices_BinarySearch_int_int.l0 k l x l.length i j) ((p : Int), decide (p < l.length ∧ rd l p = x)) ∧ (Asc l → (∀ q : Nat, q < i → rd l q < x) → (∀ q : Nat, j ≤ q → q < l.length → ¬ rd l q < x) → (∀ q : Nat, q < p → rd l q < x) ∧ (∀ q : Nat, p ≤ q → q < l.length → ¬ rd l q < x)) := by
  induction d with
  | zero =>
    intro i j h1 h2 h3
    obtain rfl : i = j := by omega
    exact bs_end l hl x i h3
  | succ d ih =>
    intro i j h1 h2 h3
    by_cases hij : i < j
    rotate_left
    · obtain rfl : i = j := by omega
      exact bs_end l hl x i h3
    have hm : wrap64 ((IntKind.u64.wrap (wrap64 ((i : Int) + j))) / 2) = (((i + j) / 2 : Nat) : Int) := by
      rw [w64 (x := (i : Int) + j) (by omega) (by omega), u64w (by omega) (by omega), w64 (by omega) (by omega)]
      omega
    by_cases h : rd l ((i + j) / 2 : Nat) < x
    · obtain ⟨p, p1, p2, p3⟩ := ih ((i + j) / 2 + 1) j (by omega) (by omega) h3
      refine ⟨p, p1, ?_, fun s a b => p3 s (fun q hq => ?_) b⟩
      · refine Ev.step (fun k => by rw [slices_BinarySearch_int_int.l0]) ?_
        rw [hm]
        refine ev_pos (by omega) (ev_pos (by omega) (ev_pos (by omega) (Ev.bind (ev_const (less_e _ _)) (ev_pos (decide_eq_true h) ?_))))
        rw [wsucc (n := l.length) (by omega) (by omega)]
        exact p2
      · by_cases e : q = (i + j) / 2
        · subst e; exact h
        · have := s q ((i + j) / 2) (by omega) (by omega); omega
    · obtain ⟨p, p1, p2, p3⟩ := ih i ((i + j) / 2) (by omega) (by omega) (by omega)
      refine ⟨p, p1, ?_, fun s a b => p3 s a (fun q hq1 hq2 => ?_)⟩
      · refine Ev.step (fun k => by rw [slices_BinarySearch_int_int.l0]) ?_
        rw [hm]
        exact ev_pos (by omega) (ev_pos (by omega) (ev_pos (by omega) (Ev.bind (ev_const (less_e _ _)) (ev_neg (by simpa using h) p2))))
      · by_cases e : q = (i + j) / 2
        · subst e; exact h
        · have := s ((i + j) / 2) q (by omega) hq2; omega
theorem bs_ev (l : List Int) (hl : l.length ≤ 1048576) (x : Int) : ∃ (p : Nat) (t : Bool), p ≤ l.length ∧ Ev (fun k => slices_BinarySearch_int_int.f k l x) ((p : Int), t) ∧ (Asc l → t = decide (x ∈ l) ∧ (x ∈ l → p < l.length ∧ rd l p = x) ∧ (∀ q : Nat, q < p → rd l q < x) ∧ (∀ q : Nat, p ≤ q → q < l.length → ¬ rd l q < x)) := by
  obtain ⟨p, p1, p2, p3⟩ := bs_l l hl x l.length 0 l.length (by omega) (by omega) (by omega)
  refine ⟨p, _, p1, p2, fun s => ?_⟩
  obtain ⟨q1, q2⟩ := p3 s (fun q h => by omega) (fun q h1 h2 => by omega)
  have hx : x ∈ l → p < l.length ∧ rd l p = x := fun h => by
    obtain ⟨j, hj, e⟩ := (mem_rd l x).1 h
    have h1 : ¬ j < p := fun h => by have := q1 j h; omega
    have h2 : ¬ p < j := fun h => by
      have a := s p j h hj
      have b := q2 p (by omega) (by omega)
      omega
    obtain rfl : j = p := by omega
    exact ⟨hj, e⟩
  refine ⟨?_, hx, q1, q2⟩
  by_cases h : x ∈ l
  · rw [decide_eq_true h, decide_eq_true (hx h)]
  · rw [decide_eq_false h, decide_eq_false (fun q => h ((mem_rd l x).2 ⟨p, q.1, q.2⟩))]
theorem copyConf_e (a b c : List Int) (ha : a.length ≤ 1048576) (hb : b.length ≤ 1048576) (hc : c.length ≤ 1048576) : impl_copyConf.f a b c = some (a, b, c) := by
  unfold impl_copyConf.f
  simp only [Option.bind_some, List.length_nil, List.nil_append]
  rw [if_pos (by omega), if_pos (by omega), if_pos (by omega)]
theorem take_lt {l : List Int} {p : Nat} {x y : Int} (h : ∀ q : Nat, q < p → q < l.length → rd l q < x) (hy : y ∈ l.take p) : y < x := by
  obtain ⟨j, hj, e⟩ := List.mem_iff_getElem.1 hy
  rw [List.length_take] at hj
  rw [List.getElem_take] at e
  have := h j (by omega) (by omega)
  unfold rd at this
  rw [toNat_cast, getD_lt l j 0 (by omega), e] at this
  exact this
theorem drop_ge {l : List Int} {p : Nat} {x y : Int} (h : ∀ q : Nat, p ≤ q → q < l.length → x < rd l q) (hy : y ∈ l.drop p) : x < y := by
  obtain ⟨j, hj, e⟩ := List.mem_iff_getElem.1 hy
  rw [List.length_drop] at hj
  rw [List.getElem_drop] at e
  have := h (p + j) (by omega) (by omega)
  unfold rd at this
  rw [toNat_cast, getD_lt l (p + j) 0 (by omega), e] at this
  exact this
theorem ins_pw {l : List Int} (h : Asc l) {p : Nat} {x : Int} (h1 : ∀ q : Nat, q < p → rd l q < x) (h2 : ∀ q : Nat, p ≤ q → q < l.length → x < rd l q) : (l.take p ++ [x] ++ l.drop p).Pairwise (· < ·) ∧ (∀ y, y ∈ l.take p ++ [x] ++ l.drop p ↔ y ∈ l ∨ y = x) := by
  have hp := asc_pw h
  refine ⟨?_, fun y => ?_⟩
  · rw [List.pairwise_append, List.pairwise_append]
    refine ⟨⟨hp.sublist (List.take_sublist _ _), by simp, fun a ha b hb => ?_⟩, hp.sublist (List.drop_sublist _ _), fun a ha b hb => ?_⟩
    · rw [List.mem_singleton] at hb
      rw [hb]
      exact take_lt (fun q hq _ => h1 q hq) ha
    · have hb' := drop_ge h2 hb
      rcases List.mem_append.1 ha with ha | ha
      · have := take_lt (fun q hq _ => h1 q hq) ha; omega
      · rw [List.mem_singleton] at ha; omega
  · rw [List.mem_append, List.mem_append, List.mem_singleton]
    conv => rhs; rw [← List.take_append_drop p l, List.mem_append]
    constructor
    · rintro ((h | h) | h)
      · exact .inl (.inl h)
      · exact .inr h
      · exact .inl (.inr h)
    · rintro ((h | h) | h)
      · exact .inl (.inl h)
      · exact .inr h
      · exact .inl (.inr h)
theorem erase_eq {l : List Int} (h : Asc l) {p : Nat} {x : Int} (hp : p < l.length) (hx : rd l p = x) : l.eraseIdx p = l.filter (fun y => !decide (y ∈ [x])) := by
  have hw := asc_pw h
  refine strict_eq _ _ (hw.sublist (List.eraseIdx_sublist _ _)) (hw.sublist (List.filter_sublist)) fun y => ?_
  rw [List.mem_filter, List.mem_eraseIdx_iff_getElem]
  constructor
  · rintro ⟨j, hj, hne, e⟩
    have e' : rd l (j : Nat) = y := by unfold rd; rw [toNat_cast, getD_lt l j 0 hj]; exact e
    refine ⟨by rw [← e]; exact List.getElem_mem _, ?_⟩
    have : y ≠ x := by
      intro q
      rcases Nat.lt_or_gt_of_ne hne with g | g
      · have := h j p g hp; omega
      · have := h p j g hj; omega
    simpa using this
  · rintro ⟨hm, hy⟩
    obtain ⟨j, hj, e⟩ := List.mem_iff_getElem.1 hm
    refine ⟨j, hj, ?_, e⟩
    rintro rfl
    have e' : rd l (j : Nat) = y := by unfold rd; rw [toNat_cast, getD_lt l j 0 hj]; exact e
    have : ¬ y = x := by simpa using hy
    omega
theorem vot_self {c : List Int} (h : IdsP c) {id : Int} (hid : ¬ (0 ≤ id ∧ id ≤ 99)) : votM c [id] 100 = c := by
  refine strict_eq _ _ (votM_sorted _ _ _) (asc_pw (asc_of h)) fun x => ?_
  rw [votM_mem]
  constructor
  · rintro ⟨h0, h1, h2 | h2⟩
    · exact h2
    · rw [List.mem_singleton] at h2; omega
  · intro hx
    have := ids_range h hx
    exact ⟨by omega, by omega, .inl hx⟩
theorem learn_ev (a b c : List Int) (ha : a.length ≤ 1048576) (hb : b.length ≤ 1048576) (hc : c.length ≤ 1048576) (id : Int) (on : Bool) : ∃ (c' : List Int) (ok : Bool), c'.length ≤ 1048576 ∧ Ev (fun k => impl_learner.f k a b c id on) (a, b, c', ok) ∧ Ev (fun k => spec_Learner.f k a b c id on) (a, b, c', ok) := by
  obtain ⟨r, h1, h2, h3⟩ := isConf_ev a b c ha hb hc
  obtain ⟨p, t, p1, p2, p3⟩ := bs_ev c hc id
  have hcp := copyConf_e a b c ha hb hc
  have hsc := l06Copy_ev a b c ha hb hc
  have i0 : ∀ x : Bool, x = true → Ev (fun k => impl_learner.j0 k id on p x a b c a b c) (a, b, c, false) := fun x hx => by
    refine Ev.step (fun k => by rw [impl_learner.j0]) ?_
    exact ev_pos hx (Ev.now _)
  have s0 : ∀ x : Bool, x = true → Ev (fun k => spec_Learner.j0 k id on x a b c) (a, b, c, false) := fun x hx => by
    refine Ev.step (fun k => by rw [spec_Learner.j0]) ?_
    exact ev_pos hx (Ev.bind hsc (Ev.now _))
  unfold impl_learner.f spec_Learner.f
  by_cases h : r = true
  rotate_left
  · exact ⟨c, false, hc, Ev.bind (ev_const hcp) (Ev.bind p2 (Ev.bind h1 (ev_neg h (i0 _ rfl)))), Ev.bind h2 (ev_neg h (s0 _ rfl))⟩
  obtain ⟨_, _, _, hI, _, _⟩ := h3.1 h
  obtain ⟨t1, t2, q1, q2⟩ := p3 (asc_of hI)
  have hs := asc_of hI
  have l7 := hI.2
  by_cases hon : (decide (id ∈ c) == on) = true
  · exact ⟨c, false, hc, Ev.bind (ev_const hcp) (Ev.bind p2 (Ev.bind h1 (ev_pos h (i0 _ (by rw [t1]; exact hon))))), Ev.bind h2 (ev_pos h (Ev.bind (has_ev c hc id) (s0 _ hon)))⟩
  have main : ∀ c1 : List Int, c1.length ≤ 1048576 → c1 ≠ c → ∃ (c' : List Int) (ok : Bool), c'.length ≤ 1048576 ∧ Ev (fun k => impl_learner.j1 k a b c a b c1) (a, b, c', ok) ∧ Ev (fun k => spec_Learner.j2 k a b c a b c1) (a, b, c', ok) := fun c1 hl1 hne => by
    obtain ⟨r1, g1, g2, _⟩ := isConf_ev a b c1 ha hb hl1
    obtain ⟨b1, _, b2, b3⟩ := same_ev c1 c hl1 hc
    by_cases e : r1 = true
    · refine ⟨c1, true, hl1, ?_, ?_⟩
      · refine Ev.step (fun k => by rw [impl_learner.j1]) ?_
        exact Ev.bind g1 (ev_pos e (Ev.now _))
      · refine Ev.step (fun k => by rw [spec_Learner.j2]) ?_
        exact Ev.bind g2 (ev_pos e (Ev.bind b2 (ev_neg (fun q => hne (b3.1 q)) (Ev.now _))))
    · refine ⟨c, false, hc, ?_, ?_⟩
      · refine Ev.step (fun k => by rw [impl_learner.j1]) ?_
        exact Ev.bind g1 (ev_neg e (Ev.bind (ev_const hcp) (Ev.now _)))
      · refine Ev.step (fun k => by rw [spec_Learner.j2]) ?_
        exact Ev.bind g2 (ev_neg e (Ev.bind hsc (Ev.now _)))
  have hl6 := l06Less_ev c [id] hc (by simp)
  have si : ∀ (c' : List Int) (ok : Bool) (e : Ev (fun k => if on = true then spec_Learner.l0 k id 0 a b c a b ([] : List Int) else spec_Learner.j2 k a b c a b (c.filter (fun x => !decide (x ∈ [id])))) (a, b, c', ok)), Ev (fun k => (spec_ConfOk.f k a b c).bind fun t237 => (if t237 = true then ((spec_l01Has.f k c id).bind fun t238 => (spec_Learner.j0 k id on (t238 == on) a b c)) else (spec_Learner.j0 k id on true a b c))) (a, b, c', ok) := fun c' ok e => by
    refine Ev.bind h2 (ev_pos h (Ev.bind (has_ev c hc id) ?_))
    refine Ev.step (fun k => by rw [spec_Learner.j0]) ?_
    exact ev_neg hon (Ev.bind hsc (Ev.bind hl6 e))
  have ii : ∀ (c' : List Int) (ok : Bool) (c1 : List Int) (e0 : (if on = true then slices_Insert_int_int.f c p [id] else slices_Delete_int_int.f c p (wrap64 ((p : Int) + 1))) = some c1) (e : Ev (fun k => impl_learner.j1 k a b c a b c1) (a, b, c', ok)), Ev (fun k => (impl_copyConf.f a b c).bind fun bt143 => ((slices_BinarySearch_int_int.f k c id).bind fun bt153 => ((impl_isConf.f k a b c).bind fun t155 => (if t155 = true then (impl_learner.j0 k id on bt153.1 (bt153.2 == on) a b c bt143.1 bt143.2.1 bt143.2.2) else (impl_learner.j0 k id on bt153.1 true a b c bt143.1 bt143.2.1 bt143.2.2))))) (a, b, c', ok) := fun c' ok c1 e0 e => by
    refine Ev.bind (ev_const hcp) (Ev.bind p2 (Ev.bind h1 (ev_pos h ?_)))
    refine Ev.step (fun k => by rw [impl_learner.j0]) ?_
    refine ev_neg (by rw [t1]; exact hon) ?_
    by_cases q : on = true
    · rw [if_pos q] at e0
      exact ev_pos q (Ev.bind (ev_const e0) e)
    · rw [if_neg q] at e0
      exact ev_neg q (Ev.bind (ev_const e0) e)
  cases on with
  | true =>
    have hid : id ∉ c := by simpa using hon
    have hgt : ∀ q : Nat, p ≤ q → q < c.length → id < rd c q := fun q h3 h4 => by
      have := q2 q h3 h4
      have : rd c q ≠ id := fun e => hid ((mem_rd c id).2 ⟨q, h4, e⟩)
      omega
    obtain ⟨w1, w2⟩ := ins_pw hs q1 hgt
    obtain ⟨c1, hc1⟩ : ∃ c1, c1 = c.take p ++ [id] ++ c.drop p := ⟨_, rfl⟩
    have hins : slices_Insert_int_int.f c p [id] = some c1 := by
      unfold slices_Insert_int_int.f
      rw [if_pos ⟨by omega, by omega, rfl, by omega⟩, toNat_cast, hc1]
    have hlen1 : c1.length = c.length + 1 := by rw [hc1]; simp; omega
    by_cases hr : 0 ≤ id ∧ id ≤ 99
    · have hv : votM c [id] 100 = c1 := by
        refine strict_eq _ _ (votM_sorted _ _ _) (by rw [hc1]; exact w1) fun x => ?_
        rw [votM_mem, hc1, w2, List.mem_singleton]
        constructor
        · rintro ⟨_, _, h⟩; exact h
        · intro h
          rcases h with h | h
          · have := ids_range hI h; exact ⟨by omega, by omega, .inl h⟩
          · exact ⟨by omega, by omega, .inr h⟩
      obtain ⟨c', ok, m1, m2, m3⟩ := main c1 (by omega) (fun e => by rw [e] at hlen1; omega)
      refine ⟨c', ok, m1, ii c' ok c1 (by rw [if_pos rfl]; exact hins) m2, si c' ok (ev_pos rfl ?_)⟩
      have := learn_l a b c a b hc id 100 0 (by omega) _ (by rw [hv]; exact m3)
      exact this
    · refine ⟨c, false, hc, ii c false c1 (by rw [if_pos rfl]; exact hins) ?_, si c false (ev_pos rfl ?_)⟩
      · obtain ⟨r1, g1, g2, g3⟩ := isConf_ev a b c1 ha hb (by omega)
        have e : ¬ r1 = true := fun q => hr (ids_range (g3.1 q).2.2.2.1 (by rw [hc1, w2]; exact .inr rfl))
        refine Ev.step (fun k => by rw [impl_learner.j1]) ?_
        exact Ev.bind g1 (ev_neg e (Ev.bind (ev_const hcp) (Ev.now _)))
      · have hx : Ev (fun k => spec_Learner.j2 k a b c a b (votM c [id] 100)) (a, b, c, false) := by
          rw [vot_self hI hr]
          obtain ⟨b1, _, b2, b3⟩ := same_ev c c hc hc
          refine Ev.step (fun k => by rw [spec_Learner.j2]) ?_
          exact Ev.bind h2 (ev_pos h (Ev.bind b2 (ev_pos (b3.2 rfl) (Ev.bind hsc (Ev.now _)))))
        exact learn_l a b c a b hc id 100 0 (by omega) _ hx
  | false =>
    have hid : id ∈ c := by simpa using hon
    obtain ⟨g1, g2⟩ := t2 hid
    have hdel : slices_Delete_int_int.f c p (wrap64 ((p : Int) + 1)) = some (c.eraseIdx p) := by
      unfold slices_Delete_int_int.f
      rw [wsucc (n := c.length) g1 (by omega), if_pos ⟨by omega, by omega, by omega⟩, toNat_cast]
    have he := erase_eq hs g1 g2
    have hlen := List.length_eraseIdx_of_lt g1
    obtain ⟨c', ok, m1, m2, m3⟩ := main (c.eraseIdx p) (by omega) (fun e => by rw [e] at hlen; omega)
    exact ⟨c', ok, m1, ii c' ok _ (by rw [if_neg (by simp)]; exact hdel) m2, si c' ok (ev_neg (by simp) (by rw [← he]; exact m3))⟩
theorem markHeld_ev (a b c : List Int) (ha : a.length ≤ 1048576) (hb : b.length ≤ 1048576) (hc : c.length ≤ 1048576) (m : Int) (h0 : 0 ≤ m) (h1 : m ≤ 1152921504606846976) : ∃ x y z, Ev (fun k => laws_markConf.f k a b c m) (m + a.length + b.length + c.length, x, y, z) ∧ Ev (fun k => laws_heldConf.f k x y z m) (m + a.length + b.length + c.length) := by
  obtain ⟨x, hx, _, kx⟩ := markI_ev a ha m h0 (by omega)
  obtain ⟨y, hy, _, ky⟩ := markI_ev b hb (m + a.length) (by omega) (by omega)
  obtain ⟨z, hz, _, kz⟩ := markI_ev c hc (m + a.length + b.length) (by omega) (by omega)
  exact ⟨x, y, z, Ev.bind hx (Ev.bind hy (Ev.bind hz (Ev.now _))), Ev.bind kx (ev_neg (by omega) (Ev.bind ky (ev_neg (by omega) (Ev.bind kz (ev_neg (by omega) (Ev.now _))))))⟩
theorem ids_of {l : List Int} (h : l.Pairwise (· < ·)) (hr : ∀ x ∈ l, 0 ≤ x ∧ x ≤ 99) (hl : l.length ≤ 7) : IdsP l := by
  refine ⟨fun j hj => ?_, hl⟩
  have e : ∀ q : Nat, (hq : q < l.length) → rd l (q : Nat) = l[q] := fun q hq => by unfold rd; rw [toNat_cast, getD_lt l q 0 hq]
  have := hr (rd l (j : Nat)) (by rw [e j hj]; exact List.getElem_mem _)
  refine ⟨this.1, this.2, fun h0 => ?_⟩
  rw [e j hj, e (j - 1) (by omega)]
  exact (List.pairwise_iff_getElem.1 h) (j - 1) j (by omega) hj (by omega)
theorem ids_nil : IdsP [] := ⟨fun j h => absurd h (by simp), by simp⟩
theorem ids_filter {l : List Int} (h : IdsP l) (p : Int → Bool) (hp : l.Pairwise (· < ·)) : IdsP (l.filter p) := by
  refine ids_of (hp.sublist List.filter_sublist) (fun x hx => ids_range h ((List.mem_filter.1 hx).1)) ?_
  have := List.length_filter_le p l
  have := h.2
  omega
theorem ids_pw {l : List Int} (h : IdsP l) : l.Pairwise (· < ·) := by
  have s : ∀ j i : Nat, i < j → j < l.length → rd l (i : Nat) < rd l (j : Nat) := by
    intro j
    induction j with
    | zero => intro i h1; omega
    | succ j ih =>
      intro i hij hj
      have := (h.1 (j + 1) hj).2.2 (by omega)
      rw [Nat.add_sub_cancel] at this
      by_cases e : i = j
      · subst e; exact this
      · have := ih i (by omega) (by omega); omega
  rw [List.pairwise_iff_getElem]
  intro i j hi hj hij
  have := s j i hij hj
  unfold rd at this
  rwa [toNat_cast, toNat_cast, getD_lt l i 0 hi, getD_lt l j 0 hj] at this
theorem specBegin_ev (a b c w : List Int) (h : ConfP a b c) (hw : w.length ≤ 1048576) : (b = [] ∧ IdsP w ∧ 0 < w.length ∧ a ≠ w → Ev (fun k => spec_Begin.f k a b c w) (a, w, c.filter (fun x => !decide (x ∈ w)), true) ∧ ConfP a w (c.filter (fun x => !decide (x ∈ w)))) ∧ (¬ (b = [] ∧ IdsP w ∧ 0 < w.length ∧ a ≠ w) → Ev (fun k => spec_Begin.f k a b c w) (a, b, c, false)) := by
  obtain ⟨pa, pa0, pb, pc, pab, pd⟩ := id h
  have la := pa.2
  have lb := pb.2
  have lc := pc.2
  obtain ⟨r, _, h2, h3⟩ := isConf_ev a b c (by omega) (by omega) (by omega)
  have hsc := l06Copy_ev a b c (by omega) (by omega) (by omega)
  have hl6 := l06Less_ev c w (by omega) hw
  obtain ⟨iw, _, iw2, iw3⟩ := ids_ev w hw
  obtain ⟨q, _, q2, q3⟩ := same_ev a w (by omega) hw
  have ht : ∀ x : Bool, x = true → Ev (fun k => spec_Begin.j0 k w x a b c) (a, b, c, false) := fun x hx => by
    refine Ev.step (fun k => by rw [spec_Begin.j0]) ?_
    exact ev_pos hx (Ev.bind hsc (Ev.now _))
  refine ⟨fun ⟨e0, e1, e2, e3⟩ => ⟨?_, ?_⟩, fun hn => ?_⟩
  · unfold spec_Begin.f
    refine Ev.bind h2 (ev_pos (h3.2 h) (ev_neg (by rw [e0]; simp) (Ev.bind (a := true) ?_ (ev_pos rfl (Ev.bind q2 ?_)))))
    · unfold spec_l06Set.f
      refine Ev.bind iw2 (ev_pos (iw3.2 e1) ?_)
      rw [decide_eq_true (show (w.length : Int) > 0 by omega)]
      exact Ev.now _
    · refine Ev.step (fun k => by rw [spec_Begin.j0]) ?_
      exact ev_neg (fun z => e3 (q3.1 z)) (Ev.bind (l01Copy_ev a (by omega)) (Ev.bind (l01Copy_ev w hw) (Ev.bind hl6 (Ev.now _))))
  · refine ⟨pa, pa0, e1, ids_filter pc _ (ids_pw pc), e3, fun x hx => ?_⟩
    rw [List.mem_filter] at hx
    exact ⟨(pd x hx.1).1, by simpa using hx.2⟩
  · unfold spec_Begin.f
    refine Ev.bind h2 (ev_pos (h3.2 h) ?_)
    by_cases e0 : (b.length : Int) > 0
    · exact ev_pos e0 (ht _ rfl)
    refine ev_neg e0 ?_
    have e0' : b = [] := List.eq_nil_of_length_eq_zero (by omega)
    by_cases e1 : iw = true
    rotate_left
    · refine Ev.bind (a := false) ?_ (ev_neg (by simp) (ht _ rfl))
      unfold spec_l06Set.f
      exact Ev.bind iw2 (ev_neg e1 (Ev.now _))
    have hset : Ev (fun k => spec_l06Set.f k w) (decide ((w.length : Int) > 0)) := by
      unfold spec_l06Set.f
      exact Ev.bind iw2 (ev_pos e1 (Ev.now _))
    by_cases e2 : 0 < w.length
    rotate_left
    · exact Ev.bind hset (ev_neg (by rw [decide_eq_false (by omega)]; simp) (ht _ rfl))
    refine Ev.bind hset (ev_pos (decide_eq_true (by omega)) (Ev.bind q2 (ht _ ?_)))
    exact q3.2 (Classical.byContradiction fun z => hn ⟨e0', iw3.1 e1, e2, z⟩)
theorem specFinish_ev (a b c : List Int) (h : ConfP a b c) : (0 < b.length → Ev (fun k => spec_Finish.f k a b c) (b, [], c, true) ∧ ConfP b [] c) ∧ (b = [] → Ev (fun k => spec_Finish.f k a b c) (a, b, c, false)) := by
  obtain ⟨pa, pa0, pb, pc, pab, pd⟩ := id h
  have la := pa.2
  have lb := pb.2
  have lc := pc.2
  obtain ⟨r, _, h2, h3⟩ := isConf_ev a b c (by omega) (by omega) (by omega)
  have hsc := l06Copy_ev a b c (by omega) (by omega) (by omega)
  unfold spec_Finish.f
  refine ⟨fun h0 => ⟨?_, ?_⟩, fun h0 => ?_⟩
  · refine Ev.bind h2 (ev_pos (h3.2 h) ?_)
    refine Ev.step (fun k => by rw [spec_Finish.j0]) ?_
    refine ev_neg (by rw [show ((b.length : Int) == 0) = false by rw [beq_eq_false_iff_ne]; omega]; simp) ?_
    exact Ev.bind (l01Copy_ev b (by omega)) (Ev.bind (l01Copy_ev c (by omega)) (Ev.now _))
  · exact ⟨pb, h0, ids_nil, pc, fun e => by rw [e] at h0; simp at h0, fun x hx => ⟨(pd x hx).2, by simp⟩⟩
  · refine Ev.bind h2 (ev_pos (h3.2 h) ?_)
    refine Ev.step (fun k => by rw [spec_Finish.j0]) ?_
    exact ev_pos (by rw [h0]; rfl) (Ev.bind hsc (Ev.now _))
theorem beginI_ev {a b c w : List Int} (h : ConfP a b c) (lw : w.length ≤ 1048576) : ((b = [] ∧ IdsP w ∧ 0 < w.length ∧ a ≠ w) → Ev (fun k => impl_begin.f k a b c w) (a, w, c.filter (fun x => !decide (x ∈ w)), true)) ∧ (¬ (b = [] ∧ IdsP w ∧ 0 < w.length ∧ a ≠ w) → Ev (fun k => impl_begin.f k a b c w) (a, b, c, false)) := by
  obtain ⟨pa, pa0, pb, pc, pab, pd⟩ := id h
  have la := pa.2
  have lb := pb.2
  have lc := pc.2
  obtain ⟨r0, hk0, _, hk1⟩ := isConf_ev a b c (by omega) (by omega) (by omega)
  have hk : Ev (fun k => impl_isConf.f k a b c) true := by rw [hk1.2 h] at hk0; exact hk0
  have hcp := copyConf_e a b c (by omega) (by omega) (by omega)
  have lf := List.length_filter_le (fun x => !decide (x ∈ w)) c
  obtain ⟨r, r1, _, r3⟩ := isConf_ev a w (c.filter (fun x => !decide (x ∈ w))) (by omega) (by omega) (by omega)
  have hdf : slices_DeleteFunc_int_int.f c w = some (c.filter (fun x => !decide (x ∈ w))) := by
    unfold slices_DeleteFunc_int_int.f slices_DeleteFunc_int_int.p
    rfl
  unfold impl_begin.f
  by_cases hb : (b.length : Int) > 0
  · refine ⟨fun q => by rw [q.1] at hb; simp at hb, fun _ => Ev.bind (ev_const hcp) (Ev.bind hk (ev_pos rfl (ev_pos hb ?_)))⟩
    refine Ev.step (fun k => by rw [impl_begin.j0]) ?_
    exact ev_pos rfl (Ev.now _)
  have hb0 : b = [] := List.eq_nil_of_length_eq_zero (by omega)
  by_cases h0 : w.length = 0
  · refine ⟨fun q => by have := q.2.2.1; omega, fun _ => Ev.bind (ev_const hcp) (Ev.bind hk (ev_pos rfl (ev_neg hb ?_)))⟩
    refine Ev.step (fun k => by rw [impl_begin.j0]) ?_
    exact ev_pos (by rw [h0]; rfl) (Ev.now _)
  have hz : ((w.length : Int) == 0) = false := beq_false_of_ne (by omega)
  have hr : r = true ↔ IdsP w ∧ a ≠ w := r3.trans ⟨fun q => ⟨q.2.2.1, q.2.2.2.2.1⟩, fun q => ⟨pa, pa0, q.1, ids_filter pc _ (ids_pw pc), q.2, fun x hx => by
    rw [List.mem_filter] at hx
    exact ⟨(pd x hx.1).1, by simpa using hx.2⟩⟩⟩
  refine ⟨fun q => Ev.bind (ev_const hcp) (Ev.bind hk (ev_pos rfl (ev_neg hb ?_))), fun q => Ev.bind (ev_const hcp) (Ev.bind hk (ev_pos rfl (ev_neg hb ?_)))⟩
  · refine Ev.step (fun k => by rw [impl_begin.j0]) ?_
    refine ev_neg (by rw [hz]; simp) (Ev.bind (Ev.now _) (ev_pos (by simp; omega) (Ev.bind (Ev.now _) ?_)))
    rw [List.nil_append]
    exact Ev.bind (ev_const hdf) (Ev.bind r1 (ev_pos (hr.2 ⟨q.2.1, q.2.2.2⟩) (Ev.now _)))
  · refine Ev.step (fun k => by rw [impl_begin.j0]) ?_
    refine ev_neg (by rw [hz]; simp) (Ev.bind (Ev.now _) (ev_pos (by simp; omega) (Ev.bind (Ev.now _) ?_)))
    rw [List.nil_append]
    exact Ev.bind (ev_const hdf) (Ev.bind r1 (ev_neg (fun z => q ⟨hb0, (hr.1 z).1, by omega, (hr.1 z).2⟩) (Ev.bind (ev_const hcp) (Ev.now _))))
theorem begin_b {a b c w : List Int} (h : ConfP a b c) (lw : w.length ≤ 1048576) : ∃ a' b' c' ok, Ev (fun k => impl_begin.f k a b c w) (a', b', c', ok) ∧ Ev (fun k => spec_Begin.f k a b c w) (a', b', c', ok) ∧ ConfP a' b' c' := by
  obtain ⟨i1, i2⟩ := beginI_ev h lw
  obtain ⟨s1, s2⟩ := specBegin_ev a b c w h lw
  by_cases q : b = [] ∧ IdsP w ∧ 0 < w.length ∧ a ≠ w
  · exact ⟨_, _, _, _, i1 q, (s1 q).1, (s1 q).2⟩
  · exact ⟨_, _, _, _, i2 q, s2 q, h⟩
theorem finish_b {a b c : List Int} (h : ConfP a b c) : ∃ a' b' c' ok, Ev (fun k => impl_finish.f k a b c) (a', b', c', ok) ∧ Ev (fun k => spec_Finish.f k a b c) (a', b', c', ok) ∧ ConfP a' b' c' := by
  obtain ⟨pa, pa0, pb, pc, pab, pd⟩ := id h
  have la := pa.2
  have lb := pb.2
  have lc := pc.2
  obtain ⟨r0, hk0, _, hk1⟩ := isConf_ev a b c (by omega) (by omega) (by omega)
  have hk : Ev (fun k => impl_isConf.f k a b c) true := by rw [hk1.2 h] at hk0; exact hk0
  have hcp := copyConf_e a b c (by omega) (by omega) (by omega)
  obtain ⟨s1, s2⟩ := specFinish_ev a b c h
  by_cases q : 0 < b.length
  · refine ⟨_, _, _, _, ?_, (s1 q).1, (s1 q).2⟩
    unfold impl_finish.f
    exact Ev.bind (ev_const hcp) (Ev.bind hk (ev_pos rfl (ev_neg (by omega) (Ev.now _))))
  · refine ⟨_, _, _, _, ?_, s2 (List.eq_nil_of_length_eq_zero (by omega)), h⟩
    unfold impl_finish.f
    exact Ev.bind (ev_const hcp) (Ev.bind hk (ev_pos rfl (ev_pos (by omega) (Ev.now _))))
theorem learn_b {a b c : List Int} (h : ConfP a b c) (x : Int) (on : Bool) : ∃ a' b' c' ok, Ev (fun k => impl_learner.f k a b c x on) (a', b', c', ok) ∧ Ev (fun k => spec_Learner.f k a b c x on) (a', b', c', ok) ∧ ConfP a' b' c' := by
  obtain ⟨pa, pa0, pb, pc, pab, pd⟩ := id h
  have la := pa.2
  have lb := pb.2
  have lc := pc.2
  obtain ⟨c1, o1, _, e1, e2⟩ := learn_ev a b c (by omega) (by omega) (by omega) x on
  obtain ⟨c2, o2, e3, e4, _⟩ := specLearn_ev a b c h x on
  have e := ev_eq e2 e3
  injection e with _ e; injection e with _ e; injection e with e e'
  subst e
  exact ⟨_, _, _, _, e1, e2, e4⟩
theorem play_l (ops : List S77) (hops : ops.length ≤ 100) (hw : ∀ x ∈ ops, x.f2.length ≤ 1048576) (d : Nat) : ∀ (i : Nat) (told : List Bool) (a b c : List Int), ops.length = i + d → told.length = i → ConfP a b c → ∃ a' b' c' t', Ev (fun k => impl_PlayConf.l0 k told ops (ops.length : Int) i a b c) (a', b', c', t') ∧ Ev (fun k => spec_PlayConf.l0 k ops told i a b c) (a', b', c', t') ∧ ConfP a' b' c' ∧ t'.length ≤ 100 := by
  induction d with
  | zero =>
    intro i told a b c hd ht h
    refine ⟨a, b, c, told, ?_, ?_, h, by omega⟩
    · refine Ev.step (fun k => by rw [impl_PlayConf.l0]) ?_
      exact ev_neg (by omega) (Ev.now _)
    · refine Ev.step (fun k => by rw [spec_PlayConf.l0]) ?_
      exact ev_neg (by omega) (Ev.now _)
  | succ d ih =>
    intro i told a b c hd ht h
    have hi := wsucc (j := i) (n := ops.length) (by omega) (by omega)
    have hwi : (rd_T77 ops i).f2.length ≤ 1048576 := by
      unfold rd_T77
      rw [toNat_cast]
      exact hw _ (getD_mem ops i _ (by omega))
    have go : ∀ (t : Bool) (a1 b1 c1 : List Int), ConfP a1 b1 c1 → ∃ a' b' c' t', Ev (fun k => if told.length < 140737488355328 then impl_PlayConf.l0 k (told ++ [t]) ops (ops.length : Int) (wrap64 ((i : Int) + 1)) a1 b1 c1 else none) (a', b', c', t') ∧ Ev (fun k => if told.length < 140737488355328 then spec_PlayConf.l0 k ops (told ++ [t]) (wrap64 ((i : Int) + 1)) a1 b1 c1 else none) (a', b', c', t') ∧ ConfP a' b' c' ∧ t'.length ≤ 100 := fun t a1 b1 c1 h1 => by
      obtain ⟨a', b', c', t', m1, m2, m3⟩ := ih (i + 1) (told ++ [t]) a1 b1 c1 (by omega) (by simp [ht]) h1
      rw [hi]
      exact ⟨a', b', c', t', ev_pos (by omega) m1, ev_pos (by omega) m2, m3⟩
    by_cases k0 : (rd_T77 ops i).f0 = 0
    · obtain ⟨a1, b1, c1, ok, e1, e2, e3⟩ := begin_b h hwi
      obtain ⟨a', b', c', t', m1, m2, m3⟩ := go ok _ _ _ e3
      refine ⟨a', b', c', t', ?_, ?_, m3⟩
      · refine Ev.step (fun k => by rw [impl_PlayConf.l0]) ?_
        exact ev_pos (by omega) (ev_pos (by omega) (ev_pos (by omega) (ev_pos k0 (Ev.bind e1 m1))))
      · refine Ev.step (fun k => by rw [spec_PlayConf.l0]) ?_
        exact ev_pos (by omega) (ev_pos (by omega) (ev_pos k0 (Ev.bind e2 m2)))
    by_cases k1 : (rd_T77 ops i).f0 = 1
    · obtain ⟨a1, b1, c1, ok, e1, e2, e3⟩ := finish_b h
      obtain ⟨a', b', c', t', m1, m2, m3⟩ := go ok _ _ _ e3
      refine ⟨a', b', c', t', ?_, ?_, m3⟩
      · refine Ev.step (fun k => by rw [impl_PlayConf.l0]) ?_
        exact ev_pos (by omega) (ev_pos (by omega) (ev_pos (by omega) (ev_neg k0 (ev_pos k1 (Ev.bind e1 m1)))))
      · refine Ev.step (fun k => by rw [spec_PlayConf.l0]) ?_
        exact ev_pos (by omega) (ev_pos (by omega) (ev_neg k0 (ev_pos k1 (Ev.bind e2 m2))))
    by_cases k2 : (rd_T77 ops i).f0 = 2
    · obtain ⟨a1, b1, c1, ok, e1, e2, e3⟩ := learn_b h (rd_T77 ops i).f1 true
      obtain ⟨a', b', c', t', m1, m2, m3⟩ := go ok _ _ _ e3
      have hb : ((rd_T77 ops i).f0 == 2) = true := beq_iff_eq.mpr k2
      refine ⟨a', b', c', t', ?_, ?_, m3⟩
      · refine Ev.step (fun k => by rw [impl_PlayConf.l0]) ?_
        rw [hb]
        exact ev_pos (by omega) (ev_pos (by omega) (ev_pos (by omega) (ev_neg k0 (ev_neg k1 (ev_pos k2 (Ev.bind e1 m1))))))
      · refine Ev.step (fun k => by rw [spec_PlayConf.l0]) ?_
        exact ev_pos (by omega) (ev_pos (by omega) (ev_neg k0 (ev_neg k1 (ev_pos k2 (Ev.bind e2 m2)))))
    by_cases k3 : (rd_T77 ops i).f0 = 3
    · obtain ⟨a1, b1, c1, ok, e1, e2, e3⟩ := learn_b h (rd_T77 ops i).f1 false
      obtain ⟨a', b', c', t', m1, m2, m3⟩ := go ok _ _ _ e3
      have hb : ((rd_T77 ops i).f0 == 2) = false := beq_eq_false_iff_ne.mpr k2
      refine ⟨a', b', c', t', ?_, ?_, m3⟩
      · refine Ev.step (fun k => by rw [impl_PlayConf.l0]) ?_
        rw [hb]
        exact ev_pos (by omega) (ev_pos (by omega) (ev_pos (by omega) (ev_neg k0 (ev_neg k1 (ev_neg k2 (ev_pos k3 (Ev.bind e1 m1)))))))
      · refine Ev.step (fun k => by rw [spec_PlayConf.l0]) ?_
        exact ev_pos (by omega) (ev_pos (by omega) (ev_neg k0 (ev_neg k1 (ev_neg k2 (ev_pos k3 (Ev.bind e2 m2))))))
    · obtain ⟨a', b', c', t', m1, m2, m3⟩ := go false _ _ _ h
      refine ⟨a', b', c', t', ?_, ?_, m3⟩
      · refine Ev.step (fun k => by rw [impl_PlayConf.l0]) ?_
        exact ev_pos (by omega) (ev_pos (by omega) (ev_pos (by omega) (ev_neg k0 (ev_neg k1 (ev_neg k2 (ev_neg k3 m1))))))
      · refine Ev.step (fun k => by rw [spec_PlayConf.l0]) ?_
        exact ev_pos (by omega) (ev_pos (by omega) (ev_neg k0 (ev_neg k1 (ev_neg k2 (ev_neg k3 m2)))))
theorem play_ev (a b c : List Int) (ha : a.length ≤ 1048576) (hb : b.length ≤ 1048576) (hc : c.length ≤ 1048576) (ops : List S77) (hops : ops.length ≤ 1048576) (hw : ∀ x ∈ ops, x.f2.length ≤ 1048576) : ∃ a' b' c' t', Ev (fun k => impl_PlayConf.f k a b c ops) (a', b', c', t') ∧ Ev (fun k => spec_PlayConf.f k a b c ops) (a', b', c', t') ∧ a'.length ≤ 1048576 ∧ b'.length ≤ 1048576 ∧ c'.length ≤ 1048576 ∧ t'.length ≤ 100 := by
  obtain ⟨r, h1, h2, h3⟩ := isConf_ev a b c ha hb hc
  have hcp := copyConf_e a b c ha hb hc
  have hsc := l06Copy_ev a b c ha hb hc
  have i0 : ∀ x : Bool, x = true → Ev (fun k => impl_PlayConf.j0 k ops x a b c) (a, b, c, []) := fun x hx => by
    refine Ev.step (fun k => by rw [impl_PlayConf.j0]) ?_
    exact ev_pos hx (Ev.bind (ev_const hcp) (Ev.now _))
  have s0 : ∀ x : Bool, x = true → Ev (fun k => spec_PlayConf.j0 k ops x a b c) (a, b, c, []) := fun x hx => by
    refine Ev.step (fun k => by rw [spec_PlayConf.j0]) ?_
    exact ev_pos hx (Ev.bind hsc (Ev.now _))
  unfold impl_PlayConf.f spec_PlayConf.f
  by_cases h : r = true
  rotate_left
  · exact ⟨a, b, c, [], Ev.bind h1 (ev_neg h (i0 _ rfl)), Ev.bind h2 (ev_neg h (s0 _ rfl)), ha, hb, hc, by simp⟩
  by_cases hl : (ops.length : Int) > 100
  · exact ⟨a, b, c, [], Ev.bind h1 (ev_pos h (i0 _ (decide_eq_true hl))), Ev.bind h2 (ev_pos h (s0 _ (decide_eq_true hl))), ha, hb, hc, by simp⟩
  obtain ⟨a', b', c', t', m1, m2, m3, m4⟩ := play_l ops (by omega) hw ops.length 0 [] a b c (by omega) rfl (h3.1 h)
  have l1 := m3.1.2
  have l2 := m3.2.2.1.2
  have l3 := m3.2.2.2.1.2
  refine ⟨a', b', c', t', Ev.bind h1 (ev_pos h ?_), Ev.bind h2 (ev_pos h ?_), by omega, by omega, by omega, m4⟩
  · refine Ev.step (fun k => by rw [impl_PlayConf.j0]) ?_
    exact ev_neg (by rw [decide_eq_false hl]; simp) (Ev.bind (ev_const hcp) m1)
  · refine Ev.step (fun k => by rw [spec_PlayConf.j0]) ?_
    exact ev_neg (by rw [decide_eq_false hl]; simp) (Ev.bind hsc m2)
def convO (x : S76) : S77 := ⟨x.f0, x.f1, x.f2⟩
theorem dropO (l : List S76) (i : Nat) (hi : i < l.length) : l.drop i = rd_T76 l i :: l.drop (i + 1) := by
  rw [List.drop_eq_getElem_cons hi]; unfold rd_T76; rw [toNat_cast, getD_lt l i _ hi]
theorem szOps_l (l : List S76) (hl : l.length ≤ 1048576) (hw : ∀ x ∈ l, x.f2.length ≤ 9223372036854775807) (d : Nat) : ∀ (i : Nat) (a : Int), l.length = i + d → 0 ≤ a → a ≤ 1048576 → ∃ r, Ev (fun k => laws_szConfOpS.l0 k l a i) r ∧ r ≤ 1048576 ∧ (¬ r < 0 → ∀ x ∈ l.drop i, x.f2.length ≤ 1048576) := by
  induction d with
  | zero =>
    intro i a hd h0 h1
    refine ⟨a, ?_, h1, fun _ x hx => by rw [List.drop_of_length_le (by omega)] at hx; simp at hx⟩
    refine Ev.step (fun k => by rw [laws_szConfOpS.l0]) ?_
    exact ev_neg (by omega) (Ev.now _)
  | succ d ih =>
    intro i a hd h0 h1
    have hx : (rd_T76 l i).f2.length ≤ 9223372036854775807 := by
      unfold rd_T76
      rw [toNat_cast]
      exact hw _ (getD_mem l i _ (by omega))
    have e := szIntS_e (rd_T76 l i).f2 hx a h0 h1
    by_cases q : ((rd_T76 l i).f2.length : Int) ≤ a
    · rw [if_pos q] at e
      have hs : laws_szConfOp.f (rd_T76 l i).f0 (rd_T76 l i).f1 (rd_T76 l i).f2 a = some (a - (rd_T76 l i).f2.length) := by
        unfold laws_szConfOp.f
        rw [e, Option.bind_some, if_neg (by omega)]
      obtain ⟨r, hr, r1, r2⟩ := ih (i + 1) (a - (rd_T76 l i).f2.length) (by omega) (by omega) (by omega)
      refine ⟨r, ?_, r1, fun h x hx => ?_⟩
      · refine Ev.step (fun k => by rw [laws_szConfOpS.l0]) ?_
        rw [wsucc (n := l.length) (by omega) (by omega)]
        exact ev_pos (by omega) (ev_pos (by omega) (Ev.bind (ev_const hs) (ev_neg (by omega) hr)))
      · rw [dropO l i (by omega)] at hx
        rcases List.mem_cons.1 hx with e | hx
        · rw [e]; omega
        · exact r2 h x hx
    · rw [if_neg q] at e
      have hs : laws_szConfOp.f (rd_T76 l i).f0 (rd_T76 l i).f1 (rd_T76 l i).f2 a = some (-1) := by
        unfold laws_szConfOp.f
        rw [e, Option.bind_some, if_pos (by omega)]
      refine ⟨-1, ?_, by omega, fun h => absurd (show (-1 : Int) < 0 by omega) h⟩
      refine Ev.step (fun k => by rw [laws_szConfOpS.l0]) ?_
      exact ev_pos (by omega) (ev_pos (by omega) (Ev.bind (ev_const hs) (ev_pos (by omega) (Ev.now _))))
theorem szOps_ev (l : List S76) (hl : l.length ≤ 9223372036854775807) (hw : ∀ x ∈ l, x.f2.length ≤ 9223372036854775807) (a : Int) (h0 : 0 ≤ a) (h1 : a ≤ 1048576) : ∃ r, Ev (fun k => laws_szConfOpS.f k l a) r ∧ (¬ r < 0 → l.length ≤ 1048576 ∧ ∀ x ∈ l, x.f2.length ≤ 1048576) := by
  unfold laws_szConfOpS.f
  rw [w64 (x := a - l.length) (by omega) (by omega)]
  by_cases h : (l.length : Int) ≤ a
  · obtain ⟨r, hr, _, hr1⟩ := szOps_l l (by omega) hw l.length 0 (a - l.length) (by omega) (by omega) (by omega)
    exact ⟨r, ev_neg (by omega) hr, fun q => ⟨by omega, by have := hr1 q; rwa [List.drop_zero] at this⟩⟩
  · exact ⟨-1, ev_pos (by omega) (Ev.now _), fun q => absurd (show (-1 : Int) < 0 by omega) q⟩
theorem toOps_l (l : List S76) (hl : l.length ≤ 1048576) (ho : ∀ x ∈ l, x.f2.length ≤ 1048576) (d : Nat) : ∀ (i : Nat) (m : List S77), l.length = i + d → m.length = l.length → m.take i = (l.map convO).take i → Ev (fun k => laws_toConfOpS.l0 k l m i) (l.map convO) := by
  induction d with
  | zero =>
    intro i m hd hm ht
    have : m = l.map convO := by
      rw [List.take_of_length_le (by omega), List.take_of_length_le (by simp; omega)] at ht
      exact ht
    subst this
    refine Ev.step (fun k => by rw [laws_toConfOpS.l0]) ?_
    exact ev_neg (by omega) (Ev.now _)
  | succ d ih =>
    intro i m hd hm ht
    have hx : (rd_T76 l i).f2.length ≤ 1048576 := by
      unfold rd_T76
      rw [toNat_cast]
      exact ho _ (getD_mem l i _ (by omega))
    refine Ev.step (fun k => by rw [laws_toConfOpS.l0]) ?_
    refine ev_pos (by omega) (ev_pos (by omega) (Ev.bind (a := ((rd_T76 l i).f0, (rd_T76 l i).f1, (rd_T76 l i).f2)) (Ev.bind (toIntS_ev _ hx) (Ev.now _)) (ev_pos (by omega) ?_)))
    rw [wsucc (n := l.length) (by omega) (by omega), toNat_cast]
    refine ih (i + 1) _ (by omega) (by simpa using hm) ?_
    rw [take_set_succ m i _ (by omega), ht, List.take_succ_eq_append_getElem (show i < (l.map convO).length by simp; omega), List.getElem_map]
    congr 2
    unfold rd_T76
    rw [toNat_cast, getD_lt l i _ (by omega)]
    rfl
theorem toOps_ev (l : List S76) (hl : l.length ≤ 1048576) (ho : ∀ x ∈ l, x.f2.length ≤ 1048576) : Ev (fun k => laws_toConfOpS.f k l) (l.map convO) := by
  unfold laws_toConfOpS.f
  refine ev_pos (by omega) (ev_pos (by rw [toNat_cast]; omega) ?_)
  exact toOps_l l hl ho l.length 0 _ (by omega) (by simp) (by simp)
theorem eqOps_l (l : List S77) (hl : l.length ≤ 1048576) (ho : ∀ x ∈ l, x.f2.length ≤ 1048576) (d : Nat) : ∀ (i : Nat), l.length = i + d → Ev (fun k => laws_eqConfOpS.l0 k l l i) true := by
  induction d with
  | zero =>
    intro i hd
    refine Ev.step (fun k => by rw [laws_eqConfOpS.l0]) ?_
    exact ev_neg (by omega) (Ev.now _)
  | succ d ih =>
    intro i hd
    have hx : (rd_T77 l i).f2.length ≤ 1048576 := by
      unfold rd_T77
      rw [toNat_cast]
      exact ho _ (getD_mem l i _ (by omega))
    refine Ev.step (fun k => by rw [laws_eqConfOpS.l0]) ?_
    rw [wsucc (n := l.length) (by omega) (by omega)]
    exact ev_pos (by omega) (ev_pos (by omega) (ev_pos (by omega) (Ev.bind (a := true) (ev_pos rfl (ev_pos rfl (Ev.bind (eqIntS_ev _ hx) (ev_pos rfl (Ev.now _))))) (ev_pos rfl (ih (i + 1) (by omega))))))
theorem eqOps_ev (l : List S77) (hl : l.length ≤ 1048576) (ho : ∀ x ∈ l, x.f2.length ≤ 1048576) : Ev (fun k => laws_eqConfOpS.f k l l) true := by
  unfold laws_eqConfOpS.f
  exact ev_pos rfl (eqOps_l l hl ho l.length 0 (by omega))
theorem rdO_self (xs : List S77) (i : Nat) (v : S77) (h : i < xs.length) : rd_T77 (xs.set i v) (i : Int) = v := by
  unfold rd_T77
  rw [toNat_cast, getD_lt _ _ _ (by simpa using h), List.getElem_set_self]
theorem markOps_l (d : Nat) : ∀ (i : Nat) (xs : List S77) (c : Int), xs.length = i + d → xs.length ≤ 1048576 → (∀ x ∈ xs, x.f2.length ≤ 1048576) → 0 ≤ c → c ≤ 4194304 + 1048578 * (i : Int) → ∃ m ys, Ev (fun k => laws_markConfOpS.l0 k xs c i) (m, ys) ∧ 0 ≤ m := by
  induction d with
  | zero =>
    intro i xs c hd hl hw h0 h1
    refine ⟨c, xs, ?_, h0⟩
    refine Ev.step (fun k => by rw [laws_markConfOpS.l0]) ?_
    exact ev_neg (by omega) (Ev.now _)
  | succ d ih =>
    intro i xs c hd hl hw h0 h1
    have e1 : wrap64 (c + 1) = c + 1 := w64 (by omega) (by omega)
    have e2 : wrap64 (c + 1 + 1) = c + 2 := by rw [w64 (by omega) (by omega)]; omega
    have hx : (rd_T77 xs i).f2.length ≤ 1048576 := by
      unfold rd_T77
      rw [toNat_cast]
      exact hw _ (getD_mem xs i _ (by omega))
    obtain ⟨ys, hm, hy, _⟩ := markI_ev (rd_T77 xs i).f2 hx (c + 2) (by omega) (by omega)
    obtain ⟨m, zs, hz, hz0⟩ := ih (i + 1) (xs.set i ⟨c, c + 1, ys⟩) (c + 2 + (rd_T77 xs i).f2.length) (by simp; omega) (by simpa using hl) (fun x hx' => by
      rcases List.mem_or_eq_of_mem_set hx' with q | q
      · exact hw x q
      · rw [q]; show ys.length ≤ _; omega) (by omega) (by omega)
    refine ⟨m, zs, ?_, hz0⟩
    refine Ev.step (fun k => by rw [laws_markConfOpS.l0]) ?_
    refine ev_pos (by omega) (ev_pos (by omega) ?_)
    rw [e1, e2]
    refine Ev.bind (Ev.now _) (Ev.bind (Ev.now _) ?_)
    rw [toNat_cast]
    simp only [List.set_set, rdO_self _ _ _ (show i < xs.length by omega), rdO_self _ _ _ (show i < (xs.set i (⟨c, (rd_T77 xs i).f1, (rd_T77 xs i).f2⟩ : S77)).length by simpa using (show i < xs.length by omega))]
    refine Ev.bind hm ?_
    rw [wsucc (n := xs.length) (by omega) (by omega)]
    exact hz
theorem markOps_ev (xs : List S77) (hl : xs.length ≤ 1048576) (hw : ∀ x ∈ xs, x.f2.length ≤ 1048576) (c : Int) (h0 : 0 ≤ c) (h1 : c ≤ 4194304) : ∃ m ys, Ev (fun k => laws_markConfOpS.f k xs c) (m, ys) ∧ 0 ≤ m := markOps_l xs.length 0 xs c (by omega) hl hw h0 (by omega)
theorem eqB_l (l : List Bool) (hl : l.length ≤ 1048576) (d : Nat) : ∀ (i : Nat), l.length = i + d → Ev (fun k => laws_eqBoolS.l0 k l l i) true := by
  induction d with
  | zero =>
    intro i hd
    refine Ev.step (fun k => by rw [laws_eqBoolS.l0]) ?_
    exact ev_neg (by omega) (Ev.now _)
  | succ d ih =>
    intro i hd
    refine Ev.step (fun k => by rw [laws_eqBoolS.l0]) ?_
    rw [wsucc (n := l.length) (by omega) (by omega)]
    exact ev_pos (by omega) (ev_pos (by omega) (ev_pos (by omega) (ev_neg (by simp) (ih (i + 1) (by omega)))))
theorem eqB_ev (l : List Bool) (hl : l.length ≤ 1048576) : Ev (fun k => laws_eqBoolS.f k l l) true := by
  unfold laws_eqBoolS.f
  exact ev_pos rfl (eqB_l l hl l.length 0 (by omega))
theorem markB_l (d : Nat) : ∀ (i : Nat) (xs : List Bool) (c : Int), xs.length = i + d → xs.length ≤ 1048576 → 0 ≤ c → c + d ≤ 4611686018427387904 →
    ∃ ys, Ev (fun k => laws_markBoolS.l0 k xs c i) (c + d, ys) ∧ ys.length = xs.length ∧ (∀ j, j < i → ys[j]? = xs[j]?) ∧ Ev (fun k => laws_heldBoolS.l0 k ys c i) (c + d) := by
  induction d with
  | zero =>
    intro i xs c hd hl h0 h1
    refine ⟨xs, ?_, rfl, fun _ _ => rfl, ?_⟩
    · refine Ev.step (fun k => by rw [laws_markBoolS.l0]) ?_
      refine ev_neg (by omega) ?_
      rw [show c + ((0 : Nat) : Int) = c by omega]
      exact Ev.now _
    · refine Ev.step (fun k => by rw [laws_heldBoolS.l0]) ?_
      refine ev_neg (by omega) ?_
      rw [show c + ((0 : Nat) : Int) = c by omega]
      exact Ev.now _
  | succ d ih =>
    intro i xs c hd hl h0 h1
    have e1 : wrap64 (c + 1) = c + 1 := w64 (by omega) (by omega)
    obtain ⟨ys, hm, hy, hk, hh⟩ := ih (i + 1) (xs.set i (Int.tmod c 3 == 0)) (c + 1) (by simp; omega) (by simpa using hl) (by omega) (by omega)
    have e2 : c + 1 + (d : Int) = c + ((d + 1 : Nat) : Int) := by omega
    rw [e2] at hm hh
    refine ⟨ys, ?_, by simpa using hy, fun j hj => ?_, ?_⟩
    · refine Ev.step (fun k => by rw [laws_markBoolS.l0]) ?_
      refine ev_pos (by omega) (ev_pos (by omega) ?_)
      rw [toNat_cast, e1, wsucc (n := xs.length) (by omega) (by omega)]
      exact hm
    · rw [hk j (by omega), List.getElem?_set_ne (by omega)]
    · have hi : rdOf false ys (i : Int) = (Int.tmod c 3 == 0) := by
        unfold rdOf
        rw [toNat_cast, List.getD_eq_getElem?_getD, hk i (by omega), List.getElem?_set_self (by omega)]
        rfl
      have hyl : ys.length = xs.length := by simpa using hy
      refine Ev.step (fun k => by rw [laws_heldBoolS.l0]) ?_
      refine ev_pos (by omega) (ev_pos (by omega) (ev_neg (by rw [hi]; simp) ?_))
      rw [e1, wsucc (n := ys.length) (by omega) (by omega)]
      exact hh
theorem markB_ev (xs : List Bool) (hl : xs.length ≤ 1048576) (c : Int) (h0 : 0 ≤ c) (h1 : c ≤ 4611686018426339328) : ∃ ys, Ev (fun k => laws_markBoolS.f k xs c) (c + xs.length, ys) ∧ Ev (fun k => laws_heldBoolS.f k ys c) (c + xs.length) := by
  obtain ⟨ys, h2, h3, _, h4⟩ := markB_l xs.length 0 xs c (by omega) hl h0 (by omega)
  exact ⟨ys, h2, h4⟩
theorem szConf_e2 (a b c : List Int) (ha : a.length ≤ 9223372036854775807) (hb : b.length ≤ 9223372036854775807) (hc : c.length ≤ 9223372036854775807) : (∃ r, r < 0 ∧ laws_szConf.f a b c 1048576 = some r) ∨ (∃ r, ¬ r < 0 ∧ r ≤ 1048576 ∧ laws_szConf.f a b c 1048576 = some r ∧ (a.length : Int) + b.length + c.length ≤ 1048576) := by
  rcases szConf_e a b c ha hb hc with h | ⟨r, h0, h1, h2, h3, h4⟩
  · exact .inl h
  refine .inr ⟨r, h0, ?_⟩
  have h := h1
  unfold laws_szConf.f at h
  rw [szIntS_e a ha 1048576 (by omega) (by omega), Option.bind_some] at h
  by_cases q1 : (a.length : Int) ≤ 1048576
  rotate_left
  · rw [if_neg q1, if_pos (by omega)] at h; injection h with h; omega
  rw [if_pos q1, if_neg (by omega), szIntS_e b hb _ (by omega) (by omega), Option.bind_some] at h
  by_cases q2 : (b.length : Int) ≤ 1048576 - a.length
  rotate_left
  · rw [if_neg q2, if_pos (by omega)] at h; injection h with h; omega
  rw [if_pos q2, if_neg (by omega), szIntS_e c hc _ (by omega) (by omega), Option.bind_some] at h
  by_cases q3 : (c.length : Int) ≤ 1048576 - a.length - b.length
  rotate_left
  · rw [if_neg q3, if_pos (by omega)] at h; injection h with h; omega
  rw [if_pos q3, if_neg (by omega)] at h
  injection h with h
  exact ⟨by omega, h1, by omega⟩
theorem FnExactPlayConf : Stated := by
  rintro ⟨a, b, c⟩ l1 ⟨⟨wa, _⟩, ⟨wb, _⟩, ⟨wc, _⟩⟩ ⟨wl, hwl⟩
  have hwl' : ∀ x ∈ l1, x.f2.length ≤ 9223372036854775807 := fun x hx => (hwl x hx).2.2.1
  refine Ev.rounds (?_ : Ev (fun k => laws_FnExactPlayConf.f k a b c l1) true)
  unfold laws_FnExactPlayConf.f
  rcases szConf_e2 a b c wa wb wc with ⟨r, hr, e⟩ | ⟨r, hr, hr1, e, hsum⟩
  · exact Ev.bind (ev_const e) (ev_pos hr (Ev.now _))
  have ha : a.length ≤ 1048576 := by omega
  have hb : b.length ≤ 1048576 := by omega
  have hc : c.length ≤ 1048576 := by omega
  obtain ⟨s, hs, hs1⟩ := szOps_ev l1 wl hwl' r (by omega) hr1
  by_cases q : s < 0
  · exact Ev.bind (ev_const e) (ev_neg hr (Ev.bind hs (ev_pos q (Ev.now _))))
  obtain ⟨hl, ho⟩ := hs1 q
  have hT := toConf_ev a b c ha hb hc
  have hO := toOps_ev l1 hl ho
  have hol : (l1.map convO).length ≤ 1048576 := by simpa using hl
  have hoo : ∀ x ∈ l1.map convO, x.f2.length ≤ 1048576 := fun x hx => by
    obtain ⟨y, hy, rfl⟩ := List.mem_map.1 hx
    exact ho y hy
  obtain ⟨a', b', c', t', hi, hsp, ka, kb, kc, kt⟩ := play_ev a b c ha hb hc (l1.map convO) hol hoo
  have hE := eqConf_ev a' b' c' ka kb kc
  have hB := eqB_ev t' (by omega)
  obtain ⟨p, q1, q2, hM⟩ := markConf_ev a b c ha hb hc 1 (by omega) (by omega)
  obtain ⟨m, ys, hm, hm0⟩ := markOps_ev (l1.map convO) hol hoo (1 + a.length + b.length + c.length) (by omega) (by omega)
  obtain ⟨x, y, z, hx, hh⟩ := markHeld_ev a' b' c' ka kb kc 1 (by omega) (by omega)
  obtain ⟨bs, hbm, hbh⟩ := markB_ev t' (by omega) (1 + a'.length + b'.length + c'.length) (by omega) (by omega)
  refine Ev.bind (ev_const e) (ev_neg hr (Ev.bind hs (ev_neg q (Ev.bind hT (Ev.bind hO (Ev.bind hsp (Ev.bind hT (Ev.bind hO (Ev.bind hi (Ev.bind hE (ev_pos rfl (Ev.bind hB (ev_pos rfl ?_)))))))))))))
  refine Ev.bind hT (Ev.bind (eqConf_ev a b c ha hb hc) (ev_pos rfl (Ev.bind hO (Ev.bind (eqOps_ev _ hol hoo) (ev_pos rfl (Ev.bind hM (Ev.bind hm (ev_neg (by show ¬ m < 0; omega) ?_))))))))
  refine Ev.bind hE (ev_pos rfl (Ev.bind hB (ev_pos rfl (Ev.bind hx (Ev.bind hbm (Ev.bind hh (ev_neg (by omega) (Ev.bind hbh (ev_neg (by omega) (ev_pos rfl ?_))))))))))
  exact Ev.bind hT (Ev.bind hO (Ev.bind hi (Ev.bind hE (ev_pos rfl (Ev.bind hB (ev_pos rfl (Ev.bind hh (ev_neg (by omega) (Ev.bind hbh (ev_neg (by omega) (ev_pos rfl (Ev.now _))))))))))))
end Go.Proofs.Ytoemdmjdpikfbaa.Pure
