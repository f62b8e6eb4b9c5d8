/- The law FnConfs answers true at every input. No condition. -/
import Derived.Test.YtoemdmjdpikfbaaOpnFnConfs
import Derived.Test.YtoemdmjdpikfbaaBase
namespace Go.Proofs.Ytoemdmjdpikfbaa.Pure
open Go.RowKit Go.Proofs.Ytoemdmjdpikfbaa.QFnConfs Go.Proofs.Ytoemdmjdpikfbaa.OpnFnConfs Go.Proofs.Ytoemdmjdpikfbaa.Base Go.Proofs.YtoemdmjdpikfbaaW.PrintWords Go.Proofs.YtoemdmjdpikfbaaW.PrintLast
set_option linter.unusedVariables false
set_option linter.unusedSimpArgs false

theorem in_eq (x a b : Int) : spec_l01In.f x a b = some (decide (a ≤ x ∧ x ≤ b)) := by
  unfold spec_l01In.f
  by_cases h : a ≤ x
  · rw [if_pos h]; congr 1; simp [h]
  · rw [if_neg h, decide_eq_false (fun q => h q.1)]

def IdsP (l : List Int) : Prop := (∀ j : Nat, j < l.length → 0 ≤ rd l j ∧ rd l j ≤ 99 ∧ (0 < j → rd l (j - 1 : Nat) < rd l j)) ∧ l.length ≤ 7
theorem ids_l (l : List Int) (hl : l.length ≤ 1048576) (d : Nat) : ∀ i : Nat, l.length = i + d → ∃ b, Ev (fun k => impl_areIds.l0 k l l (l.length : Int) i) b ∧ Ev (fun k => spec_l06Ids.l0 k l i) b ∧ (b = true ↔ (∀ j : Nat, i ≤ j → j < l.length → 0 ≤ rd l j ∧ rd l j ≤ 99 ∧ (0 < j → rd l (j - 1 : Nat) < rd l j)) ∧ l.length ≤ 7) := by
  induction d with
  | zero =>
    intro i hd
    refine ⟨decide ((l.length : Int) ≤ 7), ?_, ?_, ?_⟩
    · refine Ev.step (fun k => by rw [impl_areIds.l0]) ?_
      exact ev_neg (by omega) (Ev.now _)
    · refine Ev.step (fun k => by rw [spec_l06Ids.l0]) ?_
      exact ev_neg (by omega) (Ev.now _)
    · rw [decide_eq_true_iff]
      exact ⟨fun h => ⟨fun j h1 h2 => by omega, by omega⟩, fun h => by have := h.2; omega⟩
  | succ d ih =>
    intro i hd
    have hi := wsucc (j := i) (n := l.length) (by omega) (by omega)
    obtain ⟨b, hb1, hb2, hb⟩ := ih (i + 1) (by omega)
    have bad : (¬ (0 ≤ rd l i ∧ rd l i ≤ 99 ∧ (0 < i → rd l (i - 1 : Nat) < rd l i))) → (false = true ↔ (∀ j : Nat, i ≤ j → j < l.length → 0 ≤ rd l j ∧ rd l j ≤ 99 ∧ (0 < j → rd l (j - 1 : Nat) < rd l j)) ∧ l.length ≤ 7) := fun h => ⟨fun q => (by cases q), fun q => absurd (q.1 i (Nat.le_refl i) (by omega)) h⟩
    have good : (0 ≤ rd l i ∧ rd l i ≤ 99 ∧ (0 < i → rd l (i - 1 : Nat) < rd l i)) → (b = true ↔ (∀ j : Nat, i ≤ j → j < l.length → 0 ≤ rd l j ∧ rd l j ≤ 99 ∧ (0 < j → rd l (j - 1 : Nat) < rd l j)) ∧ l.length ≤ 7) := fun h => by
      rw [hb]
      refine ⟨fun q => ⟨fun j h1 h2 => ?_, q.2⟩, fun q => ⟨fun j h1 h2 => q.1 j (by omega) h2, q.2⟩⟩
      rcases Nat.eq_or_lt_of_le h1 with e | e
      · subst e; exact h
      · exact q.1 j e h2
    by_cases h1 : rd l i < 0
    · refine ⟨false, ?_, ?_, bad (by omega)⟩
      · refine Ev.step (fun k => by rw [impl_areIds.l0]) ?_
        exact ev_pos (by omega) (ev_pos (by omega) (ev_pos (by omega) (ev_pos h1 (Ev.now _))))
      · refine Ev.step (fun k => by rw [spec_l06Ids.l0]) ?_
        exact ev_pos (by omega) (ev_pos (by omega) (Ev.bind (ev_const (in_eq _ _ _)) (ev_neg (by simp; omega) (Ev.now _))))
    by_cases h2 : rd l i > 99
    · refine ⟨false, ?_, ?_, bad (by omega)⟩
      · refine Ev.step (fun k => by rw [impl_areIds.l0]) ?_
        exact ev_pos (by omega) (ev_pos (by omega) (ev_pos (by omega) (ev_neg h1 (ev_pos h2 (Ev.now _)))))
      · refine Ev.step (fun k => by rw [spec_l06Ids.l0]) ?_
        exact ev_pos (by omega) (ev_pos (by omega) (Ev.bind (ev_const (in_eq _ _ _)) (ev_neg (by simp; omega) (Ev.now _))))
    have hin : decide (0 ≤ rd l i ∧ rd l i ≤ 99) = true := decide_eq_true ⟨by omega, by omega⟩
    by_cases h0 : i = 0
    · subst h0
      refine ⟨b, ?_, ?_, good ⟨by omega, by omega, fun h => by omega⟩⟩
      · refine Ev.step (fun k => by rw [impl_areIds.l0]) ?_
        refine ev_pos (by omega) (ev_pos (by omega) (ev_pos (by omega) (ev_neg h1 (ev_neg h2 (ev_neg (by omega) ?_)))))
        rw [hi]; exact hb1
      · refine Ev.step (fun k => by rw [spec_l06Ids.l0]) ?_
        refine ev_pos (by omega) (ev_pos (by omega) (Ev.bind (ev_const (in_eq _ _ _)) (ev_pos hin (ev_neg (by omega) ?_))))
        rw [hi]; exact hb2
    have hp := wpred (j := i) (by omega) (by omega)
    by_cases h3 : rd l (i - 1 : Nat) ≥ rd l i
    · refine ⟨false, ?_, ?_, bad (fun q => by have := q.2.2 (by omega); omega)⟩
      · refine Ev.step (fun k => by rw [impl_areIds.l0]) ?_
        refine ev_pos (by omega) (ev_pos (by omega) (ev_pos (by omega) (ev_neg h1 (ev_neg h2 (ev_pos (by omega) ?_)))))
        rw [hp]
        exact ev_pos (by omega) (ev_pos (by omega) (ev_pos h3 (Ev.now _)))
      · refine Ev.step (fun k => by rw [spec_l06Ids.l0]) ?_
        refine ev_pos (by omega) (ev_pos (by omega) (Ev.bind (ev_const (in_eq _ _ _)) (ev_pos hin (ev_pos (by omega) ?_))))
        rw [hp]
        exact ev_pos (by omega) (ev_pos (by omega) (ev_pos h3 (Ev.now _)))
    · refine ⟨b, ?_, ?_, good ⟨by omega, by omega, fun _ => by omega⟩⟩
      · refine Ev.step (fun k => by rw [impl_areIds.l0]) ?_
        refine ev_pos (by omega) (ev_pos (by omega) (ev_pos (by omega) (ev_neg h1 (ev_neg h2 (ev_pos (by omega) ?_)))))
        rw [hp, hi]
        exact ev_pos (by omega) (ev_pos (by omega) (ev_neg h3 hb1))
      · refine Ev.step (fun k => by rw [spec_l06Ids.l0]) ?_
        refine ev_pos (by omega) (ev_pos (by omega) (Ev.bind (ev_const (in_eq _ _ _)) (ev_pos hin (ev_pos (by omega) ?_))))
        rw [hp, hi]
        exact ev_pos (by omega) (ev_pos (by omega) (ev_neg h3 hb2))
theorem ids_ev (l : List Int) (hl : l.length ≤ 1048576) : ∃ b, Ev (fun k => impl_areIds.f k l) b ∧ Ev (fun k => spec_l06Ids.f k l) b ∧ (b = true ↔ IdsP l) := by
  obtain ⟨b, h1, h2, h3⟩ := ids_l l hl l.length 0 (by omega)
  exact ⟨b, h1, h2, h3.trans ⟨fun h => ⟨fun j hj => h.1 j (by omega) hj, h.2⟩, fun h => ⟨fun j _ hj => h.1 j hj, h.2⟩⟩⟩
theorem has_l (l : List Int) (hl : l.length ≤ 1048576) (x : Int) (d : Nat) : ∀ i : Nat, l.length = i + d → ∃ b, Ev (fun k => spec_l01Has.l0 k l x i) b ∧ (b = true ↔ ∃ j : Nat, i ≤ j ∧ j < l.length ∧ rd l j = x) := by
  induction d with
  | zero =>
    intro i hd
    refine ⟨false, ?_, ⟨fun q => (by cases q), fun ⟨j, h1, h2, _⟩ => by omega⟩⟩
    refine Ev.step (fun k => by rw [spec_l01Has.l0]) ?_
    exact ev_neg (by omega) (Ev.now _)
  | succ d ih =>
    intro i hd
    have hi := wsucc (j := i) (n := l.length) (by omega) (by omega)
    by_cases h : rd l i = x
    · refine ⟨true, ?_, ⟨fun _ => ⟨i, Nat.le_refl i, by omega, h⟩, fun _ => rfl⟩⟩
      refine Ev.step (fun k => by rw [spec_l01Has.l0]) ?_
      exact ev_pos (by omega) (ev_pos (by omega) (ev_pos h (Ev.now _)))
    · obtain ⟨b, hb, h2⟩ := ih (i + 1) (by omega)
      refine ⟨b, ?_, h2.trans ⟨fun ⟨j, h3, h4, h5⟩ => ⟨j, by omega, h4, h5⟩, fun ⟨j, h3, h4, h5⟩ => ⟨j, ?_, h4, h5⟩⟩⟩
      · refine Ev.step (fun k => by rw [spec_l01Has.l0]) ?_
        rw [hi]
        exact ev_pos (by omega) (ev_pos (by omega) (ev_neg h hb))
      · rcases Nat.eq_or_lt_of_le h3 with e | e
        · subst e; exact absurd h5 h
        · exact e
theorem mem_rd (l : List Int) (x : Int) : x ∈ l ↔ ∃ j : Nat, j < l.length ∧ rd l j = x := by
  constructor
  · intro h
    obtain ⟨j, hj, e⟩ := List.mem_iff_getElem.1 h
    refine ⟨j, hj, ?_⟩
    unfold rd
    rw [toNat_cast, getD_lt l j 0 hj]; exact e
  · rintro ⟨j, hj, rfl⟩
    unfold rd
    rw [toNat_cast]
    exact getD_mem l j 0 hj
theorem has_ev (l : List Int) (hl : l.length ≤ 1048576) (x : Int) : Ev (fun k => spec_l01Has.f k l x) (decide (x ∈ l)) := by
  obtain ⟨b, h1, h2⟩ := has_l l hl x l.length 0 (by omega)
  have : b = decide (x ∈ l) := by
    rw [Bool.eq_iff_iff, h2, decide_eq_true_iff, mem_rd]
    exact ⟨fun ⟨j, _, h3, h4⟩ => ⟨j, h3, h4⟩, fun ⟨j, h3, h4⟩ => ⟨j, by omega, h3, h4⟩⟩
  rw [← this]; exact h1

theorem same_l (l m : List Int) (hl : l.length ≤ 1048576) (hm : m.length = l.length) (d : Nat) : ∀ i : Nat, l.length = i + d → ∃ b, Ev (fun k => slices_Equal_int_int.l0 k l m (l.length : Int) i) b ∧ Ev (fun k => spec_l06Same.l0 k l m i) b ∧ (b = true ↔ ∀ j : Nat, i ≤ j → j < l.length → rd l j = rd m j) := by
  induction d with
  | zero =>
    intro i hd
    refine ⟨true, ?_, ?_, ⟨fun _ j h1 h2 => by omega, fun _ => rfl⟩⟩
    · refine Ev.step (fun k => by rw [slices_Equal_int_int.l0]) ?_
      exact ev_neg (by omega) (Ev.now _)
    · refine Ev.step (fun k => by rw [spec_l06Same.l0]) ?_
      exact ev_neg (by omega) (Ev.now _)
  | succ d ih =>
    intro i hd
    have hi := wsucc (j := i) (n := l.length) (by omega) (by omega)
    by_cases h : rd l i = rd m i
    · obtain ⟨b, hb1, hb2, hb⟩ := ih (i + 1) (by omega)
      refine ⟨b, ?_, ?_, hb.trans ⟨fun q j h1 h2 => ?_, fun q j h1 h2 => q j (by omega) h2⟩⟩
      · refine Ev.step (fun k => by rw [slices_Equal_int_int.l0]) ?_
        rw [hi]
        exact ev_pos (by omega) (ev_pos (by omega) (ev_pos (by omega) (ev_pos (by omega) (ev_pos h hb1))))
      · refine Ev.step (fun k => by rw [spec_l06Same.l0]) ?_
        rw [hi]
        exact ev_pos (by omega) (ev_pos (by omega) (ev_pos (by omega) (ev_pos h hb2)))
      · rcases Nat.eq_or_lt_of_le h1 with e | e
        · subst e; exact h
        · exact q j e h2
    · refine ⟨false, ?_, ?_, ⟨fun q => (by cases q), fun q => absurd (q i (Nat.le_refl i) (by omega)) h⟩⟩
      · refine Ev.step (fun k => by rw [slices_Equal_int_int.l0]) ?_
        exact ev_pos (by omega) (ev_pos (by omega) (ev_pos (by omega) (ev_pos (by omega) (ev_neg h (Ev.now _)))))
      · refine Ev.step (fun k => by rw [spec_l06Same.l0]) ?_
        exact ev_pos (by omega) (ev_pos (by omega) (ev_pos (by omega) (ev_neg h (Ev.now _))))
theorem same_ev (l m : List Int) (hl : l.length ≤ 1048576) (hm : m.length ≤ 1048576) : ∃ b, Ev (fun k => slices_Equal_int_int.f k l m) b ∧ Ev (fun k => spec_l06Same.f k l m) b ∧ (b = true ↔ l = m) := by
  unfold slices_Equal_int_int.f spec_l06Same.f
  by_cases h : (l.length : Int) = (m.length : Int)
  · obtain ⟨b, h1, h2, h3⟩ := same_l l m hl (by omega) l.length 0 (by omega)
    refine ⟨b, ev_pos h h1, ev_pos h h2, h3.trans ⟨fun q => ?_, fun e => by subst e; exact fun _ _ _ => rfl⟩⟩
    refine List.ext_getElem (by omega) fun j hj hj' => ?_
    have := q j (by omega) hj
    unfold rd at this
    rwa [toNat_cast, getD_lt l j 0 hj, getD_lt m j 0 hj'] at this
  · exact ⟨false, ev_neg h (Ev.now _), ev_neg h (Ev.now _), ⟨fun q => (by cases q), fun e => absurd (by rw [e]) h⟩⟩
def ConfP (a b c : List Int) : Prop := IdsP a ∧ 0 < a.length ∧ IdsP b ∧ IdsP c ∧ a ≠ b ∧ ∀ x ∈ c, x ∉ a ∧ x ∉ b
theorem confOk_l (a b c : List Int) (ha : a.length ≤ 1048576) (hb : b.length ≤ 1048576) (hc : c.length ≤ 1048576) (d : Nat) : ∀ i : Nat, c.length = i + d → ∃ r, Ev (fun k => spec_ConfOk.l0 k i a b c) r ∧ (r = true ↔ ∀ j : Nat, i ≤ j → j < c.length → rd c j ∉ a ∧ rd c j ∉ b) := by
  induction d with
  | zero =>
    intro i hd
    refine ⟨true, ?_, ⟨fun _ j h1 h2 => by omega, fun _ => rfl⟩⟩
    refine Ev.step (fun k => by rw [spec_ConfOk.l0]) ?_
    exact ev_neg (by omega) (Ev.now _)
  | succ d ih =>
    intro i hd
    have hi := wsucc (j := i) (n := c.length) (by omega) (by omega)
    by_cases h1 : rd c i ∈ a
    · refine ⟨false, ?_, ⟨fun q => (by cases q), fun q => absurd h1 (q i (Nat.le_refl i) (by omega)).1⟩⟩
      refine Ev.step (fun k => by rw [spec_ConfOk.l0]) ?_
      exact ev_pos (by omega) (ev_pos (by omega) (Ev.bind (has_ev a ha _) (ev_pos (decide_eq_true h1) (Ev.now _))))
    by_cases h2 : rd c i ∈ b
    · refine ⟨false, ?_, ⟨fun q => (by cases q), fun q => absurd h2 (q i (Nat.le_refl i) (by omega)).2⟩⟩
      refine Ev.step (fun k => by rw [spec_ConfOk.l0]) ?_
      exact ev_pos (by omega) (ev_pos (by omega) (Ev.bind (has_ev a ha _) (ev_neg (by simpa using h1) (Ev.bind (has_ev b hb _) (ev_pos (decide_eq_true h2) (Ev.now _))))))
    obtain ⟨r, hr, h3⟩ := ih (i + 1) (by omega)
    refine ⟨r, ?_, h3.trans ⟨fun q j e1 e2 => ?_, fun q j e1 e2 => q j (by omega) e2⟩⟩
    · refine Ev.step (fun k => by rw [spec_ConfOk.l0]) ?_
      rw [hi]
      exact ev_pos (by omega) (ev_pos (by omega) (Ev.bind (has_ev a ha _) (ev_neg (by simpa using h1) (Ev.bind (has_ev b hb _) (ev_neg (by simpa using h2) hr)))))
    · rcases Nat.eq_or_lt_of_le e1 with e | e
      · subst e; exact ⟨h1, h2⟩
      · exact q j e e2
theorem isConf_ev (a b c : List Int) (ha : a.length ≤ 1048576) (hb : b.length ≤ 1048576) (hc : c.length ≤ 1048576) : ∃ r, Ev (fun k => impl_isConf.f k a b c) r ∧ Ev (fun k => spec_ConfOk.f k a b c) r ∧ (r = true ↔ ConfP a b c) := by
  obtain ⟨ia, ia1, ia2, ia3⟩ := ids_ev a ha
  obtain ⟨ib, ib1, ib2, ib3⟩ := ids_ev b hb
  obtain ⟨ic, ic1, ic2, ic3⟩ := ids_ev c hc
  obtain ⟨q, q1, q2, q3⟩ := same_ev a b ha hb
  obtain ⟨r, r1, r2⟩ := confOk_l a b c ha hb hc c.length 0 (by omega)
  have j0 : ∀ x : Bool, x = true → Ev (fun k => spec_ConfOk.j0 k x a b c) false := fun x hx => by
    refine Ev.step (fun k => by rw [spec_ConfOk.j0]) ?_
    exact ev_pos hx (Ev.now _)
  have nb : ∀ {x : Bool}, ¬ x = true → x = false := fun {x} h => by simpa using h
  have set_ : ∀ y : Bool, y = decide ((a.length : Int) > 0) → ia = true → Ev (fun k => spec_l06Set.f k a) y := fun y hy h => by
    unfold spec_l06Set.f
    rw [hy]
    exact Ev.bind ia2 (ev_pos h (Ev.now _))
  unfold impl_isConf.f spec_ConfOk.f
  by_cases h1 : ia = true
  rotate_left
  · refine ⟨false, Ev.bind ia1 (ev_neg h1 (Ev.now _)), ?_, ⟨fun q => (by cases q), fun q => absurd (ia3.2 q.1) h1⟩⟩
    refine Ev.bind (a := false) (by unfold spec_l06Set.f; exact Ev.bind ia2 (ev_neg h1 (Ev.now _))) (ev_neg (by simp) (j0 _ rfl))
  by_cases h2 : (a.length : Int) = 0
  · exact ⟨false, Ev.bind ia1 (ev_pos h1 (ev_pos h2 (Ev.now _))), Ev.bind (set_ _ rfl h1) (ev_neg (by rw [decide_eq_false (by omega)]; simp) (j0 _ rfl)), ⟨fun q => (by cases q), fun q => by have := q.2.1; omega⟩⟩
  have hs : decide ((a.length : Int) > 0) = true := decide_eq_true (by omega)
  by_cases h3 : ib = true
  rotate_left
  · exact ⟨false, Ev.bind ia1 (ev_pos h1 (ev_neg h2 (Ev.bind ib1 (ev_neg h3 (Ev.now _))))), Ev.bind (set_ _ rfl h1) (ev_pos hs (Ev.bind ib2 (ev_neg h3 (j0 _ rfl)))), ⟨fun q => (by cases q), fun q => absurd (ib3.2 q.2.2.1) h3⟩⟩
  by_cases h5 : ic = true
  rotate_left
  · refine ⟨false, Ev.bind ia1 (ev_pos h1 (ev_neg h2 (Ev.bind ib1 (ev_pos h3 (Ev.bind q1 ?_))))), Ev.bind (set_ _ rfl h1) (ev_pos hs (Ev.bind ib2 (ev_pos h3 (Ev.bind ic2 (ev_neg h5 (j0 _ rfl)))))), ⟨fun q => (by cases q), fun q => absurd (ic3.2 q.2.2.2.1) h5⟩⟩
    by_cases h4 : q = true
    · exact ev_pos h4 (Ev.now _)
    · exact ev_neg h4 (Ev.bind ic1 (ev_neg h5 (Ev.now _)))
  by_cases h4 : q = true
  · exact ⟨false, Ev.bind ia1 (ev_pos h1 (ev_neg h2 (Ev.bind ib1 (ev_pos h3 (Ev.bind q1 (ev_pos h4 (Ev.now _))))))), Ev.bind (set_ _ rfl h1) (ev_pos hs (Ev.bind ib2 (ev_pos h3 (Ev.bind ic2 (ev_pos h5 (Ev.bind q2 (j0 _ h4))))))), ⟨fun q => (by cases q), fun z => absurd (q3.1 h4) z.2.2.2.2.1⟩⟩
  have e : (!c.any (slices_ContainsFunc_int_int.p a b)) = r := by
    rw [Bool.eq_iff_iff, r2]
    simp only [Bool.not_eq_true', List.any_eq_false, slices_ContainsFunc_int_int.p, Bool.or_eq_true, decide_eq_true_iff, not_or]
    exact ⟨fun h j _ hj => h _ ((mem_rd c _).2 ⟨j, hj, rfl⟩), fun h x hx => by obtain ⟨j, hj, rfl⟩ := (mem_rd c x).1 hx; exact h j (by omega) hj⟩
  refine ⟨r, Ev.bind ia1 (ev_pos h1 (ev_neg h2 (Ev.bind ib1 (ev_pos h3 (Ev.bind q1 (ev_neg h4 (Ev.bind ic1 (ev_pos h5 (Ev.bind (a := c.any (slices_ContainsFunc_int_int.p a b)) (ev_const rfl) ?_))))))))), Ev.bind (set_ _ rfl h1) (ev_pos hs (Ev.bind ib2 (ev_pos h3 (Ev.bind ic2 (ev_pos h5 (Ev.bind q2 ?_)))))), ?_⟩
  · rw [e]; exact Ev.now _
  · refine Ev.step (fun k => by rw [spec_ConfOk.j0]) ?_
    exact ev_neg h4 r1
  · rw [r2]
    exact ⟨fun h => ⟨ia3.1 h1, by omega, ib3.1 h3, ic3.1 h5, fun z => h4 (q3.2 z), fun x hx => by obtain ⟨j, hj, rfl⟩ := (mem_rd c x).1 hx; exact h j (by omega) hj⟩, fun h j _ hj => h.2.2.2.2.2 _ ((mem_rd c _).2 ⟨j, hj, rfl⟩)⟩

theorem strict_eq : ∀ (xs ys : List Int), xs.Pairwise (· < ·) → ys.Pairwise (· < ·) → (∀ x, x ∈ xs ↔ x ∈ ys) → xs = ys := by
  intro xs
  induction xs with
  | nil =>
    intro ys _ _ h
    cases ys with
    | nil => rfl
    | cons y ys => exact absurd ((h y).2 (List.mem_cons_self ..)) (by simp)
  | cons x xs ih =>
    intro ys hx hy h
    cases ys with
    | nil => exact absurd ((h x).1 (List.mem_cons_self ..)) (by simp)
    | cons y ys =>
      rw [List.pairwise_cons] at hx hy
      have e : x = y := by
        rcases List.mem_cons.1 ((h x).1 (List.mem_cons_self ..)) with e | e
        · exact e
        · rcases List.mem_cons.1 ((h y).2 (List.mem_cons_self ..)) with e2 | e2
          · exact e2.symm
          · have := hy.1 x e; have := hx.1 y e2; omega
      subst e
      congr 1
      refine ih ys hx.2 hy.2 fun z => ⟨fun hz => ?_, fun hz => ?_⟩
      · rcases List.mem_cons.1 ((h z).1 (List.mem_cons_of_mem _ hz)) with e | e
        · have := hx.1 z hz; omega
        · exact e
      · rcases List.mem_cons.1 ((h z).2 (List.mem_cons_of_mem _ hz)) with e | e
        · have := hy.1 z hz; omega
        · exact e

def votM (a b : List Int) (m : Nat) : List Int := ((List.range m).map (fun i : Nat => (i : Int))).filter (fun x => decide (x ∈ a) || decide (x ∈ b))
theorem votM_mem (a b : List Int) (m : Nat) (x : Int) : x ∈ votM a b m ↔ 0 ≤ x ∧ x < m ∧ (x ∈ a ∨ x ∈ b) := by
  unfold votM
  rw [List.mem_filter, List.mem_map]
  constructor
  · rintro ⟨⟨i, hi, rfl⟩, h⟩
    rw [List.mem_range] at hi
    exact ⟨by omega, by omega, by simpa using h⟩
  · rintro ⟨h0, h1, h⟩
    exact ⟨⟨x.toNat, by rw [List.mem_range]; omega, by omega⟩, by simpa using h⟩
theorem votM_succ (a b : List Int) (m : Nat) : votM a b (m + 1) = if (m : Int) ∈ a ∨ (m : Int) ∈ b then votM a b m ++ [(m : Int)] else votM a b m := by
  unfold votM
  rw [List.range_succ, List.map_append, List.filter_append]
  by_cases h : (m : Int) ∈ a ∨ (m : Int) ∈ b
  · rw [if_pos h]
    congr 1
    simp [h]
  · rw [if_neg h]
    have h1 : ¬ (m : Int) ∈ a := fun q => h (.inl q)
    have h2 : ¬ (m : Int) ∈ b := fun q => h (.inr q)
    simp [h1, h2]
theorem votM_len (a b : List Int) (m : Nat) : (votM a b m).length ≤ m := by
  unfold votM
  refine Nat.le_trans (List.length_filter_le _ _) ?_
  simp
theorem votM_sorted (a b : List Int) (m : Nat) : (votM a b m).Pairwise (· < ·) := by
  induction m with
  | zero => simp [votM]
  | succ m ih =>
    rw [votM_succ]
    by_cases h : (m : Int) ∈ a ∨ (m : Int) ∈ b
    · rw [if_pos h, List.pairwise_append]
      refine ⟨ih, by simp, fun x hx y hy => ?_⟩
      rw [List.mem_singleton] at hy
      have := (votM_mem a b m x).1 hx
      omega
    · rw [if_neg h]; exact ih
theorem ids_range {l : List Int} (h : IdsP l) {x : Int} (hx : x ∈ l) : 0 ≤ x ∧ x ≤ 99 := by
  obtain ⟨j, hj, rfl⟩ := (mem_rd l x).1 hx
  exact ⟨(h.1 j hj).1, (h.1 j hj).2.1⟩

theorem l01Copy_l (l : List Int) (hl : l.length ≤ 1048576) (d : Nat) : ∀ i : Nat, l.length = i + d → Ev (fun k => spec_l01Copy.l0 k l (l.take i) i) l := by
  induction d with
  | zero =>
    intro i hd
    refine Ev.step (fun k => by rw [spec_l01Copy.l0]) ?_
    rw [List.take_of_length_le (by omega)]
    exact ev_neg (by omega) (Ev.now _)
  | succ d ih =>
    intro i hd
    have hi := wsucc (j := i) (n := l.length) (by omega) (by omega)
    refine Ev.step (fun k => by rw [spec_l01Copy.l0]) ?_
    rw [hi]
    refine ev_pos (by omega) (ev_pos (by omega) (ev_pos (by rw [List.length_take]; omega) ?_))
    have e : l.take i ++ [rd l (i : Int)] = l.take (i + 1) := by
      rw [take_succ_getD l i 0 (by omega)]
      unfold rd
      rw [toNat_cast]
    rw [e]
    exact ih (i + 1) (by omega)
theorem l01Copy_ev (l : List Int) (hl : l.length ≤ 1048576) : Ev (fun k => spec_l01Copy.f k l) l := l01Copy_l l hl l.length 0 (by omega)
theorem l06Copy_ev (a b c : List Int) (ha : a.length ≤ 1048576) (hb : b.length ≤ 1048576) (hc : c.length ≤ 1048576) : Ev (fun k => spec_l06Copy.f k a b c) (a, b, c) :=
  Ev.bind (l01Copy_ev a ha) (Ev.bind (l01Copy_ev b hb) (Ev.bind (l01Copy_ev c hc) (Ev.now _)))
theorem l06Less_l (l o : List Int) (hl : l.length ≤ 1048576) (ho : o.length ≤ 1048576) (d : Nat) : ∀ i : Nat, l.length = i + d → Ev (fun k => spec_l06Less.l0 k l o ((l.take i).filter (fun x => !decide (x ∈ o))) i) (l.filter (fun x => !decide (x ∈ o))) := by
  induction d with
  | zero =>
    intro i hd
    refine Ev.step (fun k => by rw [spec_l06Less.l0]) ?_
    rw [List.take_of_length_le (by omega)]
    exact ev_neg (by omega) (Ev.now _)
  | succ d ih =>
    intro i hd
    have hi := wsucc (j := i) (n := l.length) (by omega) (by omega)
    have h := ih (i + 1) (by omega)
    rw [take_succ_getD l i 0 (by omega), List.filter_append, show l.getD i 0 = rd l (i : Int) by unfold rd; rw [toNat_cast]] at h
    refine Ev.step (fun k => by rw [spec_l06Less.l0]) ?_
    rw [hi]
    refine ev_pos (by omega) (ev_pos (by omega) (Ev.bind (has_ev o ho _) ?_))
    by_cases q : rd l (i : Int) ∈ o
    · rw [List.filter_cons_of_neg (by simpa using q), List.filter_nil, List.append_nil] at h
      exact ev_pos (decide_eq_true q) h
    · rw [List.filter_cons_of_pos (by simpa using q), List.filter_nil] at h
      have hx : ((l.take i).filter (fun x => !decide (x ∈ o))).length ≤ l.length := Nat.le_trans (List.length_filter_le _ _) (by rw [List.length_take]; omega)
      exact ev_neg (by simpa using q) (ev_pos (by omega) h)
theorem l06Less_ev (l o : List Int) (hl : l.length ≤ 1048576) (ho : o.length ≤ 1048576) : Ev (fun k => spec_l06Less.f k l o) (l.filter (fun x => !decide (x ∈ o))) := l06Less_l l o hl ho l.length 0 (by omega)

theorem learn_l (a b c a' b' : List Int) (hc : c.length ≤ 1048576) (id : Int) (d : Nat) : ∀ i : Nat, 100 = i + d → ∀ r, Ev (fun k => spec_Learner.j2 k a b c a' b' (votM c [id] 100)) r → Ev (fun k => spec_Learner.l0 k id i a b c a' b' (votM c [id] i)) r := by
  induction d with
  | zero =>
    intro i hd r hr
    have : i = 100 := by omega
    subst this
    refine Ev.step (fun k => by rw [spec_Learner.l0]) ?_
    exact ev_neg (by omega) hr
  | succ d ih =>
    intro i hd r hr
    have hi := wsucc (j := i) (n := 100) (by omega) (by omega)
    have hlen := votM_len c [id] i
    have h := ih (i + 1) (by omega) r hr
    rw [votM_succ] at h
    refine Ev.step (fun k => by rw [spec_Learner.l0]) ?_
    rw [hi]
    refine ev_pos (by omega) ?_
    by_cases h1 : (i : Int) = id
    · rw [if_pos (.inr (by simp [h1]))] at h
      exact ev_pos h1 (ev_pos (by omega) h)
    refine ev_neg h1 (Ev.bind (has_ev c hc _) ?_)
    by_cases h2 : (i : Int) ∈ c
    · rw [if_pos (.inl h2)] at h
      exact ev_pos (decide_eq_true h2) (ev_pos (by omega) h)
    · rw [if_neg (by rintro (q | q); exact h2 q; exact h1 (by simpa using q))] at h
      exact ev_neg (by simpa using h2) h
theorem specLearn_j2 (a b c c1 : List Int) (h : ConfP a b c) (hl1 : c1.length ≤ 1048576) : ∃ (c' : List Int) (ok : Bool), Ev (fun k => spec_Learner.j2 k a b c a b c1) (a, b, c', ok) ∧ ConfP a b c' ∧ (ok = false → c' = c) ∧ (c' = c ∨ c' = c1) := by
  obtain ⟨pa, _, pb, pc, _⟩ := And.left ⟨h, trivial⟩
  have la := pa.2
  have lb := pb.2
  have lc := pc.2
  obtain ⟨r1, _, g2, g3⟩ := isConf_ev a b c1 (by omega) (by omega) hl1
  obtain ⟨b1, _, b2, _⟩ := same_ev c1 c hl1 (by omega)
  have hsc := l06Copy_ev a b c (by omega) (by omega) (by omega)
  by_cases e : r1 = true
  · by_cases e1 : b1 = true
    · refine ⟨c, false, ?_, h, fun _ => rfl, .inl rfl⟩
      refine Ev.step (fun k => by rw [spec_Learner.j2]) ?_
      exact Ev.bind g2 (ev_pos e (Ev.bind b2 (ev_pos e1 (Ev.bind hsc (Ev.now _)))))
    · refine ⟨c1, true, ?_, g3.1 e, fun q => (by cases q), .inr rfl⟩
      refine Ev.step (fun k => by rw [spec_Learner.j2]) ?_
      exact Ev.bind g2 (ev_pos e (Ev.bind b2 (ev_neg e1 (Ev.now _))))
  · refine ⟨c, false, ?_, h, fun _ => rfl, .inl rfl⟩
    refine Ev.step (fun k => by rw [spec_Learner.j2]) ?_
    exact Ev.bind g2 (ev_neg e (Ev.bind hsc (Ev.now _)))
theorem specLearn_ev (a b c : List Int) (h : ConfP a b c) (id : Int) (on : Bool) : ∃ (c' : List Int) (ok : Bool), Ev (fun k => spec_Learner.f k a b c id on) (a, b, c', ok) ∧ ConfP a b c' ∧ ∀ x ∈ c', x ∈ c ∨ x = id := by
  obtain ⟨pa, _, pb, pc, _⟩ := And.left ⟨h, trivial⟩
  have la := pa.2
  have lb := pb.2
  have lc := pc.2
  obtain ⟨r, _, h2, h3⟩ := isConf_ev a b c (by omega) (by omega) (by omega)
  have hsc := l06Copy_ev a b c (by omega) (by omega) (by omega)
  have hh := has_ev c (by omega) id
  unfold spec_Learner.f
  by_cases hon : (decide (id ∈ c) == on) = true
  · refine ⟨c, false, Ev.bind h2 (ev_pos (h3.2 h) (Ev.bind hh ?_)), h, fun x hx => .inl hx⟩
    refine Ev.step (fun k => by rw [spec_Learner.j0]) ?_
    exact ev_pos hon (Ev.bind hsc (Ev.now _))
  have hl6 := l06Less_ev c [id] (by omega) (by simp)
  have hv := votM_len c [id] 100
  have hf := List.length_filter_le (fun x => !decide (x ∈ [id])) c
  cases on with
  | true =>
    obtain ⟨c', ok, m1, m2, _, m3⟩ := specLearn_j2 a b c (votM c [id] 100) h (by omega)
    refine ⟨c', ok, Ev.bind h2 (ev_pos (h3.2 h) (Ev.bind hh ?_)), m2, fun x hx => m3.elim (fun e => .inl (by rw [← e]; exact hx)) (fun e => by
      rw [e] at hx
      rcases ((votM_mem c [id] 100 x).1 hx).2.2 with q | q
      · exact .inl q
      · exact .inr (List.mem_singleton.1 q))⟩
    refine Ev.step (fun k => by rw [spec_Learner.j0]) ?_
    exact ev_neg hon (Ev.bind hsc (Ev.bind hl6 (ev_pos rfl (learn_l a b c a b (by omega) id 100 0 (by omega) _ m1))))
  | false =>
    obtain ⟨c', ok, m1, m2, _, m3⟩ := specLearn_j2 a b c _ h (show (c.filter (fun x => !decide (x ∈ [id]))).length ≤ 1048576 by omega)
    refine ⟨c', ok, Ev.bind h2 (ev_pos (h3.2 h) (Ev.bind hh ?_)), m2, fun x hx => m3.elim (fun e => .inl (by rw [← e]; exact hx)) (fun e => by
      rw [e] at hx
      exact .inl (List.mem_filter.1 hx).1)⟩
    refine Ev.step (fun k => by rw [spec_Learner.j0]) ?_
    exact ev_neg hon (Ev.bind hsc (Ev.bind hl6 (ev_neg (by simp) m1)))

theorem and_mask (x : Int) (m : Nat) (hm : m < 9223372036854775808) : 0 ≤ Go.bits .and .i64 x (m : Int) ∧ Go.bits .and .i64 x (m : Int) ≤ m := by
  have h : (BitVec.ofInt 64 x &&& BitVec.ofInt 64 (m : Int)).toNat ≤ m := by
    rw [BitVec.toNat_and]
    refine Nat.le_trans Nat.and_le_right ?_
    rw [BitVec.ofInt_natCast, BitVec.toNat_ofNat]
    exact Nat.mod_le _ _
  obtain ⟨q, hq⟩ : ∃ q : Nat, q = (BitVec.ofInt 64 x &&& BitVec.ofInt 64 (m : Int)).toNat := ⟨_, rfl⟩
  have e : Go.bits .and .i64 x (m : Int) = IntKind.i64.wrap (q : Int) := by rw [hq]; rfl
  rw [e, IntKind.wrap_i64]
  omega
theorem u64_range (x : Int) : 0 ≤ IntKind.u64.wrap x ∧ IntKind.u64.wrap x ≤ 18446744073709551615 := by
  simp only [IntKind.wrap, IntKind.signed, IntKind.bits]
  simp
  omega
theorem byte_ev (b : List Int) (hb : b.length ≤ 1048576) (i h : Int) (h0 : 0 ≤ i) : ∃ x i' h', spec_l01Byte.f b i h = some (x, i', h') ∧ 0 ≤ i' ∧ 0 ≤ x ∧ x ≤ 255 := by
  unfold spec_l01Byte.f
  by_cases hi : i < (b.length : Int)
  · rw [if_pos hi, if_pos h0]
    have := and_mask
    exact ⟨_, _, _, rfl, by rw [w64 (by omega) (by omega)]; omega, (and_mask _ 255 (by decide)).1, (and_mask _ 255 (by decide)).2⟩
  · rw [if_neg hi]
    exact ⟨_, _, _, rfl, h0, (and_mask _ 255 (by decide)).1, (and_mask _ 255 (by decide)).2⟩
theorem below_ev (b : List Int) (hb : b.length ≤ 1048576) (i h n : Int) (h0 : 0 ≤ i) : ∃ x i' h', spec_l01Below.f b i h n = some (x, i', h') ∧ 0 ≤ i' ∧ 0 ≤ x ∧ (0 < n → x < n) ∧ (n ≤ 0 → x = 0) := by
  unfold spec_l01Below.f
  by_cases h1 : n ≤ 0
  · rw [if_pos h1]
    exact ⟨0, i, h, rfl, h0, by omega, by omega, fun _ => rfl⟩
  rw [if_neg h1]
  by_cases h2 : n ≤ 256
  · rw [if_pos h2]
    obtain ⟨x, i', h', e, g0, g1, g2⟩ := byte_ev b hb i h h0
    rw [e]
    simp only [Option.bind_some]
    rw [if_neg (by omega)]
    exact ⟨_, _, _, rfl, g0, Int.tmod_nonneg _ g1, fun _ => Int.tmod_lt_of_pos _ (by omega), fun h => by omega⟩
  · rw [if_neg h2]
    obtain ⟨x, i1, h1', e1, g0, g1, g2⟩ := byte_ev b hb i h h0
    obtain ⟨y, i2, h2', e2, k0, k1, k2⟩ := byte_ev b hb i1 h1' g0
    obtain ⟨z, i3, h3', e3, m0, m1, m2⟩ := byte_ev b hb i2 h2' k0
    rw [e1]
    simp only [Option.bind_some]
    rw [e2]
    simp only [Option.bind_some]
    rw [e3]
    simp only [Option.bind_some]
    rw [if_neg (by omega)]
    have w1 : wrap64 (x * 65536) = x * 65536 := w64 (by omega) (by omega)
    have w2 : wrap64 (y * 256) = y * 256 := w64 (by omega) (by omega)
    have w3 : wrap64 (x * 65536 + y * 256) = x * 65536 + y * 256 := w64 (by omega) (by omega)
    have w4 : wrap64 (x * 65536 + y * 256 + z) = x * 65536 + y * 256 + z := w64 (by omega) (by omega)
    rw [w1, w2, w3, w4]
    exact ⟨_, _, _, rfl, m0, Int.tmod_nonneg _ (by omega), fun _ => Int.tmod_lt_of_pos _ (by omega), fun h => by omega⟩

theorem size_ev (l : List Int) (hl : l.length ≤ 1048576) (m : Int) : ∃ n, spec_l01Size.f l m = some n ∧ n ≤ m ∧ (0 ≤ m → 0 ≤ n) := by
  unfold spec_l01Size.f
  rw [w64 (x := (l.length : Int) / 16) (by omega) (by omega), w64 (x := 2 + (l.length : Int) / 16) (by omega) (by omega)]
  by_cases h : 2 + (l.length : Int) / 16 > m
  · rw [if_pos h]; exact ⟨m, rfl, by omega, fun h => h⟩
  · rw [if_neg h]; exact ⟨_, rfl, by omega, fun _ => by omega⟩

theorem ids_of {l : List Int} (h : l.Pairwise (· < ·)) (hr : ∀ x ∈ l, 0 ≤ x ∧ x ≤ 99) (hl : l.length ≤ 7) : IdsP l := by
  refine ⟨fun j hj => ?_, hl⟩
  have e : ∀ q : Nat, (hq : q < l.length) → rd l (q : Nat) = l[q] := fun q hq => by unfold rd; rw [toNat_cast, getD_lt l q 0 hq]
  have := hr (rd l (j : Nat)) (by rw [e j hj]; exact List.getElem_mem _)
  refine ⟨this.1, this.2, fun h0 => ?_⟩
  rw [e j hj, e (j - 1) (by omega)]
  exact (List.pairwise_iff_getElem.1 h) (j - 1) j (by omega) hj (by omega)
theorem ids_nil : IdsP [] := ⟨fun j h => absurd h (by simp), by simp⟩
theorem ids_filter {l : List Int} (h : IdsP l) (p : Int → Bool) (hp : l.Pairwise (· < ·)) : IdsP (l.filter p) := by
  refine ids_of (hp.sublist List.filter_sublist) (fun x hx => ids_range h ((List.mem_filter.1 hx).1)) ?_
  have := List.length_filter_le p l
  have := h.2
  omega
theorem ids_pw {l : List Int} (h : IdsP l) : l.Pairwise (· < ·) := by
  have s : ∀ j i : Nat, i < j → j < l.length → rd l (i : Nat) < rd l (j : Nat) := by
    intro j
    induction j with
    | zero => intro i h1; omega
    | succ j ih =>
      intro i hij hj
      have := (h.1 (j + 1) hj).2.2 (by omega)
      rw [Nat.add_sub_cancel] at this
      by_cases e : i = j
      · subst e; exact this
      · have := ih i (by omega) (by omega); omega
  rw [List.pairwise_iff_getElem]
  intro i j hi hj hij
  have := s j i hij hj
  unfold rd at this
  rwa [toNat_cast, toNat_cast, getD_lt l i 0 hi, getD_lt l j 0 hj] at this
/-- What Begin comes to, in the reference. -/
theorem specBegin_ev (a b c w : List Int) (h : ConfP a b c) (hw : w.length ≤ 1048576) : (b = [] ∧ IdsP w ∧ 0 < w.length ∧ a ≠ w → Ev (fun k => spec_Begin.f k a b c w) (a, w, c.filter (fun x => !decide (x ∈ w)), true) ∧ ConfP a w (c.filter (fun x => !decide (x ∈ w)))) ∧ (¬ (b = [] ∧ IdsP w ∧ 0 < w.length ∧ a ≠ w) → Ev (fun k => spec_Begin.f k a b c w) (a, b, c, false)) := by
  obtain ⟨pa, pa0, pb, pc, pab, pd⟩ := id h
  have la := pa.2
  have lb := pb.2
  have lc := pc.2
  obtain ⟨r, _, h2, h3⟩ := isConf_ev a b c (by omega) (by omega) (by omega)
  have hsc := l06Copy_ev a b c (by omega) (by omega) (by omega)
  have hl6 := l06Less_ev c w (by omega) hw
  obtain ⟨iw, _, iw2, iw3⟩ := ids_ev w hw
  obtain ⟨q, _, q2, q3⟩ := same_ev a w (by omega) hw
  have ht : ∀ x : Bool, x = true → Ev (fun k => spec_Begin.j0 k w x a b c) (a, b, c, false) := fun x hx => by
    refine Ev.step (fun k => by rw [spec_Begin.j0]) ?_
    exact ev_pos hx (Ev.bind hsc (Ev.now _))
  refine ⟨fun ⟨e0, e1, e2, e3⟩ => ⟨?_, ?_⟩, fun hn => ?_⟩
  · unfold spec_Begin.f
    refine Ev.bind h2 (ev_pos (h3.2 h) (ev_neg (by rw [e0]; simp) (Ev.bind (a := true) ?_ (ev_pos rfl (Ev.bind q2 ?_)))))
    · unfold spec_l06Set.f
      refine Ev.bind iw2 (ev_pos (iw3.2 e1) ?_)
      rw [decide_eq_true (show (w.length : Int) > 0 by omega)]
      exact Ev.now _
    · refine Ev.step (fun k => by rw [spec_Begin.j0]) ?_
      exact ev_neg (fun z => e3 (q3.1 z)) (Ev.bind (l01Copy_ev a (by omega)) (Ev.bind (l01Copy_ev w hw) (Ev.bind hl6 (Ev.now _))))
  · refine ⟨pa, pa0, e1, ids_filter pc _ (ids_pw pc), e3, fun x hx => ?_⟩
    rw [List.mem_filter] at hx
    exact ⟨(pd x hx.1).1, by simpa using hx.2⟩
  · unfold spec_Begin.f
    refine Ev.bind h2 (ev_pos (h3.2 h) ?_)
    by_cases e0 : (b.length : Int) > 0
    · exact ev_pos e0 (ht _ rfl)
    refine ev_neg e0 ?_
    have e0' : b = [] := List.eq_nil_of_length_eq_zero (by omega)
    by_cases e1 : iw = true
    rotate_left
    · refine Ev.bind (a := false) ?_ (ev_neg (by simp) (ht _ rfl))
      unfold spec_l06Set.f
      exact Ev.bind iw2 (ev_neg e1 (Ev.now _))
    have hset : Ev (fun k => spec_l06Set.f k w) (decide ((w.length : Int) > 0)) := by
      unfold spec_l06Set.f
      exact Ev.bind iw2 (ev_pos e1 (Ev.now _))
    by_cases e2 : 0 < w.length
    rotate_left
    · exact Ev.bind hset (ev_neg (by rw [decide_eq_false (by omega)]; simp) (ht _ rfl))
    refine Ev.bind hset (ev_pos (decide_eq_true (by omega)) (Ev.bind q2 (ht _ ?_)))
    exact q3.2 (Classical.byContradiction fun z => hn ⟨e0', iw3.1 e1, e2, z⟩)
theorem specFinish_ev (a b c : List Int) (h : ConfP a b c) : (0 < b.length → Ev (fun k => spec_Finish.f k a b c) (b, [], c, true) ∧ ConfP b [] c) ∧ (b = [] → Ev (fun k => spec_Finish.f k a b c) (a, b, c, false)) := by
  obtain ⟨pa, pa0, pb, pc, pab, pd⟩ := id h
  have la := pa.2
  have lb := pb.2
  have lc := pc.2
  obtain ⟨r, _, h2, h3⟩ := isConf_ev a b c (by omega) (by omega) (by omega)
  have hsc := l06Copy_ev a b c (by omega) (by omega) (by omega)
  unfold spec_Finish.f
  refine ⟨fun h0 => ⟨?_, ?_⟩, fun h0 => ?_⟩
  · refine Ev.bind h2 (ev_pos (h3.2 h) ?_)
    refine Ev.step (fun k => by rw [spec_Finish.j0]) ?_
    refine ev_neg (by rw [show ((b.length : Int) == 0) = false by rw [beq_eq_false_iff_ne]; omega]; simp) ?_
    exact Ev.bind (l01Copy_ev b (by omega)) (Ev.bind (l01Copy_ev c (by omega)) (Ev.now _))
  · exact ⟨pb, h0, ids_nil, pc, fun e => by rw [e] at h0; simp at h0, fun x hx => ⟨(pd x hx).2, by simp⟩⟩
  · refine Ev.bind h2 (ev_pos (h3.2 h) ?_)
    refine Ev.step (fun k => by rw [spec_Finish.j0]) ?_
    exact ev_pos (by rw [h0]; rfl) (Ev.bind hsc (Ev.now _))
/-- All ids are below 20. -/
def Low (a b c : List Int) : Prop := ∀ x, x ∈ a ∨ x ∈ b ∨ x ∈ c → x < 20
theorem specPlay_l (ops : List S77) (hops : ops.length ≤ 100) (hw : ∀ x ∈ ops, x.f2.length ≤ 1048576 ∧ x.f1 < 20 ∧ ∀ y ∈ x.f2, y < 20) (d : Nat) : ∀ (i : Nat) (told : List Bool) (a b c : List Int), ops.length = i + d → told.length = i → ConfP a b c → Low a b c → ∃ a' b' c' t', Ev (fun k => spec_PlayConf.l0 k ops told i a b c) (a', b', c', t') ∧ ConfP a' b' c' ∧ Low a' b' c' := by
  induction d with
  | zero =>
    intro i told a b c hd ht h hR
    refine ⟨a, b, c, told, ?_, h, hR⟩
    refine Ev.step (fun k => by rw [spec_PlayConf.l0]) ?_
    exact ev_neg (by omega) (Ev.now _)
  | succ d ih =>
    intro i told a b c hd ht h hR
    have hi := wsucc (j := i) (n := ops.length) (by omega) (by omega)
    have hwi' : (rd_T77 ops i).f2.length ≤ 1048576 ∧ (rd_T77 ops i).f1 < 20 ∧ ∀ y ∈ (rd_T77 ops i).f2, y < 20 := by
      unfold rd_T77
      rw [toNat_cast]
      exact hw _ (getD_mem ops i _ (by omega))
    have hwi := hwi'.1
    have go : ∀ (t : Bool) (a1 b1 c1 : List Int), ConfP a1 b1 c1 → Low a1 b1 c1 → ∃ a' b' c' t', Ev (fun k => if told.length < 140737488355328 then spec_PlayConf.l0 k ops (told ++ [t]) (wrap64 ((i : Int) + 1)) a1 b1 c1 else none) (a', b', c', t') ∧ ConfP a' b' c' ∧ Low a' b' c' := fun t a1 b1 c1 h1 g1 => by
      obtain ⟨a', b', c', t', m1, m2⟩ := ih (i + 1) (told ++ [t]) a1 b1 c1 (by omega) (by simp [ht]) h1 g1
      rw [hi]
      exact ⟨a', b', c', t', ev_pos (by omega) m1, m2⟩
    by_cases k0 : (rd_T77 ops i).f0 = 0
    · obtain ⟨s1, s2⟩ := specBegin_ev a b c _ h hwi
      by_cases q : b = [] ∧ IdsP (rd_T77 ops i).f2 ∧ 0 < (rd_T77 ops i).f2.length ∧ a ≠ (rd_T77 ops i).f2
      · obtain ⟨e1, e2⟩ := s1 q
        obtain ⟨a', b', c', t', m1, m2⟩ := go true _ _ _ e2 (fun x hx => by
          rcases hx with hx | hx | hx
          · exact hR x (.inl hx)
          · exact hwi'.2.2 x hx
          · exact hR x (.inr (.inr (List.mem_filter.1 hx).1)))
        refine ⟨a', b', c', t', ?_, m2⟩
        refine Ev.step (fun k => by rw [spec_PlayConf.l0]) ?_
        exact ev_pos (by omega) (ev_pos (by omega) (ev_pos k0 (Ev.bind e1 m1)))
      · obtain ⟨a', b', c', t', m1, m2⟩ := go false _ _ _ h hR
        refine ⟨a', b', c', t', ?_, m2⟩
        refine Ev.step (fun k => by rw [spec_PlayConf.l0]) ?_
        exact ev_pos (by omega) (ev_pos (by omega) (ev_pos k0 (Ev.bind (s2 q) m1)))
    by_cases k1 : (rd_T77 ops i).f0 = 1
    · obtain ⟨s1, s2⟩ := specFinish_ev a b c h
      by_cases q : b = []
      · obtain ⟨a', b', c', t', m1, m2⟩ := go false _ _ _ h hR
        refine ⟨a', b', c', t', ?_, m2⟩
        refine Ev.step (fun k => by rw [spec_PlayConf.l0]) ?_
        exact ev_pos (by omega) (ev_pos (by omega) (ev_neg k0 (ev_pos k1 (Ev.bind (s2 q) m1))))
      · obtain ⟨e1, e2⟩ := s1 (by cases b with | nil => exact absurd rfl q | cons x y => simp)
        obtain ⟨a', b', c', t', m1, m2⟩ := go true _ _ _ e2 (fun x hx => by
          rcases hx with hx | hx | hx
          · exact hR x (.inr (.inl hx))
          · simp at hx
          · exact hR x (.inr (.inr hx)))
        refine ⟨a', b', c', t', ?_, m2⟩
        refine Ev.step (fun k => by rw [spec_PlayConf.l0]) ?_
        exact ev_pos (by omega) (ev_pos (by omega) (ev_neg k0 (ev_pos k1 (Ev.bind e1 m1))))
    by_cases k2 : (rd_T77 ops i).f0 = 2
    · obtain ⟨c1, ok, e1, e2, e3⟩ := specLearn_ev a b c h (rd_T77 ops i).f1 true
      obtain ⟨a', b', c', t', m1, m2⟩ := go ok _ _ _ e2 (fun x hx => by
        rcases hx with hx | hx | hx
        · exact hR x (.inl hx)
        · exact hR x (.inr (.inl hx))
        · rcases e3 x hx with q | q
          · exact hR x (.inr (.inr q))
          · rw [q]; exact hwi'.2.1)
      refine ⟨a', b', c', t', ?_, m2⟩
      refine Ev.step (fun k => by rw [spec_PlayConf.l0]) ?_
      exact ev_pos (by omega) (ev_pos (by omega) (ev_neg k0 (ev_neg k1 (ev_pos k2 (Ev.bind e1 m1)))))
    by_cases k3 : (rd_T77 ops i).f0 = 3
    · obtain ⟨c1, ok, e1, e2, e3⟩ := specLearn_ev a b c h (rd_T77 ops i).f1 false
      obtain ⟨a', b', c', t', m1, m2⟩ := go ok _ _ _ e2 (fun x hx => by
        rcases hx with hx | hx | hx
        · exact hR x (.inl hx)
        · exact hR x (.inr (.inl hx))
        · rcases e3 x hx with q | q
          · exact hR x (.inr (.inr q))
          · rw [q]; exact hwi'.2.1)
      refine ⟨a', b', c', t', ?_, m2⟩
      refine Ev.step (fun k => by rw [spec_PlayConf.l0]) ?_
      exact ev_pos (by omega) (ev_pos (by omega) (ev_neg k0 (ev_neg k1 (ev_neg k2 (ev_pos k3 (Ev.bind e1 m1))))))
    · obtain ⟨a', b', c', t', m1, m2⟩ := go false _ _ _ h hR
      refine ⟨a', b', c', t', ?_, m2⟩
      refine Ev.step (fun k => by rw [spec_PlayConf.l0]) ?_
      exact ev_pos (by omega) (ev_pos (by omega) (ev_neg k0 (ev_neg k1 (ev_neg k2 (ev_neg k3 m1)))))
theorem specPlay_ev (ops : List S77) (hops : ops.length ≤ 100) (hw : ∀ x ∈ ops, x.f2.length ≤ 1048576 ∧ x.f1 < 20 ∧ ∀ y ∈ x.f2, y < 20) (a b c : List Int) (h : ConfP a b c) (hR : Low a b c) : ∃ a' b' c' t', Ev (fun k => spec_PlayConf.f k a b c ops) (a', b', c', t') ∧ ConfP a' b' c' ∧ Low a' b' c' := by
  obtain ⟨pa, _, pb, pc, _⟩ := id h
  have la := pa.2
  have lb := pb.2
  have lc := pc.2
  obtain ⟨r, _, h2, h3⟩ := isConf_ev a b c (by omega) (by omega) (by omega)
  obtain ⟨a', b', c', t', m1, m2⟩ := specPlay_l ops hops hw ops.length 0 [] a b c (by omega) rfl h hR
  refine ⟨a', b', c', t', ?_, m2⟩
  unfold spec_PlayConf.f
  refine Ev.bind h2 (ev_pos (h3.2 h) ?_)
  refine Ev.step (fun k => by rw [spec_PlayConf.j0]) ?_
  exact ev_neg (by simp; omega) (Ev.bind (l06Copy_ev a b c (by omega) (by omega) (by omega)) m1)
theorem drawSet_l (b : List Int) (hb : b.length ≤ 1048576) (d : Nat) : ∀ (xs : List Int) (x i h : Int), 0 ≤ i → 0 ≤ x → x ≤ 100 → 9 - x ≤ d → xs.Pairwise (· < ·) → (∀ y ∈ xs, 0 ≤ y ∧ y ≤ 8 ∧ y < x) → xs.length ≤ 5 → ∃ r i' h', Ev (fun k => spec_l06DrawSet.l0 k xs x b i h) (r, i', h') ∧ 0 ≤ i' ∧ IdsP r ∧ ((0 < xs.length ∨ x < 9) → 0 < r.length) ∧ ∀ y ∈ r, y < 20 := by
  have fin : ∀ (xs : List Int) (x i h : Int), 0 ≤ i → xs.Pairwise (· < ·) → (∀ y ∈ xs, 0 ≤ y ∧ y ≤ 8 ∧ y < x) → xs.length ≤ 5 → ¬ (x < 9 ∧ (xs.length : Int) < 5) → ∃ r i' h', Ev (fun k => spec_l06DrawSet.l0 k xs x b i h) (r, i', h') ∧ 0 ≤ i' ∧ IdsP r ∧ ((0 < xs.length ∨ x < 9) → 0 < r.length) ∧ ∀ y ∈ r, y < 20 := fun xs x i h h0 hp hr hl hn => by
    refine ⟨xs, i, h, ?_, h0, ids_of hp (fun y hy => by have := hr y hy; omega) (by omega), fun q => by omega, fun y hy => by have := hr y hy; omega⟩
    refine Ev.step (fun k => by rw [spec_l06DrawSet.l0]) ?_
    by_cases q : x < 9
    · exact ev_pos q (ev_neg (fun z => hn ⟨q, z⟩) (Ev.now _))
    · exact ev_neg q (Ev.now _)
  induction d with
  | zero =>
    intro xs x i h h0 hx hx2 hd hp hr hl
    exact fin xs x i h h0 hp hr hl (by omega)
  | succ d ih =>
    intro xs x i h h0 hx hx2 hd hp hr hl
    by_cases hn : x < 9 ∧ (xs.length : Int) < 5
    rotate_left
    · exact fin xs x i h h0 hp hr hl hn
    obtain ⟨y, i1, h1, e, g0, g1, g2, _⟩ := below_ev b hb i h 3 h0
    have g3 := g2 (by decide)
    obtain ⟨r, i', h', m1, m2, m3, m4⟩ := ih (xs ++ [x]) (x + 1 + y) i1 h1 g0 (by omega) (by omega) (by omega) (by
      rw [List.pairwise_append]
      exact ⟨hp, by simp, fun u hu v hv => by rw [List.mem_singleton] at hv; have := hr u hu; omega⟩) (fun z hz => by
      rcases List.mem_append.1 hz with hz | hz
      · have := hr z hz; omega
      · rw [List.mem_singleton] at hz; omega) (by simp; omega)
    refine ⟨r, i', h', ?_, m2, m3, fun _ => m4.1 (.inl (by simp)), m4.2⟩
    refine Ev.step (fun k => by rw [spec_l06DrawSet.l0]) ?_
    refine ev_pos hn.1 (ev_pos hn.2 (ev_pos (by omega) (Ev.bind (ev_const e) ?_)))
    rw [w64 (x := x + 1) (by omega) (by omega), w64 (x := x + 1 + y) (by omega) (by omega)]
    exact m1
theorem drawSet_ev (b : List Int) (hb : b.length ≤ 1048576) (i h : Int) (h0 : 0 ≤ i) : ∃ r i' h', Ev (fun k => spec_l06DrawSet.f k b i h) (r, i', h') ∧ 0 ≤ i' ∧ IdsP r ∧ 0 < r.length ∧ ∀ y ∈ r, y < 20 := by
  obtain ⟨y, i1, h1, e, g0, g1, g2, _⟩ := below_ev b hb i h 3 h0
  have g3 := g2 (by decide)
  obtain ⟨r, i', h', m1, m2, m3, m4⟩ := drawSet_l b hb 9 [] y i1 h1 g0 g1 (by omega) (by omega) (by simp) (by simp) (by simp)
  exact ⟨r, i', h', Ev.bind (ev_const e) m1, m2, m3, m4.1 (.inr (by omega)), m4.2⟩
theorem pick_ev (b : List Int) (hb : b.length ≤ 1048576) (i h : Int) (h0 : 0 ≤ i) (l : List Int) (hl : 0 < l.length) (hl2 : l.length ≤ 1000) : ∃ x i' h', spec_l01PickInt.f b i h l = some (x, i', h') ∧ 0 ≤ i' := by
  obtain ⟨y, i1, h1, e, g0, g1, g2, _⟩ := below_ev b hb i h l.length h0
  have g3 := g2 (by omega)
  unfold spec_l01PickInt.f
  rw [e]
  simp only [Option.bind_some]
  rw [if_pos g1, if_pos g3]
  exact ⟨_, _, _, rfl, g0⟩
theorem drawOps_l (b : List Int) (hb : b.length ≤ 1048576) (d : Nat) : ∀ (xs : List S77) (n i h : Int), 0 ≤ i → n = d → d ≤ 100 → xs.length + d ≤ 100 → (∀ x ∈ xs, x.f2.length ≤ 1048576 ∧ x.f1 < 20 ∧ ∀ y ∈ x.f2, y < 20) → ∃ r i' h', Ev (fun k => spec_l06DrawOps.l0 k xs n b i h) (r, i', h') ∧ 0 ≤ i' ∧ r.length ≤ 100 ∧ (∀ x ∈ r, x.f2.length ≤ 1048576 ∧ x.f1 < 20 ∧ ∀ y ∈ x.f2, y < 20) := by
  induction d with
  | zero =>
    intro xs n i h h0 hn hd hl hw
    refine ⟨xs, i, h, ?_, h0, by omega, hw⟩
    refine Ev.step (fun k => by rw [spec_l06DrawOps.l0]) ?_
    exact ev_neg (by omega) (Ev.now _)
  | succ d ih =>
    intro xs n i h h0 hn hd hl hw
    obtain ⟨y1, i1, h1, e1, g1, _⟩ := below_ev b hb i h 6 h0
    obtain ⟨y2, i2, h2, e2, g2⟩ := pick_ev b hb i1 h1 g1 [0, 1, 2, 2, 3, 0, 1, wrap64 (y1 - 1)] (by simp) (by simp)
    obtain ⟨y3, i3, h3, e3, g3, _, g3', _⟩ := below_ev b hb i2 h2 14 g2
    have g3'' := g3' (by decide)
    obtain ⟨y4, i4, h4, e4, g4, g5, _, g6⟩ := drawSet_ev b hb i3 h3 g3
    have := g5.2
    obtain ⟨r, i', h', m1, m2, m3, m4⟩ := ih (xs ++ [⟨y2, y3, y4⟩]) (n - 1) i4 h4 g4 (by omega) (by omega) (by simp; omega) (fun z hz => by
      rcases List.mem_append.1 hz with hz | hz
      · exact hw z hz
      · rw [List.mem_singleton] at hz; rw [hz]; exact ⟨by show y4.length ≤ _; omega, by show y3 < 20; omega, g6⟩)
    refine ⟨r, i', h', ?_, m2, m3, m4⟩
    refine Ev.step (fun k => by rw [spec_l06DrawOps.l0]) ?_
    refine ev_pos (by omega) (Ev.bind (ev_const e1) (Ev.bind (ev_const e2) (Ev.bind (ev_const e3) (Ev.bind e4 (ev_pos (by omega) ?_)))))
    rw [w64 (x := n - 1) (by omega) (by omega)]
    exact m1
theorem drawOps_ev (b : List Int) (hb : b.length ≤ 1048576) (i h : Int) (h0 : 0 ≤ i) (l : List Int) (hl : l.length ≤ 1048576) : ∃ r i' h', Ev (fun k => spec_l06DrawOps.f k b i h l) (r, i', h') ∧ 0 ≤ i' ∧ r.length ≤ 100 ∧ (∀ x ∈ r, x.f2.length ≤ 1048576 ∧ x.f1 < 20 ∧ ∀ y ∈ x.f2, y < 20) := by
  obtain ⟨n, e, n1, n2⟩ := size_ev l hl 12
  have n3 := n2 (by omega)
  obtain ⟨y, i1, h1, e1, g0, g1, g2, _⟩ := below_ev b hb i h (2 + n) h0
  have g3 := g2 (by omega)
  obtain ⟨r, i', h', m1, m2⟩ := drawOps_l b hb y.toNat [] y i1 h1 g0 (by omega) (by omega) (by simp; omega) (by simp)
  refine ⟨r, i', h', ?_, m2⟩
  unfold spec_l06DrawOps.f
  refine Ev.bind (ev_const e) ?_
  rw [w64 (x := 2 + n) (by omega) (by omega)]
  exact Ev.bind (ev_const e1) m1
theorem drawRight_ev (b : List Int) (hb : b.length ≤ 1048576) (i h : Int) (h0 : 0 ≤ i) (l : List Int) (hl : l.length ≤ 1048576) : ∃ a1 b1 c1 i' h', Ev (fun k => spec_l06DrawRight.f k b i h l) (a1, b1, c1, i', h') ∧ 0 ≤ i' ∧ ConfP a1 b1 c1 ∧ Low a1 b1 c1 := by
  obtain ⟨s, i1, h1, e1, g1, g2, g3, gR⟩ := drawSet_ev b hb i h h0
  obtain ⟨ops, i2, h2, e2, g4, g5, g6⟩ := drawOps_ev b hb i1 h1 g1 l hl
  obtain ⟨a', b', c', t', m1, m2⟩ := specPlay_ev ops g5 g6 s [] [] ⟨g2, g3, ids_nil, ids_nil, fun e => by rw [e] at g3; simp at g3, fun x hx => by simp at hx⟩ (fun x hx => by simp at hx; exact gR x hx)
  exact ⟨a', b', c', i2, h2, Ev.bind e1 (Ev.bind e2 (Ev.bind m1 (Ev.now _))), g4, m2⟩

theorem new_l (l : List Int) (hl : l.length ≤ 1048576) (d : Nat) : ∀ (i : Nat) (h : Int), l.length = i + d → ∃ h', Ev (fun k => spec_l01New.l0 k l h i) (l, 0, h') := by
  induction d with
  | zero =>
    intro i h hd
    refine ⟨h, ?_⟩
    refine Ev.step (fun k => by rw [spec_l01New.l0]) ?_
    exact ev_neg (by omega) (Ev.now _)
  | succ d ih =>
    intro i h hd
    by_cases h4 : (i : Int) < 4000
    · obtain ⟨h', hh⟩ := ih (i + 1) (Go.bits .and .i64 (wrap64 ((wrap64 ((wrap64 (h * 149)) + (wrap64 (rd l i)))) + 11)) 1073741823) (by omega)
      refine ⟨h', ?_⟩
      refine Ev.step (fun k => by rw [spec_l01New.l0]) ?_
      rw [wsucc (n := l.length) (by omega) (by omega)]
      exact ev_pos (by omega) (ev_pos h4 (ev_pos (by omega) hh))
    · refine ⟨h, ?_⟩
      refine Ev.step (fun k => by rw [spec_l01New.l0]) ?_
      exact ev_pos (by omega) (ev_neg h4 (Ev.now _))
theorem new_ev (l : List Int) (hl : l.length ≤ 1048576) : ∃ h, Ev (fun k => spec_l01New.f k l) (l, 0, h) := by
  obtain ⟨h, hh⟩ := new_l l hl l.length 0 (wrap64 (138138 + (l.length : Int))) (by omega)
  exact ⟨h, hh⟩

theorem drawConf_ev (l : List Int) (hl : l.length ≤ 1048576) : ∃ a b c w, Ev (fun k => spec_DrawRightConf.f k l) (a, b, c, w) ∧ ConfP a b c ∧ IdsP w ∧ 0 < w.length ∧ Low a b c ∧ ∀ y ∈ w, y < 20 := by
  obtain ⟨h, e0⟩ := new_ev l hl
  obtain ⟨a, b, c, i1, h1, e1, g1, g2, gR⟩ := drawRight_ev l hl 0 h (by omega) l hl
  obtain ⟨w, i2, h2, e2, _, g3, g4, g5⟩ := drawSet_ev l hl i1 h1 g1
  exact ⟨a, b, c, w, Ev.bind e0 (Ev.bind e1 (Ev.bind e2 (Ev.now _))), g2, g3, g4, gR, g5⟩

def Asc (l : List Int) : Prop := ∀ i j : Nat, i < j → j < l.length → rd l i < rd l j
theorem asc_of {l : List Int} (h : IdsP l) : Asc l := by
  intro i j
  induction j with
  | zero => intro h1; omega
  | succ j ih =>
    intro hij hj
    have := (h.1 (j + 1) hj).2.2 (by omega)
    rw [Nat.add_sub_cancel] at this
    by_cases e : i = j
    · subst e; exact this
    · have := ih (by omega) (by omega); omega
theorem asc_pw {l : List Int} (h : Asc l) : l.Pairwise (· < ·) := by
  rw [List.pairwise_iff_getElem]
  intro i j hi hj hij
  have := h i j hij hj
  unfold rd at this
  rwa [toNat_cast, toNat_cast, getD_lt l i 0 hi, getD_lt l j 0 hj] at this

theorem less_e (x y : Int) : cmp_Less_int.f x y = some (decide (x < y)) := by
  unfold cmp_Less_int.f cmp_isNaN_int.f
  simp
theorem bs_end (l : List Int) (hl : l.length ≤ 1048576) (x : Int) (i : Nat) (hi : i ≤ l.length) : ∃ p : Nat, p ≤ l.length ∧ Ev (fun k => slices_BinarySearch_int_int.l0 k l x l.length i i) ((p : Int), decide (p < l.length ∧ rd l p = x)) ∧ (Asc l → (∀ q : Nat, q < i → rd l q < x) → (∀ q : Nat, i ≤ q → q < l.length → ¬ rd l q < x) → (∀ q : Nat, q < p → rd l q < x) ∧ (∀ q : Nat, p ≤ q → q < l.length → ¬ rd l q < x)) := by
  refine ⟨i, hi, ?_, fun _ a b => ⟨a, b⟩⟩
  refine Ev.step (fun k => by rw [slices_BinarySearch_int_int.l0]) ?_
  refine ev_neg (by omega) ?_
  by_cases h : i < l.length
  · refine ev_pos (by omega) (ev_pos (by omega) (ev_pos (by omega) ?_))
    by_cases e : rd l i = x
    · rw [decide_eq_true ⟨h, e⟩]; exact ev_pos e (Ev.now _)
    · rw [decide_eq_false (fun q => e q.2)]
      exact ev_neg e (Ev.bind (a := false) (ev_const (by unfold slices_isNaN_int.f; simp)) (ev_neg (by simp) (Ev.now _)))
  · rw [decide_eq_false (fun q => h q.1)]
    exact ev_neg (by omega) (Ev.now _)
theorem bs_l (l : List Int) (hl : l.length ≤ 1048576) (x : Int) (d : Nat) : ∀ i j : Nat, j ≤ i + d → i ≤ j → j ≤ l.length → ∃ p : Nat, p ≤ l.length ∧ Ev (fun k => slices_BinarySearch_int_int.l0 k l x l.length i j) ((p : Int), decide (p < l.length ∧ rd l p = x)) ∧ (Asc l → (∀ q : Nat, q < i → rd l q < x) → (∀ q : Nat, j ≤ q → q < l.length → ¬ rd l q < x) → (∀ q : Nat, q < p → rd l q < x) ∧ (∀ q : Nat, p ≤ q → q < l.length → ¬ rd l q < x)) := by
  induction d with
  | zero =>
    intro i j h1 h2 h3
    obtain rfl : i = j := by omega
    exact bs_end l hl x i h3
  | succ d ih =>
    intro i j h1 h2 h3
    by_cases hij : i < j
    rotate_left
    · obtain rfl : i = j := by omega
      exact bs_end l hl x i h3
    have hm : wrap64 ((IntKind.u64.wrap (wrap64 ((i : Int) + j))) / 2) = (((i + j) / 2 : Nat) : Int) := by
      rw [w64 (x := (i : Int) + j) (by omega) (by omega), u64w (by omega) (by omega), w64 (by omega) (by omega)]
      omega
    by_cases h : rd l ((i + j) / 2 : Nat) < x
    · obtain ⟨p, p1, p2, p3⟩ := ih ((i + j) / 2 + 1) j (by omega) (by omega) h3
      refine ⟨p, p1, ?_, fun s a b => p3 s (fun q hq => ?_) b⟩
      · refine Ev.step (fun k => by rw [slices_BinarySearch_int_int.l0]) ?_
        rw [hm]
        refine ev_pos (by omega) (ev_pos (by omega) (ev_pos (by omega) (Ev.bind (ev_const (less_e _ _)) (ev_pos (decide_eq_true h) ?_))))
        rw [wsucc (n := l.length) (by omega) (by omega)]
        exact p2
      · by_cases e : q = (i + j) / 2
        · subst e; exact h
        · have := s q ((i + j) / 2) (by omega) (by omega); omega
    · obtain ⟨p, p1, p2, p3⟩ := ih i ((i + j) / 2) (by omega) (by omega) (by omega)
      refine ⟨p, p1, ?_, fun s a b => p3 s a (fun q hq1 hq2 => ?_)⟩
      · refine Ev.step (fun k => by rw [slices_BinarySearch_int_int.l0]) ?_
        rw [hm]
        exact ev_pos (by omega) (ev_pos (by omega) (ev_pos (by omega) (Ev.bind (ev_const (less_e _ _)) (ev_neg (by simpa using h) p2))))
      · by_cases e : q = (i + j) / 2
        · subst e; exact h
        · have := s ((i + j) / 2) q (by omega) hq2; omega
/-- slices.BinarySearch: it ends whatever the list, and finds in one that ascends. -/
theorem bs_ev (l : List Int) (hl : l.length ≤ 1048576) (x : Int) : ∃ (p : Nat) (t : Bool), p ≤ l.length ∧ Ev (fun k => slices_BinarySearch_int_int.f k l x) ((p : Int), t) ∧ (Asc l → t = decide (x ∈ l) ∧ (x ∈ l → p < l.length ∧ rd l p = x) ∧ (∀ q : Nat, q < p → rd l q < x) ∧ (∀ q : Nat, p ≤ q → q < l.length → ¬ rd l q < x)) := by
  obtain ⟨p, p1, p2, p3⟩ := bs_l l hl x l.length 0 l.length (by omega) (by omega) (by omega)
  refine ⟨p, _, p1, p2, fun s => ?_⟩
  obtain ⟨q1, q2⟩ := p3 s (fun q h => by omega) (fun q h1 h2 => by omega)
  have hx : x ∈ l → p < l.length ∧ rd l p = x := fun h => by
    obtain ⟨j, hj, e⟩ := (mem_rd l x).1 h
    have h1 : ¬ j < p := fun h => by have := q1 j h; omega
    have h2 : ¬ p < j := fun h => by
      have a := s p j h hj
      have b := q2 p (by omega) (by omega)
      omega
    obtain rfl : j = p := by omega
    exact ⟨hj, e⟩
  refine ⟨?_, hx, q1, q2⟩
  by_cases h : x ∈ l
  · rw [decide_eq_true h, decide_eq_true (hx h)]
  · rw [decide_eq_false h, decide_eq_false (fun q => h ((mem_rd l x).2 ⟨p, q.1, q.2⟩))]

theorem copyConf_e (a b c : List Int) (ha : a.length ≤ 1048576) (hb : b.length ≤ 1048576) (hc : c.length ≤ 1048576) : impl_copyConf.f a b c = some (a, b, c) := by
  unfold impl_copyConf.f
  simp only [Option.bind_some, List.length_nil, List.nil_append]
  rw [if_pos (by omega), if_pos (by omega), if_pos (by omega)]

/-- compact of a sorted list: its members, each once, in order. -/
theorem compactUpTo_sorted (d : Array Int) (hs : ∀ i j, i < j → j < d.size → d[i]! ≤ d[j]!) : ∀ m, m ≤ d.size → (Lib.compactUpTo d m).Pairwise (· < ·) ∧ (∀ x, x ∈ Lib.compactUpTo d m ↔ ∃ j, j < m ∧ d[j]! = x) := by
  intro m
  induction m with
  | zero =>
    intro _
    refine ⟨by simp [Lib.compactUpTo], fun x => ⟨fun h => by simp [Lib.compactUpTo] at h, fun ⟨j, h, _⟩ => by omega⟩⟩
  | succ m ih =>
    intro hm
    obtain ⟨h1, h2⟩ := ih (by omega)
    rw [Lib.compactUpTo_succ]
    by_cases hk : Lib.keeps d m = true
    · rw [if_pos hk]
      have hlt : ∀ j, j < m → d[j]! < d[m]! := fun j hj => by
        have a := hs j m hj (by omega)
        rcases Int.lt_or_eq_of_le a with h | h
        · exact h
        · exfalso
          have b := hs j (m - 1)
          have c : d[m - 1]! ≤ d[m]! := hs (m - 1) m (by omega) (by omega)
          have e : d[m]! = d[m - 1]! := by
            by_cases q : j = m - 1
            · rw [← q]; exact h.symm
            · have := b (by omega) (by omega); omega
          rw [Lib.keeps_neg (by omega) e] at hk
          cases hk
      refine ⟨?_, fun x => ?_⟩
      · rw [List.pairwise_append]
        refine ⟨h1, by simp, fun a ha b hb => ?_⟩
        obtain ⟨j, hj, rfl⟩ := (h2 a).1 ha
        rw [List.mem_singleton] at hb
        rw [hb]
        exact hlt j hj
      · rw [List.mem_append, h2, List.mem_singleton]
        constructor
        · rintro (⟨j, hj, e⟩ | rfl)
          · exact ⟨j, by omega, e⟩
          · exact ⟨m, by omega, rfl⟩
        · rintro ⟨j, hj, e⟩
          by_cases q : j = m
          · subst q; exact .inr e.symm
          · exact .inl ⟨j, by omega, e⟩
    · have hk' : Lib.keeps d m = false := by simpa using hk
      rw [if_neg hk, List.append_nil]
      refine ⟨h1, fun x => ?_⟩
      rw [h2]
      constructor
      · rintro ⟨j, hj, e⟩; exact ⟨j, by omega, e⟩
      · rintro ⟨j, hj, e⟩
        by_cases q : j = m
        · subst q
          by_cases h0 : j = 0
          · subst h0
            rw [Lib.keeps_lt_one d 0 (by omega)] at hk'; cases hk'
          · by_cases q2 : d[j]! = d[j - 1]!
            · exact ⟨j - 1, by omega, q2.symm.trans e⟩
            · rw [Lib.keeps_pos q2] at hk'; cases hk'
        · exact ⟨j, by omega, e⟩

theorem compact_vot (a b : List Int) (hr : ∀ x, x ∈ a ∨ x ∈ b → 0 ≤ x ∧ x ≤ 99) : Lib.compact ((a ++ b).mergeSort fun x y => decide (x ≤ y)) = votM a b 100 := by
  obtain ⟨zs, hz⟩ : ∃ zs, zs = (a ++ b).mergeSort fun x y => decide (x ≤ y) := ⟨_, rfl⟩
  have hp : zs.Pairwise (fun a b => (fun x y : Int => decide (x ≤ y)) a b = true) := by
    rw [hz]
    exact List.pairwise_mergeSort (fun a b c h1 h2 => by simp at h1 h2 ⊢; omega) (fun a b => by simp; omega) _
  have hm : ∀ x, x ∈ zs ↔ x ∈ a ∨ x ∈ b := fun x => by rw [hz, List.mem_mergeSort, List.mem_append]
  rw [← hz]
  have hs : ∀ i j, i < j → j < zs.toArray.size → zs.toArray[i]! ≤ zs.toArray[j]! := fun i j hij hj => by
    have hj' : j < zs.length := by simpa using hj
    have := List.pairwise_iff_getElem.1 hp i j (by omega) hj' hij
    rw [getElem!_pos _ i (by simp; omega), getElem!_pos _ j hj]
    simpa using this
  obtain ⟨h1, h2⟩ := compactUpTo_sorted zs.toArray hs zs.length (by simp)
  refine strict_eq _ _ h1 (votM_sorted a b 100) fun x => ?_
  show x ∈ Lib.compactUpTo zs.toArray zs.length ↔ _
  rw [h2, votM_mem]
  constructor
  · rintro ⟨j, hj, rfl⟩
    have hx : zs.toArray[j]! ∈ a ∨ zs.toArray[j]! ∈ b := by
      rw [getElem!_pos _ j (by simpa using hj)]
      exact (hm _).1 (by simp)
    have := hr _ hx
    exact ⟨by omega, by omega, hx⟩
  · rintro ⟨_, _, h⟩
    obtain ⟨j, hj, e⟩ := List.mem_iff_getElem.1 ((hm x).2 h)
    refine ⟨j, hj, ?_⟩
    rw [getElem!_pos _ j (by simpa using hj)]
    simpa using e
theorem votersI_ev (a b c : List Int) (h : ConfP a b c) : Ev (fun k => impl_Voters.f k a b c) (votM a b 100) := by
  obtain ⟨pa, _, pb, pc, _⟩ := id h
  have la := pa.2
  have lb := pb.2
  obtain ⟨r, h1, _, h3⟩ := isConf_ev a b c (by omega) (by omega) (by have := pc.2; omega)
  have hs : slices_Sort_int_int.f (a ++ b) = some ((a ++ b).mergeSort fun x y => decide (x ≤ y)) := by
    unfold slices_Sort_int_int.f
    rw [if_pos (by simp; omega)]
  have hcm : slices_Compact_int_int.f ((a ++ b).mergeSort fun x y => decide (x ≤ y)) = some (votM a b 100) := by
    unfold slices_Compact_int_int.f
    rw [if_pos (by simp; omega), compact_vot a b (fun x hx => hx.elim (ids_range pa) (ids_range pb))]
  unfold impl_Voters.f
  refine Ev.bind h1 (ev_pos (h3.2 h) ?_)
  refine Ev.bind (a := ([] : List Int)) (Ev.now _) (ev_pos (by simp; omega) (Ev.bind (a := a) (ev_const (by simp)) (ev_pos (by omega) ?_)))
  exact Ev.bind (ev_const hs) (Ev.bind (ev_const hcm) (Ev.now _))

theorem at_ev (l : List Int) (hl : l.length ≤ 1048576) (hw : ∀ x ∈ l, (Lit.int .u8 x).wf = true) (i : Nat) (hi : i ≤ 1000) : ∃ x, laws_at.f l i = some x ∧ 0 ≤ x ∧ x ≤ 255 := by
  unfold laws_at.f
  by_cases h : (i : Int) < (l.length : Int)
  · rw [if_pos h, if_pos (by omega)]
    have hx : 0 ≤ rd l i ∧ rd l i ≤ 255 := by
      unfold rd
      rw [toNat_cast]
      have := hw _ (getD_mem l i 0 (by omega))
      generalize l.getD i 0 = x at this ⊢
      simp [Lit.wf, IntKind.min, IntKind.max, IntKind.signed, IntKind.bits] at this
      omega
    exact ⟨_, rfl, by rw [w64 (by omega) (by omega)]; omega, by rw [w64 (by omega) (by omega)]; omega⟩
  · rw [if_neg h, w64 (x := (i : Int) * 13) (by omega) (by omega), w64 (x := (l.length : Int) * 5) (by omega) (by omega), w64 (by omega) (by omega)]
    exact ⟨_, rfl, Int.tmod_nonneg _ (by omega), by have := Int.tmod_lt_of_pos ((i : Int) * 13 + (l.length : Int) * 5) (show (0 : Int) < 256 by omega); omega⟩

theorem within_l (l : List Int) (hl : l.length ≤ 1048576) (x : Int) (d : Nat) : ∀ i : Nat, l.length = i + d → (∀ j : Nat, j < i → rd l j ≠ x) → Ev (fun k => laws_within.l0 k l x i) (decide (x ∈ l)) := by
  induction d with
  | zero =>
    intro i hd hb
    rw [decide_eq_false (fun h => by obtain ⟨j, hj, e⟩ := (mem_rd l x).1 h; exact hb j (by omega) e)]
    refine Ev.step (fun k => by rw [laws_within.l0]) ?_
    exact ev_neg (by omega) (Ev.now _)
  | succ d ih =>
    intro i hd hb
    refine Ev.step (fun k => by rw [laws_within.l0]) ?_
    rw [wsucc (j := i) (n := l.length) (by omega) (by omega)]
    refine ev_pos (by omega) (ev_pos (by omega) ?_)
    by_cases e : rd l i = x
    · rw [decide_eq_true ((mem_rd l x).2 ⟨i, by omega, e⟩)]
      exact ev_pos e (Ev.now _)
    · exact ev_neg e (ih (i + 1) (by omega) (fun j hj => if q : j = i then by rw [q]; exact e else hb j (by omega)))
theorem within_ev (l : List Int) (hl : l.length ≤ 1048576) (x : Int) : Ev (fun k => laws_within.f k l x) (decide (x ∈ l)) := within_l l hl x l.length 0 (by omega) (fun j hj => by omega)
theorem sameI_l (l : List Int) (hl : l.length ≤ 1048576) (d : Nat) : ∀ i : Nat, l.length = i + d → Ev (fun k => laws_sameInts.l0 k l l i) true := by
  induction d with
  | zero =>
    intro i hd
    refine Ev.step (fun k => by rw [laws_sameInts.l0]) ?_
    exact ev_neg (by omega) (Ev.now _)
  | succ d ih =>
    intro i hd
    refine Ev.step (fun k => by rw [laws_sameInts.l0]) ?_
    rw [wsucc (j := i) (n := l.length) (by omega) (by omega)]
    exact ev_pos (by omega) (ev_pos (by omega) (ev_pos (by omega) (ev_pos rfl (ih (i + 1) (by omega)))))
theorem sameI_ev (l : List Int) (hl : l.length ≤ 1048576) : Ev (fun k => laws_sameInts.f k l l) true := by
  unfold laws_sameInts.f
  exact ev_pos rfl (sameI_l l hl l.length 0 (by omega))
theorem sameC_ev (a b c : List Int) (ha : a.length ≤ 1048576) (hb : b.length ≤ 1048576) (hc : c.length ≤ 1048576) : Ev (fun k => laws_sameConf.f k a b c a b c) true := by
  unfold laws_sameConf.f
  exact Ev.bind (sameI_ev a ha) (ev_pos rfl (Ev.bind (sameI_ev b hb) (ev_pos rfl (Ev.bind (sameI_ev c hc) (Ev.now _)))))
theorem confOk_ev {a b c : List Int} (h : ConfP a b c) : Ev (fun k => impl_isConf.f k a b c) true := by
  have la := h.1.2
  have lb := h.2.2.1.2
  have lc := h.2.2.2.1.2
  obtain ⟨r, h1, _, h3⟩ := isConf_ev a b c (by omega) (by omega) (by omega)
  rwa [h3.2 h] at h1
theorem begin_ev {a b c w : List Int} (h : ConfP a b c) (hw : IdsP w) (hw0 : 0 < w.length) : (Ev (fun k => impl_Begin.f k a b c w) (a, w, c.filter (fun x => !decide (x ∈ w)), true) ∧ ConfP a w (c.filter (fun x => !decide (x ∈ w)))) ∨ Ev (fun k => impl_Begin.f k a b c w) (a, b, c, false) := by
  have la := h.1.2
  have lb := h.2.2.1.2
  have lc := h.2.2.2.1.2
  have lw := hw.2
  have hk := confOk_ev h
  have hcp := copyConf_e a b c (by omega) (by omega) (by omega)
  unfold impl_Begin.f impl_begin.f
  by_cases hb : (b.length : Int) > 0
  · refine .inr (Ev.bind (a := (a, b, c, false)) (Ev.bind (ev_const hcp) (Ev.bind hk (ev_pos rfl (ev_pos hb ?_)))) (Ev.now _))
    refine Ev.step (fun k => by rw [impl_begin.j0]) ?_
    exact ev_pos rfl (Ev.now _)
  have lf := List.length_filter_le (fun x => !decide (x ∈ w)) c
  obtain ⟨r, r1, _, r3⟩ := isConf_ev a w (c.filter (fun x => !decide (x ∈ w))) (by omega) (by omega) (by omega)
  have hdf : slices_DeleteFunc_int_int.f c w = some (c.filter (fun x => !decide (x ∈ w))) := by
    unfold slices_DeleteFunc_int_int.f slices_DeleteFunc_int_int.p
    rfl
  have hz : ((w.length : Int) == 0) = false := beq_false_of_ne (by omega)
  by_cases hr : r = true
  · refine .inl ⟨Ev.bind (a := (a, w, c.filter (fun x => !decide (x ∈ w)), true)) (Ev.bind (ev_const hcp) (Ev.bind hk (ev_pos rfl (ev_neg hb ?_)))) (Ev.now _), r3.1 hr⟩
    refine Ev.step (fun k => by rw [impl_begin.j0]) ?_
    refine ev_neg (by rw [hz]; simp) (Ev.bind (Ev.now _) (ev_pos (by simp; omega) (Ev.bind (Ev.now _) ?_)))
    rw [List.nil_append]
    exact Ev.bind (ev_const hdf) (Ev.bind r1 (ev_pos hr (Ev.now _)))
  · refine .inr (Ev.bind (a := (a, b, c, false)) (Ev.bind (ev_const hcp) (Ev.bind hk (ev_pos rfl (ev_neg hb ?_)))) (Ev.now _))
    refine Ev.step (fun k => by rw [impl_begin.j0]) ?_
    refine ev_neg (by rw [hz]; simp) (Ev.bind (Ev.now _) (ev_pos (by simp; omega) (Ev.bind (Ev.now _) ?_)))
    rw [List.nil_append]
    exact Ev.bind (ev_const hdf) (Ev.bind r1 (ev_neg hr (Ev.bind (ev_const hcp) (Ev.now _))))
theorem finish_ev {a b c : List Int} (h : ConfP a b c) (hb : 0 < b.length) : Ev (fun k => impl_Finish.f k a b c) (b, [], c, true) := by
  have la := h.1.2
  have lb := h.2.2.1.2
  have lc := h.2.2.2.1.2
  unfold impl_Finish.f impl_finish.f
  exact Ev.bind (Ev.bind (ev_const (copyConf_e a b c (by omega) (by omega) (by omega))) (Ev.bind (confOk_ev h) (ev_pos rfl (ev_neg (by omega) (Ev.now _))))) (Ev.now _)
/-- An id above all: put in at the end, or refused where there is no room. -/
theorem learnOn_ev {a b c : List Int} (h : ConfP a b c) {id : Int} (hlo : ∀ x, x ∈ a ∨ x ∈ b ∨ x ∈ c → x < id) (h0 : 0 ≤ id) (h9 : id ≤ 99) : (c.length = 7 → Ev (fun k => impl_Learner.f k a b c id true) (a, b, c, false)) ∧ (c.length ≠ 7 → Ev (fun k => impl_Learner.f k a b c id true) (a, b, c ++ [id], true) ∧ ConfP a b (c ++ [id])) := by
  have la := h.1.2
  have lb := h.2.2.1.2
  have hI := h.2.2.2.1
  have lc := hI.2
  have hk := confOk_ev h
  have hcp := copyConf_e a b c (by omega) (by omega) (by omega)
  obtain ⟨p, t, p1, p2, p3⟩ := bs_ev c (by omega) id
  obtain ⟨t1, _, q1, q2⟩ := p3 (asc_of hI)
  have hall : ∀ q : Nat, q < c.length → rd c q < id := fun q hq => hlo _ (.inr (.inr ((mem_rd c _).2 ⟨q, hq, rfl⟩)))
  have hp : p = c.length := by
    by_cases e : p = c.length
    · exact e
    · exact absurd (hall p (by omega)) (q2 p (Nat.le_refl _) (by omega))
  have hid : id ∉ c := fun hx => by have := hlo id (.inr (.inr hx)); omega
  have ht : t = false := by rw [t1]; exact decide_eq_false hid
  have hins : slices_Insert_int_int.f c p [id] = some (c ++ [id]) := by
    unfold slices_Insert_int_int.f
    rw [if_pos ⟨by omega, by omega, rfl, by omega⟩, toNat_cast, hp, List.take_length, List.drop_length, List.append_nil]
  obtain ⟨r, r1, _, r3⟩ := isConf_ev a b (c ++ [id]) (by omega) (by omega) (by simp; omega)
  have go : ∀ (x : List Int × List Int × List Int × Bool), Ev (fun k => impl_learner.j1 k a b c a b (c ++ [id])) x → Ev (fun k => impl_Learner.f k a b c id true) (x.1, x.2.1, x.2.2.1, x.2.2.2) := fun x hx => by
    unfold impl_Learner.f impl_learner.f
    refine Ev.bind (a := x) (Ev.bind (ev_const hcp) (Ev.bind p2 (Ev.bind hk (ev_pos rfl ?_)))) (Ev.now _)
    refine Ev.step (fun k => by rw [impl_learner.j0]) ?_
    exact ev_neg (by rw [ht]; simp) (ev_pos rfl (Ev.bind (ev_const hins) hx))
  refine ⟨fun e7 => ?_, fun e7 => ?_⟩
  · have hr : ¬ r = true := fun q => by have := (r3.1 q).2.2.2.1.2; rw [List.length_append, List.length_singleton] at this; omega
    refine go (a, b, c, false) ?_
    refine Ev.step (fun k => by rw [impl_learner.j1]) ?_
    exact Ev.bind r1 (ev_neg hr (Ev.bind (ev_const hcp) (Ev.now _)))
  · have hC : ConfP a b (c ++ [id]) := by
      obtain ⟨k1, k2, k3, k4, k5, k6⟩ := h
      refine ⟨k1, k2, k3, ids_of ?_ ?_ (by simp; omega), k5, fun x hx => ?_⟩
      · rw [List.pairwise_append]
        exact ⟨ids_pw k4, by simp, fun u hu v hv => by rw [List.mem_singleton] at hv; rw [hv]; exact hlo u (.inr (.inr hu))⟩
      · intro x hx
        rcases List.mem_append.1 hx with hx | hx
        · exact ids_range k4 hx
        · rw [List.mem_singleton] at hx; omega
      · rcases List.mem_append.1 hx with hx | hx
        · exact k6 x hx
        · rw [List.mem_singleton] at hx
          rw [hx]
          exact ⟨fun q => by have := hlo id (.inl q); omega, fun q => by have := hlo id (.inr (.inl q)); omega⟩
    refine ⟨go (a, b, c ++ [id], true) ?_, hC⟩
    refine Ev.step (fun k => by rw [impl_learner.j1]) ?_
    exact Ev.bind r1 (ev_pos (r3.2 hC) (Ev.now _))
theorem learnOff_ev {a b c : List Int} {id : Int} (h : ConfP a b (c ++ [id])) (h' : ConfP a b c) (hid : id ∉ c) : Ev (fun k => impl_Learner.f k a b (c ++ [id]) id false) (a, b, c, true) := by
  have la := h.1.2
  have lb := h.2.2.1.2
  have hI := h.2.2.2.1
  have lc := hI.2
  have lc' := h'.2.2.2.1.2
  have hk := confOk_ev h
  have hk' := confOk_ev h'
  have hcp := copyConf_e a b (c ++ [id]) (by omega) (by omega) (by omega)
  have hlen : (c ++ [id]).length = c.length + 1 := by simp
  obtain ⟨p, t, p1, p2, p3⟩ := bs_ev (c ++ [id]) (by omega) id
  obtain ⟨t1, t2, q1, q2⟩ := p3 (asc_of hI)
  have hm : id ∈ c ++ [id] := by simp
  obtain ⟨g1, g2⟩ := t2 hm
  have hp : p = c.length := by
    by_cases e : p = c.length
    · exact e
    · refine absurd ?_ hid
      rw [← g2]
      unfold rd
      rw [toNat_cast, List.getD_eq_getElem?_getD, List.getElem?_append_left (by omega), List.getElem?_eq_getElem (show p < c.length by omega)]
      exact List.getElem_mem _
  have ht : t = true := by rw [t1]; exact decide_eq_true hm
  have hdel : slices_Delete_int_int.f (c ++ [id]) p (wrap64 ((p : Int) + 1)) = some c := by
    unfold slices_Delete_int_int.f
    rw [wsucc (n := (c ++ [id]).length) g1 (by omega), if_pos ⟨by omega, by omega, by omega⟩, toNat_cast, hp, List.eraseIdx_append_of_length_le (Nat.le_refl _), Nat.sub_self]
    simp
  unfold impl_Learner.f impl_learner.f
  refine Ev.bind (a := (a, b, c, true)) (Ev.bind (ev_const hcp) (Ev.bind p2 (Ev.bind hk (ev_pos rfl ?_)))) (Ev.now _)
  refine Ev.step (fun k => by rw [impl_learner.j0]) ?_
  refine ev_neg (by rw [ht]; simp) (ev_neg (by simp) (Ev.bind (ev_const hdel) ?_))
  refine Ev.step (fun k => by rw [impl_learner.j1]) ?_
  exact Ev.bind hk' (ev_pos rfl (Ev.now _))
theorem tail_ev (l0 : List Int) (hl : l0.length ≤ 1048576) (hw : ∀ x ∈ l0, (Lit.int .u8 x).wf = true) {a b c : List Int} (h : ConfP a b c) (hR : Low a b c) : Ev (fun k => (laws_at.f l0 3).bind fun t661 => ((impl_Learner.f k a b c (wrap64 (20 + (Int.tmod t661 70))) true).bind fun bt662 => (if (c.length : Int) = 7 then (some (!bt662.2.2.2)) else ((impl_Learner.f k bt662.1 bt662.2.1 bt662.2.2.1 (wrap64 (20 + (Int.tmod t661 70))) false).bind fun bt673 => (if bt662.2.2.2 = true then (if bt673.2.2.2 = true then ((laws_within.f k bt662.2.2.1 (wrap64 (20 + (Int.tmod t661 70)))).bind fun t684 => (if t684 = true then ((laws_sameConf.f k bt673.1 bt673.2.1 bt673.2.2.1 a b c).bind fun t685 => (if t685 = true then ((impl_Voters.f k bt662.1 bt662.2.1 bt662.2.2.1).bind fun t686 => ((laws_within.f k t686 (wrap64 (20 + (Int.tmod t661 70)))).bind fun t689 => (some (!t689)))) else (some false))) else (some false))) else (some false)) else (some false)))))) true := by
  obtain ⟨x, hx, x0, x1⟩ := at_ev l0 hl hw 3 (by omega)
  have la := h.1.2
  have lb := h.2.2.1.2
  have lc := h.2.2.2.1.2
  have m0 : 0 ≤ Int.tmod x 70 := Int.tmod_nonneg _ x0
  have m1 : Int.tmod x 70 < 70 := Int.tmod_lt_of_pos _ (by omega)
  obtain ⟨id, hid⟩ : ∃ id : Int, id = 20 + Int.tmod x 70 := ⟨_, rfl⟩
  have hwid : wrap64 (20 + Int.tmod x 70) = id := by rw [w64 (by omega) (by omega)]; omega
  refine Ev.bind (ev_const hx) ?_
  rw [hwid]
  have hlo : ∀ y, y ∈ a ∨ y ∈ b ∨ y ∈ c → y < id := fun y hy => by have := hR y hy; omega
  obtain ⟨k1, k2⟩ := learnOn_ev h hlo (by omega) (by omega)
  by_cases h7 : c.length = 7
  · exact Ev.bind (k1 h7) (ev_pos (by omega) (Ev.now _))
  obtain ⟨k3, k4⟩ := k2 h7
  have hni : id ∉ c := fun hx => by have := hlo id (.inr (.inr hx)); omega
  have hoff := learnOff_ev k4 h hni
  have hwi := within_ev (c ++ [id]) (by simp; omega) id
  rw [decide_eq_true (show id ∈ c ++ [id] by simp)] at hwi
  have hv := votersI_ev a b (c ++ [id]) k4
  have hvl := votM_len a b 100
  have hwv := within_ev (votM a b 100) (by omega) id
  rw [decide_eq_false (fun q => by
    rcases ((votM_mem a b 100 id).1 q).2.2 with q | q
    · have := hlo id (.inl q); omega
    · have := hlo id (.inr (.inl q)); omega)] at hwv
  refine Ev.bind k3 (ev_neg (by omega) (Ev.bind hoff (ev_pos rfl (ev_pos rfl (Ev.bind hwi (ev_pos rfl ?_))))))
  exact Ev.bind (sameC_ev a b c (by omega) (by omega) (by omega)) (ev_pos rfl (Ev.bind hv (Ev.bind hwv (Ev.now _))))
theorem loop_l (l0 w : List Int) (hw7 : w.length ≤ 1048576) (a b c o : List Int) (n : List Int) (hT : Ev (fun k => laws_FnConfs.l0 k l0 w (w.length : Int) a b c o n (c.filter (fun x => !decide (x ∈ w)))) true) (hc : c.length ≤ 1000) (d : Nat) : ∀ i : Nat, w.length = i + d → Ev (fun k => laws_FnConfs.l0 k l0 w i a b c o n (c.filter (fun x => !decide (x ∈ w)))) true := by
  induction d with
  | zero => intro i hd; rw [show i = w.length by omega]; exact hT
  | succ d ih =>
    intro i hd
    have lf := List.length_filter_le (fun x => !decide (x ∈ w)) c
    have hx : rd w i ∈ w := (mem_rd w _).2 ⟨i, by omega, rfl⟩
    have hwi := within_ev (c.filter (fun x => !decide (x ∈ w))) (by omega) (rd w i)
    rw [decide_eq_false (fun q => by
      have := (List.mem_filter.1 q).2
      simp [hx] at this)] at hwi
    refine Ev.step (fun k => by rw [laws_FnConfs.l0]) ?_
    rw [wsucc (j := i) (n := w.length) (by omega) (by omega)]
    exact ev_pos (by omega) (ev_pos (by omega) (Ev.bind hwi (ev_neg (by simp) (ih (i + 1) (by omega)))))
theorem FnConfs : Stated := by
  intro l0 ⟨hm, hw⟩
  refine Ev.rounds (?_ : Ev (fun k => laws_FnConfs.f k l0) true)
  unfold laws_FnConfs.f laws_big.f
  by_cases hb : (l0.length : Int) > 1048576
  · exact Ev.bind (ev_const rfl) (ev_pos (decide_eq_true hb) (Ev.now _))
  have hl : l0.length ≤ 1048576 := by omega
  obtain ⟨a, b, c, w, e, hC, hwI, hw0, hR, hRw⟩ := drawConf_ev l0 hl
  have la := hC.1.2
  have lb := hC.2.2.1.2
  have lc := hC.2.2.2.1.2
  have lw := hwI.2
  have hT := tail_ev l0 hl hw hC hR
  refine Ev.bind (ev_const rfl) (ev_neg (by simpa using hb) (Ev.bind e ?_))
  rcases begin_ev hC hwI hw0 with ⟨b1, b2⟩ | b1
  · have hf := finish_ev b2 hw0
    obtain ⟨k1, k2, k3, k4, k5, k6⟩ := id b2
    have hL : ConfP w [] (c.filter (fun x => !decide (x ∈ w))) := ⟨hwI, hw0, ids_nil, k4, fun q => by rw [q] at hw0; simp at hw0, fun x hx => ⟨(k6 x hx).2, by simp⟩⟩
    refine Ev.bind b1 (ev_pos rfl (Ev.bind hf (ev_pos rfl (Ev.bind (a := true) ?_ (ev_pos rfl (Ev.bind (a := true) ?_ (ev_pos rfl ?_)))))))
    · unfold impl_ConfOk.f
      exact Ev.bind (confOk_ev b2) (Ev.now _)
    · unfold impl_ConfOk.f
      exact Ev.bind (confOk_ev hL) (Ev.now _)
    refine Ev.bind (sameI_ev w (by omega)) (ev_pos rfl (ev_pos (by simp) (Ev.bind (sameI_ev a (by omega)) (ev_pos rfl (Ev.bind (sameI_ev w (by omega)) (ev_pos rfl ?_))))))
    refine loop_l l0 w (by omega) a b c w [] ?_ (by omega) w.length 0 (by omega)
    refine Ev.step (fun k => by rw [laws_FnConfs.l0]) ?_
    exact ev_neg (by omega) hT
  · exact Ev.bind b1 (ev_neg (by simp) hT)

end Go.Proofs.Ytoemdmjdpikfbaa.Pure
