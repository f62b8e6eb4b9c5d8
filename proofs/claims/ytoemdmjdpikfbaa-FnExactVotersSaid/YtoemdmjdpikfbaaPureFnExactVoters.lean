/- The law FnExactVoters answers true at every input. No condition. -/
import Derived.Test.YtoemdmjdpikfbaaOpnFnExactVoters
import Derived.Test.YtoemdmjdpikfbaaBase
namespace Go.Proofs.Ytoemdmjdpikfbaa.Pure
open Go.RowKit Go.Proofs.Ytoemdmjdpikfbaa.QFnExactVoters Go.Proofs.Ytoemdmjdpikfbaa.OpnFnExactVoters Go.Proofs.Ytoemdmjdpikfbaa.Base Go.Proofs.YtoemdmjdpikfbaaW.PrintWords Go.Proofs.YtoemdmjdpikfbaaW.PrintLast
set_option linter.unusedVariables false
set_option linter.unusedSimpArgs false

def IdsP (l : List Int) : Prop := (∀ j : Nat, j < l.length → 0 ≤ rd l j ∧ rd l j ≤ 99 ∧ (0 < j → rd l (j - 1 : Nat) < rd l j)) ∧ l.length ≤ 7
theorem in_eq (x a b : Int) : spec_l01In.f x a b = some (decide (a ≤ x ∧ x ≤ b)) := by
  unfold spec_l01In.f
  by_cases h : a ≤ x
  · rw [if_pos h]; congr 1; simp [h]
  · rw [if_neg h, decide_eq_false (fun q => h q.1)]
theorem ids_l (l : List Int) (hl : l.length ≤ 1048576) (d : Nat) : ∀ i : Nat, l.length = i + d → ∃ b, Ev (fun k => impl_areIds.l0 k l l (l.length : Int) i) b ∧ Ev (fun k => spec_l06Ids.l0 k l i) b ∧ (b = true ↔ (∀ j : Nat, i ≤ j → j < l.length → 0 ≤ rd l j ∧ rd l j ≤ 99 ∧ (0 < j → rd l (j - 1 : Nat) < rd l j)) ∧ l.length ≤ 7) := by
  induction d with
  | zero =>
    intro i hd
    refine ⟨decide ((l.length : Int) ≤ 7), ?_, ?_, ?_⟩
    · refine Ev.step (fun k => by rw [impl_areIds.l0]) ?_
      exact ev_neg (by omega) (Ev.now _)
    · refine Ev.step (fun k => by rw [spec_l06Ids.l0]) ?_
      exact ev_neg (by omega) (Ev.now _)
    · rw [decide_eq_true_iff]
      exact ⟨fun h => ⟨fun j h1 h2 => by omega, by omega⟩, fun h => by have := h.2; omega⟩
  | succ d ih =>
    intro i hd
    have hi := wsucc (j := i) (n := l.length) (by omega) (by omega)
    obtain ⟨b, hb1, hb2, hb⟩ := ih (i + 1) (by omega)
    have bad : (¬ (0 ≤ rd l i ∧ rd l i ≤ 99 ∧ (0 < i → rd l (i - 1 : Nat) < rd l i))) → (false = true ↔ (∀ j : Nat, i ≤ j → j < l.length → 0 ≤ rd l j ∧ rd l j ≤ 99 ∧ (0 < j → rd l (j - 1 : Nat) < rd l j)) ∧ l.length ≤ 7) := fun h => ⟨fun q => (by cases q), fun q => absurd (q.1 i (Nat.le_refl i) (by omega)) h⟩
    have good : (0 ≤ rd l i ∧ rd l i ≤ 99 ∧ (0 < i → rd l (i - 1 : Nat) < rd l i)) → (b = true ↔ (∀ j : Nat, i ≤ j → j < l.length → 0 ≤ rd l j ∧ rd l j ≤ 99 ∧ (0 < j → rd l (j - 1 : Nat) < rd l j)) ∧ l.length ≤ 7) := fun h => by
      rw [hb]
      refine ⟨fun q => ⟨fun j h1 h2 => ?_, q.2⟩, fun q => ⟨fun j h1 h2 => q.1 j (by omega) h2, q.2⟩⟩
      rcases Nat.eq_or_lt_of_le h1 with e | e
      · subst e; exact h
      · exact q.1 j e h2
    by_cases h1 : rd l i < 0
    · refine ⟨false, ?_, ?_, bad (by omega)⟩
      · refine Ev.step (fun k => by rw [impl_areIds.l0]) ?_
        exact ev_pos (by omega) (ev_pos (by omega) (ev_pos (by omega) (ev_pos h1 (Ev.now _))))
      · refine Ev.step (fun k => by rw [spec_l06Ids.l0]) ?_
        exact ev_pos (by omega) (ev_pos (by omega) (Ev.bind (ev_const (in_eq _ _ _)) (ev_neg (by simp; omega) (Ev.now _))))
    by_cases h2 : rd l i > 99
    · refine ⟨false, ?_, ?_, bad (by omega)⟩
      · refine Ev.step (fun k => by rw [impl_areIds.l0]) ?_
        exact ev_pos (by omega) (ev_pos (by omega) (ev_pos (by omega) (ev_neg h1 (ev_pos h2 (Ev.now _)))))
      · refine Ev.step (fun k => by rw [spec_l06Ids.l0]) ?_
        exact ev_pos (by omega) (ev_pos (by omega) (Ev.bind (ev_const (in_eq _ _ _)) (ev_neg (by simp; omega) (Ev.now _))))
    have hin : decide (0 ≤ rd l i ∧ rd l i ≤ 99) = true := decide_eq_true ⟨by omega, by omega⟩
    by_cases h0 : i = 0
    · subst h0
      refine ⟨b, ?_, ?_, good ⟨by omega, by omega, fun h => by omega⟩⟩
      · refine Ev.step (fun k => by rw [impl_areIds.l0]) ?_
        refine ev_pos (by omega) (ev_pos (by omega) (ev_pos (by omega) (ev_neg h1 (ev_neg h2 (ev_neg (by omega) ?_)))))
        rw [hi]; exact hb1
      · refine Ev.step (fun k => by rw [spec_l06Ids.l0]) ?_
        refine ev_pos (by omega) (ev_pos (by omega) (Ev.bind (ev_const (in_eq _ _ _)) (ev_pos hin (ev_neg (by omega) ?_))))
        rw [hi]; exact hb2
    have hp := wpred (j := i) (by omega) (by omega)
    by_cases h3 : rd l (i - 1 : Nat) ≥ rd l i
    · refine ⟨false, ?_, ?_, bad (fun q => by have := q.2.2 (by omega); omega)⟩
      · refine Ev.step (fun k => by rw [impl_areIds.l0]) ?_
        refine ev_pos (by omega) (ev_pos (by omega) (ev_pos (by omega) (ev_neg h1 (ev_neg h2 (ev_pos (by omega) ?_)))))
        rw [hp]
        exact ev_pos (by omega) (ev_pos (by omega) (ev_pos h3 (Ev.now _)))
      · refine Ev.step (fun k => by rw [spec_l06Ids.l0]) ?_
        refine ev_pos (by omega) (ev_pos (by omega) (Ev.bind (ev_const (in_eq _ _ _)) (ev_pos hin (ev_pos (by omega) ?_))))
        rw [hp]
        exact ev_pos (by omega) (ev_pos (by omega) (ev_pos h3 (Ev.now _)))
    · refine ⟨b, ?_, ?_, good ⟨by omega, by omega, fun _ => by omega⟩⟩
      · refine Ev.step (fun k => by rw [impl_areIds.l0]) ?_
        refine ev_pos (by omega) (ev_pos (by omega) (ev_pos (by omega) (ev_neg h1 (ev_neg h2 (ev_pos (by omega) ?_)))))
        rw [hp, hi]
        exact ev_pos (by omega) (ev_pos (by omega) (ev_neg h3 hb1))
      · refine Ev.step (fun k => by rw [spec_l06Ids.l0]) ?_
        refine ev_pos (by omega) (ev_pos (by omega) (Ev.bind (ev_const (in_eq _ _ _)) (ev_pos hin (ev_pos (by omega) ?_))))
        rw [hp, hi]
        exact ev_pos (by omega) (ev_pos (by omega) (ev_neg h3 hb2))
theorem ids_ev (l : List Int) (hl : l.length ≤ 1048576) : ∃ b, Ev (fun k => impl_areIds.f k l) b ∧ Ev (fun k => spec_l06Ids.f k l) b ∧ (b = true ↔ IdsP l) := by
  obtain ⟨b, h1, h2, h3⟩ := ids_l l hl l.length 0 (by omega)
  exact ⟨b, h1, h2, h3.trans ⟨fun h => ⟨fun j hj => h.1 j (by omega) hj, h.2⟩, fun h => ⟨fun j _ hj => h.1 j hj, h.2⟩⟩⟩
theorem same_l (l m : List Int) (hl : l.length ≤ 1048576) (hm : m.length = l.length) (d : Nat) : ∀ i : Nat, l.length = i + d → ∃ b, Ev (fun k => slices_Equal_int_int.l0 k l m (l.length : Int) i) b ∧ Ev (fun k => spec_l06Same.l0 k l m i) b ∧ (b = true ↔ ∀ j : Nat, i ≤ j → j < l.length → rd l j = rd m j) := by
  induction d with
  | zero =>
    intro i hd
    refine ⟨true, ?_, ?_, ⟨fun _ j h1 h2 => by omega, fun _ => rfl⟩⟩
    · refine Ev.step (fun k => by rw [slices_Equal_int_int.l0]) ?_
      exact ev_neg (by omega) (Ev.now _)
    · refine Ev.step (fun k => by rw [spec_l06Same.l0]) ?_
      exact ev_neg (by omega) (Ev.now _)
  | succ d ih =>
    intro i hd
    have hi := wsucc (j := i) (n := l.length) (by omega) (by omega)
    by_cases h : rd l i = rd m i
    · obtain ⟨b, hb1, hb2, hb⟩ := ih (i + 1) (by omega)
      refine ⟨b, ?_, ?_, hb.trans ⟨fun q j h1 h2 => ?_, fun q j h1 h2 => q j (by omega) h2⟩⟩
      · refine Ev.step (fun k => by rw [slices_Equal_int_int.l0]) ?_
        rw [hi]
        exact ev_pos (by omega) (ev_pos (by omega) (ev_pos (by omega) (ev_pos (by omega) (ev_pos h hb1))))
      · refine Ev.step (fun k => by rw [spec_l06Same.l0]) ?_
        rw [hi]
        exact ev_pos (by omega) (ev_pos (by omega) (ev_pos (by omega) (ev_pos h hb2)))
      · rcases Nat.eq_or_lt_of_le h1 with e | e
        · subst e; exact h
        · exact q j e h2
    · refine ⟨false, ?_, ?_, ⟨fun q => (by cases q), fun q => absurd (q i (Nat.le_refl i) (by omega)) h⟩⟩
      · refine Ev.step (fun k => by rw [slices_Equal_int_int.l0]) ?_
        exact ev_pos (by omega) (ev_pos (by omega) (ev_pos (by omega) (ev_pos (by omega) (ev_neg h (Ev.now _)))))
      · refine Ev.step (fun k => by rw [spec_l06Same.l0]) ?_
        exact ev_pos (by omega) (ev_pos (by omega) (ev_pos (by omega) (ev_neg h (Ev.now _))))
theorem same_ev (l m : List Int) (hl : l.length ≤ 1048576) (hm : m.length ≤ 1048576) : ∃ b, Ev (fun k => slices_Equal_int_int.f k l m) b ∧ Ev (fun k => spec_l06Same.f k l m) b ∧ (b = true ↔ l = m) := by
  unfold slices_Equal_int_int.f spec_l06Same.f
  by_cases h : (l.length : Int) = (m.length : Int)
  · obtain ⟨b, h1, h2, h3⟩ := same_l l m hl (by omega) l.length 0 (by omega)
    refine ⟨b, ev_pos h h1, ev_pos h h2, h3.trans ⟨fun q => ?_, fun e => by subst e; exact fun _ _ _ => rfl⟩⟩
    refine List.ext_getElem (by omega) fun j hj hj' => ?_
    have := q j (by omega) hj
    unfold rd at this
    rwa [toNat_cast, getD_lt l j 0 hj, getD_lt m j 0 hj'] at this
  · exact ⟨false, ev_neg h (Ev.now _), ev_neg h (Ev.now _), ⟨fun q => (by cases q), fun e => absurd (by rw [e]) h⟩⟩
theorem has_l (l : List Int) (hl : l.length ≤ 1048576) (x : Int) (d : Nat) : ∀ i : Nat, l.length = i + d → ∃ b, Ev (fun k => spec_l01Has.l0 k l x i) b ∧ (b = true ↔ ∃ j : Nat, i ≤ j ∧ j < l.length ∧ rd l j = x) := by
  induction d with
  | zero =>
    intro i hd
    refine ⟨false, ?_, ⟨fun q => (by cases q), fun ⟨j, h1, h2, _⟩ => by omega⟩⟩
    refine Ev.step (fun k => by rw [spec_l01Has.l0]) ?_
    exact ev_neg (by omega) (Ev.now _)
  | succ d ih =>
    intro i hd
    have hi := wsucc (j := i) (n := l.length) (by omega) (by omega)
    by_cases h : rd l i = x
    · refine ⟨true, ?_, ⟨fun _ => ⟨i, Nat.le_refl i, by omega, h⟩, fun _ => rfl⟩⟩
      refine Ev.step (fun k => by rw [spec_l01Has.l0]) ?_
      exact ev_pos (by omega) (ev_pos (by omega) (ev_pos h (Ev.now _)))
    · obtain ⟨b, hb, h2⟩ := ih (i + 1) (by omega)
      refine ⟨b, ?_, h2.trans ⟨fun ⟨j, h3, h4, h5⟩ => ⟨j, by omega, h4, h5⟩, fun ⟨j, h3, h4, h5⟩ => ⟨j, ?_, h4, h5⟩⟩⟩
      · refine Ev.step (fun k => by rw [spec_l01Has.l0]) ?_
        rw [hi]
        exact ev_pos (by omega) (ev_pos (by omega) (ev_neg h hb))
      · rcases Nat.eq_or_lt_of_le h3 with e | e
        · subst e; exact absurd h5 h
        · exact e
theorem mem_rd (l : List Int) (x : Int) : x ∈ l ↔ ∃ j : Nat, j < l.length ∧ rd l j = x := by
  constructor
  · intro h
    obtain ⟨j, hj, e⟩ := List.mem_iff_getElem.1 h
    refine ⟨j, hj, ?_⟩
    unfold rd
    rw [toNat_cast, getD_lt l j 0 hj]; exact e
  · rintro ⟨j, hj, rfl⟩
    unfold rd
    rw [toNat_cast]
    exact getD_mem l j 0 hj
theorem has_ev (l : List Int) (hl : l.length ≤ 1048576) (x : Int) : Ev (fun k => spec_l01Has.f k l x) (decide (x ∈ l)) := by
  obtain ⟨b, h1, h2⟩ := has_l l hl x l.length 0 (by omega)
  have : b = decide (x ∈ l) := by
    rw [Bool.eq_iff_iff, h2, decide_eq_true_iff, mem_rd]
    exact ⟨fun ⟨j, _, h3, h4⟩ => ⟨j, h3, h4⟩, fun ⟨j, h3, h4⟩ => ⟨j, by omega, h3, h4⟩⟩
  rw [← this]; exact h1
def ConfP (a b c : List Int) : Prop := IdsP a ∧ 0 < a.length ∧ IdsP b ∧ IdsP c ∧ a ≠ b ∧ ∀ x ∈ c, x ∉ a ∧ x ∉ b
theorem confOk_l (a b c : List Int) (ha : a.length ≤ 1048576) (hb : b.length ≤ 1048576) (hc : c.length ≤ 1048576) (d : Nat) : ∀ i : Nat, c.length = i + d → ∃ r, Ev (fun k => spec_ConfOk.l0 k i a b c) r ∧ (r = true ↔ ∀ j : Nat, i ≤ j → j < c.length → rd c j ∉ a ∧ rd c j ∉ b) := by
  induction d with
  | zero =>
    intro i hd
    refine ⟨true, ?_, ⟨fun _ j h1 h2 => by omega, fun _ => rfl⟩⟩
    refine Ev.step (fun k => by rw [spec_ConfOk.l0]) ?_
    exact ev_neg (by omega) (Ev.now _)
  | succ d ih =>
    intro i hd
    have hi := wsucc (j := i) (n := c.length) (by omega) (by omega)
    by_cases h1 : rd c i ∈ a
    · refine ⟨false, ?_, ⟨fun q => (by cases q), fun q => absurd h1 (q i (Nat.le_refl i) (by omega)).1⟩⟩
      refine Ev.step (fun k => by rw [spec_ConfOk.l0]) ?_
      exact ev_pos (by omega) (ev_pos (by omega) (Ev.bind (has_ev a ha _) (ev_pos (decide_eq_true h1) (Ev.now _))))
    by_cases h2 : rd c i ∈ b
    · refine ⟨false, ?_, ⟨fun q => (by cases q), fun q => absurd h2 (q i (Nat.le_refl i) (by omega)).2⟩⟩
      refine Ev.step (fun k => by rw [spec_ConfOk.l0]) ?_
      exact ev_pos (by omega) (ev_pos (by omega) (Ev.bind (has_ev a ha _) (ev_neg (by simpa using h1) (Ev.bind (has_ev b hb _) (ev_pos (decide_eq_true h2) (Ev.now _))))))
    obtain ⟨r, hr, h3⟩ := ih (i + 1) (by omega)
    refine ⟨r, ?_, h3.trans ⟨fun q j e1 e2 => ?_, fun q j e1 e2 => q j (by omega) e2⟩⟩
    · refine Ev.step (fun k => by rw [spec_ConfOk.l0]) ?_
      rw [hi]
      exact ev_pos (by omega) (ev_pos (by omega) (Ev.bind (has_ev a ha _) (ev_neg (by simpa using h1) (Ev.bind (has_ev b hb _) (ev_neg (by simpa using h2) hr)))))
    · rcases Nat.eq_or_lt_of_le e1 with e | e
      · subst e; exact ⟨h1, h2⟩
      · exact q j e e2
theorem isConf_ev (a b c : List Int) (ha : a.length ≤ 1048576) (hb : b.length ≤ 1048576) (hc : c.length ≤ 1048576) : ∃ r, Ev (fun k => impl_isConf.f k a b c) r ∧ Ev (fun k => spec_ConfOk.f k a b c) r ∧ (r = true ↔ ConfP a b c) := by
  obtain ⟨ia, ia1, ia2, ia3⟩ := ids_ev a ha
  obtain ⟨ib, ib1, ib2, ib3⟩ := ids_ev b hb
  obtain ⟨ic, ic1, ic2, ic3⟩ := ids_ev c hc
  obtain ⟨q, q1, q2, q3⟩ := same_ev a b ha hb
  obtain ⟨r, r1, r2⟩ := confOk_l a b c ha hb hc c.length 0 (by omega)
  have j0 : ∀ x : Bool, x = true → Ev (fun k => spec_ConfOk.j0 k x a b c) false := fun x hx => by
    refine Ev.step (fun k => by rw [spec_ConfOk.j0]) ?_
    exact ev_pos hx (Ev.now _)
  have nb : ∀ {x : Bool}, ¬ x = true → x = false := fun {x} h => by simpa using h
  have set_ : ∀ y : Bool, y = decide ((a.length : Int) > 0) → ia = true → Ev (fun k => spec_l06Set.f k a) y := fun y hy h => by
    unfold spec_l06Set.f
    rw [hy]
    exact Ev.bind ia2 (ev_pos h (Ev.now _))
  unfold impl_isConf.f spec_ConfOk.f
  by_cases h1 : ia = true
  rotate_left
  · refine ⟨false, Ev.bind ia1 (ev_neg h1 (Ev.now _)), ?_, ⟨fun q => (by cases q), fun q => absurd (ia3.2 q.1) h1⟩⟩
    refine Ev.bind (a := false) (by unfold spec_l06Set.f; exact Ev.bind ia2 (ev_neg h1 (Ev.now _))) (ev_neg (by simp) (j0 _ rfl))
  by_cases h2 : (a.length : Int) = 0
  · exact ⟨false, Ev.bind ia1 (ev_pos h1 (ev_pos h2 (Ev.now _))), Ev.bind (set_ _ rfl h1) (ev_neg (by rw [decide_eq_false (by omega)]; simp) (j0 _ rfl)), ⟨fun q => (by cases q), fun q => by have := q.2.1; omega⟩⟩
  have hs : decide ((a.length : Int) > 0) = true := decide_eq_true (by omega)
  by_cases h3 : ib = true
  rotate_left
  · exact ⟨false, Ev.bind ia1 (ev_pos h1 (ev_neg h2 (Ev.bind ib1 (ev_neg h3 (Ev.now _))))), Ev.bind (set_ _ rfl h1) (ev_pos hs (Ev.bind ib2 (ev_neg h3 (j0 _ rfl)))), ⟨fun q => (by cases q), fun q => absurd (ib3.2 q.2.2.1) h3⟩⟩
  by_cases h5 : ic = true
  rotate_left
  · refine ⟨false, Ev.bind ia1 (ev_pos h1 (ev_neg h2 (Ev.bind ib1 (ev_pos h3 (Ev.bind q1 ?_))))), Ev.bind (set_ _ rfl h1) (ev_pos hs (Ev.bind ib2 (ev_pos h3 (Ev.bind ic2 (ev_neg h5 (j0 _ rfl)))))), ⟨fun q => (by cases q), fun q => absurd (ic3.2 q.2.2.2.1) h5⟩⟩
    by_cases h4 : q = true
    · exact ev_pos h4 (Ev.now _)
    · exact ev_neg h4 (Ev.bind ic1 (ev_neg h5 (Ev.now _)))
  by_cases h4 : q = true
  · exact ⟨false, Ev.bind ia1 (ev_pos h1 (ev_neg h2 (Ev.bind ib1 (ev_pos h3 (Ev.bind q1 (ev_pos h4 (Ev.now _))))))), Ev.bind (set_ _ rfl h1) (ev_pos hs (Ev.bind ib2 (ev_pos h3 (Ev.bind ic2 (ev_pos h5 (Ev.bind q2 (j0 _ h4))))))), ⟨fun q => (by cases q), fun z => absurd (q3.1 h4) z.2.2.2.2.1⟩⟩
  have e : (!c.any (slices_ContainsFunc_int_int.p a b)) = r := by
    rw [Bool.eq_iff_iff, r2]
    simp only [Bool.not_eq_true', List.any_eq_false, slices_ContainsFunc_int_int.p, Bool.or_eq_true, decide_eq_true_iff, not_or]
    exact ⟨fun h j _ hj => h _ ((mem_rd c _).2 ⟨j, hj, rfl⟩), fun h x hx => by obtain ⟨j, hj, rfl⟩ := (mem_rd c x).1 hx; exact h j (by omega) hj⟩
  refine ⟨r, Ev.bind ia1 (ev_pos h1 (ev_neg h2 (Ev.bind ib1 (ev_pos h3 (Ev.bind q1 (ev_neg h4 (Ev.bind ic1 (ev_pos h5 (Ev.bind (a := c.any (slices_ContainsFunc_int_int.p a b)) (ev_const rfl) ?_))))))))), Ev.bind (set_ _ rfl h1) (ev_pos hs (Ev.bind ib2 (ev_pos h3 (Ev.bind ic2 (ev_pos h5 (Ev.bind q2 ?_)))))), ?_⟩
  · rw [e]; exact Ev.now _
  · refine Ev.step (fun k => by rw [spec_ConfOk.j0]) ?_
    exact ev_neg h4 r1
  · rw [r2]
    exact ⟨fun h => ⟨ia3.1 h1, by omega, ib3.1 h3, ic3.1 h5, fun z => h4 (q3.2 z), fun x hx => by obtain ⟨j, hj, rfl⟩ := (mem_rd c x).1 hx; exact h j (by omega) hj⟩, fun h j _ hj => h.2.2.2.2.2 _ ((mem_rd c _).2 ⟨j, hj, rfl⟩)⟩

theorem eqIntS_l (l : List Int) (hl : l.length ≤ 1048576) (d : Nat) : ∀ (i : Nat), l.length = i + d → Ev (fun k => laws_eqIntS.l0 k l l i) true := by
  induction d with
  | zero =>
    intro i hd
    refine Ev.step (fun k => by rw [laws_eqIntS.l0]) ?_
    exact ev_neg (by omega) (Ev.now _)
  | succ d ih =>
    intro i hd
    refine Ev.step (fun k => by rw [laws_eqIntS.l0]) ?_
    refine ev_pos (by omega) (ev_pos (by omega) (ev_pos (by omega) (ev_pos rfl ?_)))
    rw [wsucc (n := l.length) (by omega) (by omega)]
    exact ih (i + 1) (by omega)
theorem eqIntS_ev (l : List Int) (hl : l.length ≤ 1048576) : Ev (fun k => laws_eqIntS.f k l l) true := by
  unfold laws_eqIntS.f
  exact ev_pos rfl (eqIntS_l l hl l.length 0 (by omega))
/-- A slice of ints marked from c on, and held. -/
theorem markI_l (d : Nat) : ∀ (i : Nat) (xs : List Int) (c : Int), xs.length = i + d → xs.length ≤ 1048576 → 0 ≤ c → c + d ≤ 4611686018427387904 →
    ∃ ys, Ev (fun k => laws_markIntS.l0 k xs c i) (c + d, ys) ∧ ys.length = xs.length ∧ (∀ j, j < i → ys[j]? = xs[j]?) ∧ Ev (fun k => laws_heldIntS.l0 k ys c i) (c + d) := by
  induction d with
  | zero =>
    intro i xs c hd hl h0 h1
    refine ⟨xs, ?_, rfl, fun _ _ => rfl, ?_⟩
    · refine Ev.step (fun k => by rw [laws_markIntS.l0]) ?_
      refine ev_neg (by omega) ?_
      rw [show c + ((0 : Nat) : Int) = c by omega]
      exact Ev.now _
    · refine Ev.step (fun k => by rw [laws_heldIntS.l0]) ?_
      refine ev_neg (by omega) ?_
      rw [show c + ((0 : Nat) : Int) = c by omega]
      exact Ev.now _
  | succ d ih =>
    intro i xs c hd hl h0 h1
    have e1 : wrap64 (c + 1) = c + 1 := w64 (by omega) (by omega)
    obtain ⟨ys, hm, hy, hk, hh⟩ := ih (i + 1) (xs.set i c) (c + 1) (by simp; omega) (by simpa using hl) (by omega) (by omega)
    have e2 : c + 1 + (d : Int) = c + ((d + 1 : Nat) : Int) := by omega
    rw [e2] at hm hh
    refine ⟨ys, ?_, by simpa using hy, fun j hj => ?_, ?_⟩
    · refine Ev.step (fun k => by rw [laws_markIntS.l0]) ?_
      refine ev_pos (by omega) (ev_pos (by omega) ?_)
      rw [toNat_cast, e1, wsucc (n := xs.length) (by omega) (by omega)]
      exact hm
    · rw [hk j (by omega), List.getElem?_set_ne (by omega)]
    · have hi : rd ys (i : Int) = c := by
        unfold rd
        rw [toNat_cast, List.getD_eq_getElem?_getD, hk i (by omega), List.getElem?_set_self (by omega)]
        rfl
      have hyl : ys.length = xs.length := by simpa using hy
      refine Ev.step (fun k => by rw [laws_heldIntS.l0]) ?_
      refine ev_pos (by omega) (ev_pos (by omega) (ev_pos hi ?_))
      rw [e1, wsucc (n := ys.length) (by omega) (by omega)]
      exact hh
theorem markI_ev (xs : List Int) (hl : xs.length ≤ 1048576) (c : Int) (h0 : 0 ≤ c) (h1 : c ≤ 4611686018426339328) : ∃ ys, Ev (fun k => laws_markIntS.f k xs c) (c + xs.length, ys) ∧ ys.length = xs.length ∧ Ev (fun k => laws_heldIntS.f k ys c) (c + xs.length) := by
  obtain ⟨ys, h2, h3, _, h4⟩ := markI_l xs.length 0 xs c (by omega) hl h0 (by omega)
  exact ⟨ys, h2, h3, h4⟩

theorem set_take_next (l m : List Int) (i : Nat) (hi : i < l.length) (hm : m.length = l.length) (ht : m.take i = l.take i) : (m.set i (rd l (i : Int))).take (i + 1) = l.take (i + 1) := by
  rw [take_set_succ m i _ (by omega), ht, take_succ_getD l i 0 hi]
  unfold rd
  rw [toNat_cast]
theorem toIntS_l (l : List Int) (hl : l.length ≤ 1048576) (d : Nat) : ∀ (i : Nat) (m : List Int), l.length = i + d → m.length = l.length → m.take i = l.take i → Ev (fun k => laws_toIntS.l0 k l m i) l := by
  induction d with
  | zero =>
    intro i m hd hm ht
    have : m = l := by
      rw [List.take_of_length_le (by omega), List.take_of_length_le (by omega)] at ht
      exact ht
    subst this
    refine Ev.step (fun k => by rw [laws_toIntS.l0]) ?_
    exact ev_neg (by omega) (Ev.now _)
  | succ d ih =>
    intro i m hd hm ht
    refine Ev.step (fun k => by rw [laws_toIntS.l0]) ?_
    refine ev_pos (by omega) (ev_pos (by omega) (ev_pos (by omega) ?_))
    rw [wsucc (n := l.length) (by omega) (by omega), toNat_cast]
    exact ih (i + 1) _ (by omega) (by simpa using hm) (set_take_next l m i (by omega) hm ht)
theorem toIntS_ev (l : List Int) (hl : l.length ≤ 1048576) : Ev (fun k => laws_toIntS.f k l) l := by
  unfold laws_toIntS.f
  refine ev_pos (by omega) (ev_pos (by rw [toNat_cast]; omega) ?_)
  refine toIntS_l l hl l.length 0 _ (by omega) (by simp) (by simp)
theorem szIntS_e (l : List Int) (hl : l.length ≤ 9223372036854775807) (a : Int) (h0 : 0 ≤ a) (h1 : a ≤ 1048576) : laws_szIntS.f l a = some (if (l.length : Int) ≤ a then a - l.length else -1) := by
  unfold laws_szIntS.f
  rw [w64 (x := a - l.length) (by omega) (by omega)]
  by_cases h : (l.length : Int) ≤ a
  · rw [if_neg (by omega), if_pos h]
  · rw [if_pos (by omega), if_neg h]

theorem szConf_e (a b c : List Int) (ha : a.length ≤ 9223372036854775807) (hb : b.length ≤ 9223372036854775807) (hc : c.length ≤ 9223372036854775807) : (∃ r, r < 0 ∧ laws_szConf.f a b c 1048576 = some r) ∨ (∃ r, ¬ r < 0 ∧ laws_szConf.f a b c 1048576 = some r ∧ a.length ≤ 1048576 ∧ b.length ≤ 1048576 ∧ c.length ≤ 1048576) := by
  unfold laws_szConf.f
  rw [szIntS_e a ha 1048576 (by omega) (by omega), Option.bind_some]
  by_cases h1 : (a.length : Int) ≤ 1048576
  rotate_left
  · exact .inl ⟨-1, by omega, by rw [if_neg h1, if_pos (by omega)]⟩
  rw [if_pos h1, if_neg (by omega), szIntS_e b hb _ (by omega) (by omega), Option.bind_some]
  by_cases h2 : (b.length : Int) ≤ 1048576 - a.length
  rotate_left
  · exact .inl ⟨-1, by omega, by rw [if_neg h2, if_pos (by omega)]⟩
  rw [if_pos h2, if_neg (by omega), szIntS_e c hc _ (by omega) (by omega), Option.bind_some]
  by_cases h3 : (c.length : Int) ≤ 1048576 - a.length - b.length
  rotate_left
  · exact .inl ⟨-1, by omega, by rw [if_neg h3, if_pos (by omega)]⟩
  exact .inr ⟨1048576 - a.length - b.length - c.length, by omega, by rw [if_pos h3, if_neg (by omega)], by omega, by omega, by omega⟩
theorem toConf_ev (a b c : List Int) (ha : a.length ≤ 1048576) (hb : b.length ≤ 1048576) (hc : c.length ≤ 1048576) : Ev (fun k => laws_toConf.f k a b c) (a, b, c) :=
  Ev.bind (toIntS_ev a ha) (Ev.bind (toIntS_ev b hb) (Ev.bind (toIntS_ev c hc) (Ev.now _)))
theorem eqConf_ev (a b c : List Int) (ha : a.length ≤ 1048576) (hb : b.length ≤ 1048576) (hc : c.length ≤ 1048576) : Ev (fun k => laws_eqConf.f k a b c a b c) true :=
  Ev.bind (eqIntS_ev a ha) (ev_pos rfl (Ev.bind (eqIntS_ev b hb) (ev_pos rfl (Ev.bind (eqIntS_ev c hc) (ev_pos rfl (Ev.now _))))))
theorem markConf_ev (a b c : List Int) (ha : a.length ≤ 1048576) (hb : b.length ≤ 1048576) (hc : c.length ≤ 1048576) (m : Int) (h0 : 0 ≤ m) (h1 : m ≤ 1152921504606846976) : ∃ x y z, Ev (fun k => laws_markConf.f k a b c m) (m + a.length + b.length + c.length, x, y, z) := by
  obtain ⟨x, hx, _⟩ := markI_ev a ha m h0 (by omega)
  obtain ⟨y, hy, _⟩ := markI_ev b hb (m + a.length) (by omega) (by omega)
  obtain ⟨z, hz, _⟩ := markI_ev c hc (m + a.length + b.length) (by omega) (by omega)
  exact ⟨x, y, z, Ev.bind hx (Ev.bind hy (Ev.bind hz (Ev.now _)))⟩

/-- compact of a sorted list: its members, each once, in order. -/
theorem compactUpTo_sorted (d : Array Int) (hs : ∀ i j, i < j → j < d.size → d[i]! ≤ d[j]!) : ∀ m, m ≤ d.size → (Lib.compactUpTo d m).Pairwise (· < ·) ∧ (∀ x, x ∈ Lib.compactUpTo d m ↔ ∃ j, j < m ∧ d[j]! = x) := by
  intro m
  induction m with
  | zero =>
    intro _
    refine ⟨by simp [Lib.compactUpTo], fun x => ⟨fun h => by simp [Lib.compactUpTo] at h, fun ⟨j, h, _⟩ => by omega⟩⟩
  | succ m ih =>
    intro hm
    obtain ⟨h1, h2⟩ := ih (by omega)
    rw [Lib.compactUpTo_succ]
    by_cases hk : Lib.keeps d m = true
    · rw [if_pos hk]
      have hlt : ∀ j, j < m → d[j]! < d[m]! := fun j hj => by
        have a := hs j m hj (by omega)
        rcases Int.lt_or_eq_of_le a with h | h
        · exact h
        · exfalso
          have b := hs j (m - 1)
          have c : d[m - 1]! ≤ d[m]! := hs (m - 1) m (by omega) (by omega)
          have e : d[m]! = d[m - 1]! := by
            by_cases q : j = m - 1
            · rw [← q]; exact h.symm
            · have := b (by omega) (by omega); omega
          rw [Lib.keeps_neg (by omega) e] at hk
          cases hk
      refine ⟨?_, fun x => ?_⟩
      · rw [List.pairwise_append]
        refine ⟨h1, by simp, fun a ha b hb => ?_⟩
        obtain ⟨j, hj, rfl⟩ := (h2 a).1 ha
        rw [List.mem_singleton] at hb
        rw [hb]
        exact hlt j hj
      · rw [List.mem_append, h2, List.mem_singleton]
        constructor
        · rintro (⟨j, hj, e⟩ | rfl)
          · exact ⟨j, by omega, e⟩
          · exact ⟨m, by omega, rfl⟩
        · rintro ⟨j, hj, e⟩
          by_cases q : j = m
          · subst q; exact .inr e.symm
          · exact .inl ⟨j, by omega, e⟩
    · have hk' : Lib.keeps d m = false := by simpa using hk
      rw [if_neg hk, List.append_nil]
      refine ⟨h1, fun x => ?_⟩
      rw [h2]
      constructor
      · rintro ⟨j, hj, e⟩; exact ⟨j, by omega, e⟩
      · rintro ⟨j, hj, e⟩
        by_cases q : j = m
        · subst q
          by_cases h0 : j = 0
          · subst h0
            rw [Lib.keeps_lt_one d 0 (by omega)] at hk'; cases hk'
          · by_cases q2 : d[j]! = d[j - 1]!
            · exact ⟨j - 1, by omega, q2.symm.trans e⟩
            · rw [Lib.keeps_pos q2] at hk'; cases hk'
        · exact ⟨j, by omega, e⟩

theorem strict_eq : ∀ (xs ys : List Int), xs.Pairwise (· < ·) → ys.Pairwise (· < ·) → (∀ x, x ∈ xs ↔ x ∈ ys) → xs = ys := by
  intro xs
  induction xs with
  | nil =>
    intro ys _ _ h
    cases ys with
    | nil => rfl
    | cons y ys => exact absurd ((h y).2 (List.mem_cons_self ..)) (by simp)
  | cons x xs ih =>
    intro ys hx hy h
    cases ys with
    | nil => exact absurd ((h x).1 (List.mem_cons_self ..)) (by simp)
    | cons y ys =>
      rw [List.pairwise_cons] at hx hy
      have e : x = y := by
        rcases List.mem_cons.1 ((h x).1 (List.mem_cons_self ..)) with e | e
        · exact e
        · rcases List.mem_cons.1 ((h y).2 (List.mem_cons_self ..)) with e2 | e2
          · exact e2.symm
          · have := hy.1 x e; have := hx.1 y e2; omega
      subst e
      congr 1
      refine ih ys hx.2 hy.2 fun z => ⟨fun hz => ?_, fun hz => ?_⟩
      · rcases List.mem_cons.1 ((h z).1 (List.mem_cons_of_mem _ hz)) with e | e
        · have := hx.1 z hz; omega
        · exact e
      · rcases List.mem_cons.1 ((h z).2 (List.mem_cons_of_mem _ hz)) with e | e
        · have := hy.1 z hz; omega
        · exact e

def votM (a b : List Int) (m : Nat) : List Int := ((List.range m).map (fun i : Nat => (i : Int))).filter (fun x => decide (x ∈ a) || decide (x ∈ b))
theorem votM_mem (a b : List Int) (m : Nat) (x : Int) : x ∈ votM a b m ↔ 0 ≤ x ∧ x < m ∧ (x ∈ a ∨ x ∈ b) := by
  unfold votM
  rw [List.mem_filter, List.mem_map]
  constructor
  · rintro ⟨⟨i, hi, rfl⟩, h⟩
    rw [List.mem_range] at hi
    exact ⟨by omega, by omega, by simpa using h⟩
  · rintro ⟨h0, h1, h⟩
    exact ⟨⟨x.toNat, by rw [List.mem_range]; omega, by omega⟩, by simpa using h⟩
theorem votM_succ (a b : List Int) (m : Nat) : votM a b (m + 1) = if (m : Int) ∈ a ∨ (m : Int) ∈ b then votM a b m ++ [(m : Int)] else votM a b m := by
  unfold votM
  rw [List.range_succ, List.map_append, List.filter_append]
  by_cases h : (m : Int) ∈ a ∨ (m : Int) ∈ b
  · rw [if_pos h]
    congr 1
    simp [h]
  · rw [if_neg h]
    have h1 : ¬ (m : Int) ∈ a := fun q => h (.inl q)
    have h2 : ¬ (m : Int) ∈ b := fun q => h (.inr q)
    simp [h1, h2]
theorem votM_len (a b : List Int) (m : Nat) : (votM a b m).length ≤ m := by
  unfold votM
  refine Nat.le_trans (List.length_filter_le _ _) ?_
  simp
theorem votM_sorted (a b : List Int) (m : Nat) : (votM a b m).Pairwise (· < ·) := by
  induction m with
  | zero => simp [votM]
  | succ m ih =>
    rw [votM_succ]
    by_cases h : (m : Int) ∈ a ∨ (m : Int) ∈ b
    · rw [if_pos h, List.pairwise_append]
      refine ⟨ih, by simp, fun x hx y hy => ?_⟩
      rw [List.mem_singleton] at hy
      have := (votM_mem a b m x).1 hx
      omega
    · rw [if_neg h]; exact ih
theorem ids_range {l : List Int} (h : IdsP l) {x : Int} (hx : x ∈ l) : 0 ≤ x ∧ x ≤ 99 := by
  obtain ⟨j, hj, rfl⟩ := (mem_rd l x).1 hx
  exact ⟨(h.1 j hj).1, (h.1 j hj).2.1⟩

theorem compact_vot (a b : List Int) (hr : ∀ x, x ∈ a ∨ x ∈ b → 0 ≤ x ∧ x ≤ 99) : Lib.compact ((a ++ b).mergeSort fun x y => decide (x ≤ y)) = votM a b 100 := by
  obtain ⟨zs, hz⟩ : ∃ zs, zs = (a ++ b).mergeSort fun x y => decide (x ≤ y) := ⟨_, rfl⟩
  have hp : zs.Pairwise (fun a b => (fun x y : Int => decide (x ≤ y)) a b = true) := by
    rw [hz]
    exact List.pairwise_mergeSort (fun a b c h1 h2 => by simp at h1 h2 ⊢; omega) (fun a b => by simp; omega) _
  have hm : ∀ x, x ∈ zs ↔ x ∈ a ∨ x ∈ b := fun x => by rw [hz, List.mem_mergeSort, List.mem_append]
  rw [← hz]
  have hs : ∀ i j, i < j → j < zs.toArray.size → zs.toArray[i]! ≤ zs.toArray[j]! := fun i j hij hj => by
    have hj' : j < zs.length := by simpa using hj
    have := List.pairwise_iff_getElem.1 hp i j (by omega) hj' hij
    rw [getElem!_pos _ i (by simp; omega), getElem!_pos _ j hj]
    simpa using this
  obtain ⟨h1, h2⟩ := compactUpTo_sorted zs.toArray hs zs.length (by simp)
  refine strict_eq _ _ h1 (votM_sorted a b 100) fun x => ?_
  show x ∈ Lib.compactUpTo zs.toArray zs.length ↔ _
  rw [h2, votM_mem]
  constructor
  · rintro ⟨j, hj, rfl⟩
    have hx : zs.toArray[j]! ∈ a ∨ zs.toArray[j]! ∈ b := by
      rw [getElem!_pos _ j (by simpa using hj)]
      exact (hm _).1 (by simp)
    have := hr _ hx
    exact ⟨by omega, by omega, hx⟩
  · rintro ⟨_, _, h⟩
    obtain ⟨j, hj, e⟩ := List.mem_iff_getElem.1 ((hm x).2 h)
    refine ⟨j, hj, ?_⟩
    rw [getElem!_pos _ j (by simpa using hj)]
    simpa using e
theorem votersI_ev (a b c : List Int) (h : ConfP a b c) : Ev (fun k => impl_Voters.f k a b c) (votM a b 100) := by
  obtain ⟨pa, _, pb, pc, _⟩ := id h
  have la := pa.2
  have lb := pb.2
  obtain ⟨r, h1, _, h3⟩ := isConf_ev a b c (by omega) (by omega) (by have := pc.2; omega)
  have hs : slices_Sort_int_int.f (a ++ b) = some ((a ++ b).mergeSort fun x y => decide (x ≤ y)) := by
    unfold slices_Sort_int_int.f
    rw [if_pos (by simp; omega)]
  have hcm : slices_Compact_int_int.f ((a ++ b).mergeSort fun x y => decide (x ≤ y)) = some (votM a b 100) := by
    unfold slices_Compact_int_int.f
    rw [if_pos (by simp; omega), compact_vot a b (fun x hx => hx.elim (ids_range pa) (ids_range pb))]
  unfold impl_Voters.f
  refine Ev.bind h1 (ev_pos (h3.2 h) ?_)
  refine Ev.bind (a := ([] : List Int)) (Ev.now _) (ev_pos (by simp; omega) (Ev.bind (a := a) (ev_const (by simp)) (ev_pos (by omega) ?_)))
  exact Ev.bind (ev_const hs) (Ev.bind (ev_const hcm) (Ev.now _))

theorem voters_l (a b c : List Int) (ha : a.length ≤ 1048576) (hb : b.length ≤ 1048576) (d : Nat) : ∀ i : Nat, 100 = i + d → Ev (fun k => spec_Voters.l0 k (votM a b i) i a b c) (votM a b 100) := by
  induction d with
  | zero =>
    intro i hd
    have : i = 100 := by omega
    subst this
    refine Ev.step (fun k => by rw [spec_Voters.l0]) ?_
    exact ev_neg (by omega) (Ev.now _)
  | succ d ih =>
    intro i hd
    have hi := wsucc (j := i) (n := 100) (by omega) (by omega)
    have hlen := votM_len a b i
    have h := ih (i + 1) (by omega)
    rw [votM_succ] at h
    refine Ev.step (fun k => by rw [spec_Voters.l0]) ?_
    rw [hi]
    refine ev_pos (by omega) (Ev.bind (has_ev a ha _) ?_)
    by_cases h1 : (i : Int) ∈ a
    · rw [if_pos (.inl h1)] at h
      exact ev_pos (decide_eq_true h1) (ev_pos (by omega) h)
    refine ev_neg (by simpa using h1) (Ev.bind (has_ev b hb _) ?_)
    by_cases h2 : (i : Int) ∈ b
    · rw [if_pos (.inr h2)] at h
      exact ev_pos (decide_eq_true h2) (ev_pos (by omega) h)
    · rw [if_neg (by rintro (q | q) <;> contradiction)] at h
      exact ev_neg (by simpa using h2) h
theorem voters_ev (a b c : List Int) (ha : a.length ≤ 1048576) (hb : b.length ≤ 1048576) (hc : c.length ≤ 1048576) : ∃ v : List Int, v.length ≤ 100 ∧ Ev (fun k => impl_Voters.f k a b c) v ∧ Ev (fun k => spec_Voters.f k a b c) v := by
  obtain ⟨r, h1, h2, h3⟩ := isConf_ev a b c ha hb hc
  by_cases h : r = true
  rotate_left
  · unfold impl_Voters.f spec_Voters.f
    exact ⟨[], by simp, Ev.bind h1 (ev_neg h (Ev.now _)), Ev.bind h2 (ev_neg h (Ev.now _))⟩
  have hi := votersI_ev a b c (h3.1 h)
  obtain ⟨pa, _, pb, _⟩ := h3.1 h
  have la := pa.2
  have lb := pb.2
  refine ⟨votM a b 100, votM_len a b 100, hi, ?_⟩
  unfold spec_Voters.f
  exact Ev.bind h2 (ev_pos h (voters_l a b c ha hb 100 0 (by omega)))

theorem FnExactVoters : Stated := by
  rintro ⟨a, b, c⟩ ⟨⟨wa, _⟩, ⟨wb, _⟩, ⟨wc, _⟩⟩
  refine Ev.rounds (?_ : Ev (fun k => laws_FnExactVoters.f k a b c) true)
  unfold laws_FnExactVoters.f
  rcases szConf_e a b c wa wb wc with ⟨r, hr, e⟩ | ⟨r, hr, e, ha, hb, hc⟩
  · exact Ev.bind (ev_const e) (ev_pos hr (Ev.now _))
  have hT := toConf_ev a b c ha hb hc
  obtain ⟨v, hv, hi, hs⟩ := voters_ev a b c ha hb hc
  have hE := eqIntS_ev v (by omega)
  obtain ⟨y, hm, _, hh⟩ := markI_ev v (by omega) 1 (by omega) (by omega)
  obtain ⟨p, q, s, hM⟩ := markConf_ev a b c ha hb hc 1 (by omega) (by omega)
  refine Ev.bind (ev_const e) (ev_neg hr (Ev.bind hT (Ev.bind hs (Ev.bind hT (Ev.bind hi (Ev.bind hE (ev_pos rfl (Ev.bind hT (Ev.bind (eqConf_ev a b c ha hb hc) (ev_pos rfl (Ev.bind hM ?_)))))))))))
  refine ev_neg (by omega) (Ev.bind hE (ev_pos rfl (Ev.bind hm (Ev.bind hh (ev_neg (by omega) (ev_pos rfl (Ev.bind hT (Ev.bind hi (Ev.bind hE (ev_pos rfl (Ev.bind hh (ev_neg (by omega) (ev_pos rfl (Ev.now _))))))))))))))

end Go.Proofs.Ytoemdmjdpikfbaa.Pure
