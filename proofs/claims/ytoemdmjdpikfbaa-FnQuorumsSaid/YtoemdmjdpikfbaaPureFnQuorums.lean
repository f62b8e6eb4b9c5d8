/- The law FnQuorums answers true at every input. No condition. -/
import Derived.Test.YtoemdmjdpikfbaaOpnFnQuorums
import Derived.Test.YtoemdmjdpikfbaaBase
namespace Go.Proofs.Ytoemdmjdpikfbaa.Pure
open Go.RowKit Go.Proofs.Ytoemdmjdpikfbaa.QFnQuorums Go.Proofs.Ytoemdmjdpikfbaa.OpnFnQuorums Go.Proofs.Ytoemdmjdpikfbaa.Base Go.Proofs.YtoemdmjdpikfbaaW.PrintWords Go.Proofs.YtoemdmjdpikfbaaW.PrintLast
set_option linter.unusedVariables false
set_option linter.unusedSimpArgs false

theorem om {P : Prop} (h : P := by omega) : P := h
theorem nw {α : Type} {r : α} : Ev (fun _ => some r) r := Ev.now r
theorem ec {α : Type} {o : Option α} {r : α} (h : o = some r) : Ev (fun _ => o) r := ev_const h
theorem ep {α : Type} {c : Prop} [Decidable c] {f g : Nat → Option α} {r : α} (h : c) (k : Ev f r) : Ev (fun n => if c then f n else g n) r := ev_pos h k
theorem en {α : Type} {c : Prop} [Decidable c] {f g : Nat → Option α} {r : α} (h : ¬ c) (k : Ev g r) : Ev (fun n => if c then f n else g n) r := ev_neg h k
theorem eb {α β : Type} {g : Nat → Option α} {f : Nat → α → Option β} {a : α} {r : β} (h : Ev g a) (k : Ev (fun n => f n a) r) : Ev (fun n => (g n).bind (f n)) r := Ev.bind h k

theorem in_eq (x a b : Int) : spec_l01In.f x a b = some (decide (a ≤ x ∧ x ≤ b)) := by
 unfold spec_l01In.f
 by_cases h : a ≤ x
 ·rw [if_pos h]; congr 1; simp [h]
 ·rw [if_neg h, decide_eq_false (fun q => h q.1)]

def IdsP (l : List Int) : Prop := (∀ j : Nat, j < l.length → 0 ≤ rd l j ∧ rd l j ≤ 99 ∧ (0 < j → rd l (j - 1 : Nat) < rd l j)) ∧ l.length ≤ 7
theorem ids_l (l : List Int) (hl : l.length ≤ 1048576) (d : Nat) : ∀ i : Nat, l.length = i + d → ∃ b, Ev (fun k => impl_areIds.l0 k l l (l.length : Int) i) b ∧ Ev (fun k => spec_l06Ids.l0 k l i) b ∧ (b = true ↔ (∀ j : Nat, i ≤ j → j < l.length → 0 ≤ rd l j ∧ rd l j ≤ 99 ∧ (0 < j → rd l (j - 1 : Nat) < rd l j)) ∧ l.length ≤ 7) := by
 induction d with
 | zero =>
  intro i hd
  refine ⟨decide ((l.length : Int) ≤ 7), ?_, ?_, ?_⟩
  ·refine Ev.step (fun k => by rw [impl_areIds.l0]) ?_
   exact en om nw
  ·refine Ev.step (fun k => by rw [spec_l06Ids.l0]) ?_
   exact en om nw
  ·rw [decide_eq_true_iff]
   exact ⟨fun h => ⟨fun j h1 h2 => by omega, by omega⟩, fun h => by have := h.2; omega⟩
 | succ d ih =>
  intro i hd
  have hi := wsucc (j := i) (n := l.length) om om
  obtain ⟨b, hb1, hb2, hb⟩ := ih (i + 1) om
  have bad : (¬ (0 ≤ rd l i ∧ rd l i ≤ 99 ∧ (0 < i → rd l (i - 1 : Nat) < rd l i))) → (false = true ↔ (∀ j : Nat, i ≤ j → j < l.length → 0 ≤ rd l j ∧ rd l j ≤ 99 ∧ (0 < j → rd l (j - 1 : Nat) < rd l j)) ∧ l.length ≤ 7) := fun h => ⟨fun q => (by cases q), fun q => absurd (q.1 i (Nat.le_refl i) om) h⟩
  have good : (0 ≤ rd l i ∧ rd l i ≤ 99 ∧ (0 < i → rd l (i - 1 : Nat) < rd l i)) → (b = true ↔ (∀ j : Nat, i ≤ j → j < l.length → 0 ≤ rd l j ∧ rd l j ≤ 99 ∧ (0 < j → rd l (j - 1 : Nat) < rd l j)) ∧ l.length ≤ 7) := fun h => by
   rw [hb]
   refine ⟨fun q => ⟨fun j h1 h2 => ?_, q.2⟩, fun q => ⟨fun j h1 h2 => q.1 j om h2, q.2⟩⟩
   rcases Nat.eq_or_lt_of_le h1 with e | e
   ·subst e; exact h
   ·exact q.1 j e h2
  by_cases h1 : rd l i < 0
  ·refine ⟨false, ?_, ?_, bad om⟩
   ·refine Ev.step (fun k => by rw [impl_areIds.l0]) ?_
    exact ep om (ep om (ep om (ep h1 nw)))
   ·refine Ev.step (fun k => by rw [spec_l06Ids.l0]) ?_
    exact ep om (ep om (eb (ec (in_eq _ _ _)) (en (by simp; omega) nw)))
  by_cases h2 : rd l i > 99
  ·refine ⟨false, ?_, ?_, bad om⟩
   ·refine Ev.step (fun k => by rw [impl_areIds.l0]) ?_
    exact ep om (ep om (ep om (en h1 (ep h2 nw))))
   ·refine Ev.step (fun k => by rw [spec_l06Ids.l0]) ?_
    exact ep om (ep om (eb (ec (in_eq _ _ _)) (en (by simp; omega) nw)))
  have hin : decide (0 ≤ rd l i ∧ rd l i ≤ 99) = true := decide_eq_true ⟨by omega, by omega⟩
  by_cases h0 : i = 0
  ·subst h0
   refine ⟨b, ?_, ?_, good ⟨by omega, by omega, fun h => by omega⟩⟩
   ·refine Ev.step (fun k => by rw [impl_areIds.l0]) ?_
    refine ep om (ep om (ep om (en h1 (en h2 (en om ?_)))))
    rw [hi]; exact hb1
   ·refine Ev.step (fun k => by rw [spec_l06Ids.l0]) ?_
    refine ep om (ep om (eb (ec (in_eq _ _ _)) (ep hin (en om ?_))))
    rw [hi]; exact hb2
  have hp := wpred (j := i) om om
  by_cases h3 : rd l (i - 1 : Nat) ≥ rd l i
  ·refine ⟨false, ?_, ?_, bad (fun q => by have := q.2.2 om; omega)⟩
   ·refine Ev.step (fun k => by rw [impl_areIds.l0]) ?_
    refine ep om (ep om (ep om (en h1 (en h2 (ep om ?_)))))
    rw [hp]
    exact ep om (ep om (ep h3 nw))
   ·refine Ev.step (fun k => by rw [spec_l06Ids.l0]) ?_
    refine ep om (ep om (eb (ec (in_eq _ _ _)) (ep hin (ep om ?_))))
    rw [hp]
    exact ep om (ep om (ep h3 nw))
  ·refine ⟨b, ?_, ?_, good ⟨by omega, by omega, fun _ => by omega⟩⟩
   ·refine Ev.step (fun k => by rw [impl_areIds.l0]) ?_
    refine ep om (ep om (ep om (en h1 (en h2 (ep om ?_)))))
    rw [hp, hi]
    exact ep om (ep om (en h3 hb1))
   ·refine Ev.step (fun k => by rw [spec_l06Ids.l0]) ?_
    refine ep om (ep om (eb (ec (in_eq _ _ _)) (ep hin (ep om ?_))))
    rw [hp, hi]
    exact ep om (ep om (en h3 hb2))
theorem ids_ev (l : List Int) (hl : l.length ≤ 1048576) : ∃ b, Ev (fun k => impl_areIds.f k l) b ∧ Ev (fun k => spec_l06Ids.f k l) b ∧ (b = true ↔ IdsP l) := by
 obtain ⟨b, h1, h2, h3⟩ := ids_l l hl l.length 0 om
 exact ⟨b, h1, h2, h3.trans ⟨fun h => ⟨fun j hj => h.1 j om hj, h.2⟩, fun h => ⟨fun j _ hj => h.1 j hj, h.2⟩⟩⟩
theorem has_l (l : List Int) (hl : l.length ≤ 1048576) (x : Int) (d : Nat) : ∀ i : Nat, l.length = i + d → ∃ b, Ev (fun k => spec_l01Has.l0 k l x i) b ∧ (b = true ↔ ∃ j : Nat, i ≤ j ∧ j < l.length ∧ rd l j = x) := by
 induction d with
 | zero =>
  intro i hd
  refine ⟨false, ?_, ⟨fun q => (by cases q), fun ⟨j, h1, h2, _⟩ => by omega⟩⟩
  refine Ev.step (fun k => by rw [spec_l01Has.l0]) ?_
  exact en om nw
 | succ d ih =>
  intro i hd
  have hi := wsucc (j := i) (n := l.length) om om
  by_cases h : rd l i = x
  ·refine ⟨true, ?_, ⟨fun _ => ⟨i, Nat.le_refl i, by omega, h⟩, fun _ => rfl⟩⟩
   refine Ev.step (fun k => by rw [spec_l01Has.l0]) ?_
   exact ep om (ep om (ep h nw))
  ·obtain ⟨b, hb, h2⟩ := ih (i + 1) om
   refine ⟨b, ?_, h2.trans ⟨fun ⟨j, h3, h4, h5⟩ => ⟨j, by omega, h4, h5⟩, fun ⟨j, h3, h4, h5⟩ => ⟨j, ?_, h4, h5⟩⟩⟩
   ·refine Ev.step (fun k => by rw [spec_l01Has.l0]) ?_
    rw [hi]
    exact ep om (ep om (en h hb))
   ·rcases Nat.eq_or_lt_of_le h3 with e | e
    ·subst e; exact absurd h5 h
    ·exact e
theorem mem_rd (l : List Int) (x : Int) : x ∈ l ↔ ∃ j : Nat, j < l.length ∧ rd l j = x := by
 constructor
 ·intro h
  obtain ⟨j, hj, e⟩ := List.mem_iff_getElem.1 h
  refine ⟨j, hj, ?_⟩
  unfold rd
  rw [toNat_cast, getD_lt l j 0 hj]; exact e
 ·rintro ⟨j, hj, rfl⟩
  unfold rd
  rw [toNat_cast]
  exact getD_mem l j 0 hj
theorem has_ev (l : List Int) (hl : l.length ≤ 1048576) (x : Int) : Ev (fun k => spec_l01Has.f k l x) (decide (x ∈ l)) := by
 obtain ⟨b, h1, h2⟩ := has_l l hl x l.length 0 om
 have : b = decide (x ∈ l) := by
  rw [Bool.eq_iff_iff, h2, decide_eq_true_iff, mem_rd]
  exact ⟨fun ⟨j, _, h3, h4⟩ => ⟨j, h3, h4⟩, fun ⟨j, h3, h4⟩ => ⟨j, by omega, h3, h4⟩⟩
 rw [← this]; exact h1

theorem same_l (l m : List Int) (hl : l.length ≤ 1048576) (hm : m.length = l.length) (d : Nat) : ∀ i : Nat, l.length = i + d → ∃ b, Ev (fun k => slices_Equal_int_int.l0 k l m (l.length : Int) i) b ∧ Ev (fun k => spec_l06Same.l0 k l m i) b ∧ (b = true ↔ ∀ j : Nat, i ≤ j → j < l.length → rd l j = rd m j) := by
 induction d with
 | zero =>
  intro i hd
  refine ⟨true, ?_, ?_, ⟨fun _ j h1 h2 => by omega, fun _ => rfl⟩⟩
  ·refine Ev.step (fun k => by rw [slices_Equal_int_int.l0]) ?_
   exact en om nw
  ·refine Ev.step (fun k => by rw [spec_l06Same.l0]) ?_
   exact en om nw
 | succ d ih =>
  intro i hd
  have hi := wsucc (j := i) (n := l.length) om om
  by_cases h : rd l i = rd m i
  ·obtain ⟨b, hb1, hb2, hb⟩ := ih (i + 1) om
   refine ⟨b, ?_, ?_, hb.trans ⟨fun q j h1 h2 => ?_, fun q j h1 h2 => q j om h2⟩⟩
   ·refine Ev.step (fun k => by rw [slices_Equal_int_int.l0]) ?_
    rw [hi]
    exact ep om (ep om (ep om (ep om (ep h hb1))))
   ·refine Ev.step (fun k => by rw [spec_l06Same.l0]) ?_
    rw [hi]
    exact ep om (ep om (ep om (ep h hb2)))
   ·rcases Nat.eq_or_lt_of_le h1 with e | e
    ·subst e; exact h
    ·exact q j e h2
  ·refine ⟨false, ?_, ?_, ⟨fun q => (by cases q), fun q => absurd (q i (Nat.le_refl i) om) h⟩⟩
   ·refine Ev.step (fun k => by rw [slices_Equal_int_int.l0]) ?_
    exact ep om (ep om (ep om (ep om (en h nw))))
   ·refine Ev.step (fun k => by rw [spec_l06Same.l0]) ?_
    exact ep om (ep om (ep om (en h nw)))
theorem same_ev (l m : List Int) (hl : l.length ≤ 1048576) (hm : m.length ≤ 1048576) : ∃ b, Ev (fun k => slices_Equal_int_int.f k l m) b ∧ Ev (fun k => spec_l06Same.f k l m) b ∧ (b = true ↔ l = m) := by
 unfold slices_Equal_int_int.f spec_l06Same.f
 by_cases h : (l.length : Int) = (m.length : Int)
 ·obtain ⟨b, h1, h2, h3⟩ := same_l l m hl om l.length 0 om
  refine ⟨b, ep h h1, ep h h2, h3.trans ⟨fun q => ?_, fun e => by subst e; exact fun _ _ _ => rfl⟩⟩
  refine List.ext_getElem om fun j hj hj' => ?_
  have := q j om hj
  unfold rd at this
  rwa [toNat_cast, getD_lt l j 0 hj, getD_lt m j 0 hj'] at this
 ·exact ⟨false, en h nw, en h nw, ⟨fun q => (by cases q), fun e => absurd (by rw [e]) h⟩⟩
def ConfP (a b c : List Int) : Prop := IdsP a ∧ 0 < a.length ∧ IdsP b ∧ IdsP c ∧ a ≠ b ∧ ∀ x ∈ c, x ∉ a ∧ x ∉ b
theorem confOk_l (a b c : List Int) (ha : a.length ≤ 1048576) (hb : b.length ≤ 1048576) (hc : c.length ≤ 1048576) (d : Nat) : ∀ i : Nat, c.length = i + d → ∃ r, Ev (fun k => spec_ConfOk.l0 k i a b c) r ∧ (r = true ↔ ∀ j : Nat, i ≤ j → j < c.length → rd c j ∉ a ∧ rd c j ∉ b) := by
 induction d with
 | zero =>
  intro i hd
  refine ⟨true, ?_, ⟨fun _ j h1 h2 => by omega, fun _ => rfl⟩⟩
  refine Ev.step (fun k => by rw [spec_ConfOk.l0]) ?_
  exact en om nw
 | succ d ih =>
  intro i hd
  have hi := wsucc (j := i) (n := c.length) om om
  by_cases h1 : rd c i ∈ a
  ·refine ⟨false, ?_, ⟨fun q => (by cases q), fun q => absurd h1 (q i (Nat.le_refl i) om).1⟩⟩
   refine Ev.step (fun k => by rw [spec_ConfOk.l0]) ?_
   exact ep om (ep om (eb (has_ev a ha _) (ep (decide_eq_true h1) nw)))
  by_cases h2 : rd c i ∈ b
  ·refine ⟨false, ?_, ⟨fun q => (by cases q), fun q => absurd h2 (q i (Nat.le_refl i) om).2⟩⟩
   refine Ev.step (fun k => by rw [spec_ConfOk.l0]) ?_
   exact ep om (ep om (eb (has_ev a ha _) (en (by simpa using h1) (eb (has_ev b hb _) (ep (decide_eq_true h2) nw)))))
  obtain ⟨r, hr, h3⟩ := ih (i + 1) om
  refine ⟨r, ?_, h3.trans ⟨fun q j e1 e2 => ?_, fun q j e1 e2 => q j om e2⟩⟩
  ·refine Ev.step (fun k => by rw [spec_ConfOk.l0]) ?_
   rw [hi]
   exact ep om (ep om (eb (has_ev a ha _) (en (by simpa using h1) (eb (has_ev b hb _) (en (by simpa using h2) hr)))))
  ·rcases Nat.eq_or_lt_of_le e1 with e | e
   ·subst e; exact ⟨h1, h2⟩
   ·exact q j e e2
theorem isConf_ev (a b c : List Int) (ha : a.length ≤ 1048576) (hb : b.length ≤ 1048576) (hc : c.length ≤ 1048576) : ∃ r, Ev (fun k => impl_isConf.f k a b c) r ∧ Ev (fun k => spec_ConfOk.f k a b c) r ∧ (r = true ↔ ConfP a b c) := by
 obtain ⟨ia, ia1, ia2, ia3⟩ := ids_ev a ha
 obtain ⟨ib, ib1, ib2, ib3⟩ := ids_ev b hb
 obtain ⟨ic, ic1, ic2, ic3⟩ := ids_ev c hc
 obtain ⟨q, q1, q2, q3⟩ := same_ev a b ha hb
 obtain ⟨r, r1, r2⟩ := confOk_l a b c ha hb hc c.length 0 om
 have j0 : ∀ x : Bool, x = true → Ev (fun k => spec_ConfOk.j0 k x a b c) false := fun x hx => by
  refine Ev.step (fun k => by rw [spec_ConfOk.j0]) ?_
  exact ep hx nw
 have nb : ∀ {x : Bool}, ¬ x = true → x = false := fun {x} h => by simpa using h
 have set_ : ∀ y : Bool, y = decide ((a.length : Int) > 0) → ia = true → Ev (fun k => spec_l06Set.f k a) y := fun y hy h => by
  unfold spec_l06Set.f
  rw [hy]
  exact eb ia2 (ep h nw)
 unfold impl_isConf.f spec_ConfOk.f
 by_cases h1 : ia = true
 rotate_left
 ·refine ⟨false, eb ia1 (en h1 nw), ?_, ⟨fun q => (by cases q), fun q => absurd (ia3.2 q.1) h1⟩⟩
  refine eb (a := false) (by unfold spec_l06Set.f; exact eb ia2 (en h1 nw)) (en (by simp) (j0 _ rfl))
 by_cases h2 : (a.length : Int) = 0
 ·exact ⟨false, eb ia1 (ep h1 (ep h2 nw)), eb (set_ _ rfl h1) (en (by rw [decide_eq_false om]; simp) (j0 _ rfl)), ⟨fun q => (by cases q), fun q => by have := q.2.1; omega⟩⟩
 have hs : decide ((a.length : Int) > 0) = true := decide_eq_true om
 by_cases h3 : ib = true
 rotate_left
 ·exact ⟨false, eb ia1 (ep h1 (en h2 (eb ib1 (en h3 nw)))), eb (set_ _ rfl h1) (ep hs (eb ib2 (en h3 (j0 _ rfl)))), ⟨fun q => (by cases q), fun q => absurd (ib3.2 q.2.2.1) h3⟩⟩
 by_cases h5 : ic = true
 rotate_left
 ·refine ⟨false, eb ia1 (ep h1 (en h2 (eb ib1 (ep h3 (eb q1 ?_))))), eb (set_ _ rfl h1) (ep hs (eb ib2 (ep h3 (eb ic2 (en h5 (j0 _ rfl)))))), ⟨fun q => (by cases q), fun q => absurd (ic3.2 q.2.2.2.1) h5⟩⟩
  by_cases h4 : q = true
  ·exact ep h4 nw
  ·exact en h4 (eb ic1 (en h5 nw))
 by_cases h4 : q = true
 ·exact ⟨false, eb ia1 (ep h1 (en h2 (eb ib1 (ep h3 (eb q1 (ep h4 nw)))))), eb (set_ _ rfl h1) (ep hs (eb ib2 (ep h3 (eb ic2 (ep h5 (eb q2 (j0 _ h4))))))), ⟨fun q => (by cases q), fun z => absurd (q3.1 h4) z.2.2.2.2.1⟩⟩
 have e : (!c.any (slices_ContainsFunc_int_int.p a b)) = r := by
  rw [Bool.eq_iff_iff, r2]
  simp only [Bool.not_eq_true', List.any_eq_false, slices_ContainsFunc_int_int.p, Bool.or_eq_true, decide_eq_true_iff, not_or]
  exact ⟨fun h j _ hj => h _ ((mem_rd c _).2 ⟨j, hj, rfl⟩), fun h x hx => by obtain ⟨j, hj, rfl⟩ := (mem_rd c x).1 hx; exact h j om hj⟩
 refine ⟨r, eb ia1 (ep h1 (en h2 (eb ib1 (ep h3 (eb q1 (en h4 (eb ic1 (ep h5 (eb (a := c.any (slices_ContainsFunc_int_int.p a b)) (ec rfl) ?_))))))))), eb (set_ _ rfl h1) (ep hs (eb ib2 (ep h3 (eb ic2 (ep h5 (eb q2 ?_)))))), ?_⟩
 ·rw [e]; exact Ev.now _
 ·refine Ev.step (fun k => by rw [spec_ConfOk.j0]) ?_
  exact en h4 r1
 ·rw [r2]
  exact ⟨fun h => ⟨ia3.1 h1, by omega, ib3.1 h3, ic3.1 h5, fun z => h4 (q3.2 z), fun x hx => by obtain ⟨j, hj, rfl⟩ := (mem_rd c x).1 hx; exact h j om hj⟩, fun h j _ hj => h.2.2.2.2.2 _ ((mem_rd c _).2 ⟨j, hj, rfl⟩)⟩

theorem strict_eq : ∀ (xs ys : List Int), xs.Pairwise (· < ·) → ys.Pairwise (· < ·) → (∀ x, x ∈ xs ↔ x ∈ ys) → xs = ys := by
 intro xs
 induction xs with
 | nil =>
  intro ys _ _ h
  cases ys with
  | nil => rfl
  | cons y ys => exact absurd ((h y).2 (List.mem_cons_self ..)) (by simp)
 | cons x xs ih =>
  intro ys hx hy h
  cases ys with
  | nil => exact absurd ((h x).1 (List.mem_cons_self ..)) (by simp)
  | cons y ys =>
   rw [List.pairwise_cons] at hx hy
   have e : x = y := by
    rcases List.mem_cons.1 ((h x).1 (List.mem_cons_self ..)) with e | e
    ·exact e
    ·rcases List.mem_cons.1 ((h y).2 (List.mem_cons_self ..)) with e2 | e2
     ·exact e2.symm
     ·have := hy.1 x e; have := hx.1 y e2; omega
   subst e
   congr 1
   refine ih ys hx.2 hy.2 fun z => ⟨fun hz => ?_, fun hz => ?_⟩
   ·rcases List.mem_cons.1 ((h z).1 (List.mem_cons_of_mem _ hz)) with e | e
    ·have := hx.1 z hz; omega
    ·exact e
   ·rcases List.mem_cons.1 ((h z).2 (List.mem_cons_of_mem _ hz)) with e | e
    ·have := hy.1 z hz; omega
    ·exact e

def votM (a b : List Int) (m : Nat) : List Int := ((List.range m).map (fun i : Nat => (i : Int))).filter (fun x => decide (x ∈ a) || decide (x ∈ b))
theorem votM_mem (a b : List Int) (m : Nat) (x : Int) : x ∈ votM a b m ↔ 0 ≤ x ∧ x < m ∧ (x ∈ a ∨ x ∈ b) := by
 unfold votM
 rw [List.mem_filter, List.mem_map]
 constructor
 ·rintro ⟨⟨i, hi, rfl⟩, h⟩
  rw [List.mem_range] at hi
  exact ⟨by omega, by omega, by simpa using h⟩
 ·rintro ⟨h0, h1, h⟩
  exact ⟨⟨x.toNat, by rw [List.mem_range]; omega, by omega⟩, by simpa using h⟩
theorem votM_succ (a b : List Int) (m : Nat) : votM a b (m + 1) = if (m : Int) ∈ a ∨ (m : Int) ∈ b then votM a b m ++ [(m : Int)] else votM a b m := by
 unfold votM
 rw [List.range_succ, List.map_append, List.filter_append]
 by_cases h : (m : Int) ∈ a ∨ (m : Int) ∈ b
 ·rw [if_pos h]
  congr 1
  simp [h]
 ·rw [if_neg h]
  have h1 : ¬ (m : Int) ∈ a := fun q => h (.inl q)
  have h2 : ¬ (m : Int) ∈ b := fun q => h (.inr q)
  simp [h1, h2]
theorem votM_len (a b : List Int) (m : Nat) : (votM a b m).length ≤ m := by
 unfold votM
 refine Nat.le_trans (List.length_filter_le _ _) ?_
 simp
theorem votM_sorted (a b : List Int) (m : Nat) : (votM a b m).Pairwise (· < ·) := by
 induction m with
 | zero => simp [votM]
 | succ m ih =>
  rw [votM_succ]
  by_cases h : (m : Int) ∈ a ∨ (m : Int) ∈ b
  ·rw [if_pos h, List.pairwise_append]
   refine ⟨ih, by simp, fun x hx y hy => ?_⟩
   rw [List.mem_singleton] at hy
   have := (votM_mem a b m x).1 hx
   omega
  ·rw [if_neg h]; exact ih
theorem ids_range {l : List Int} (h : IdsP l) {x : Int} (hx : x ∈ l) : 0 ≤ x ∧ x ≤ 99 := by
 obtain ⟨j, hj, rfl⟩ := (mem_rd l x).1 hx
 exact ⟨(h.1 j hj).1, (h.1 j hj).2.1⟩

theorem l01Copy_l (l : List Int) (hl : l.length ≤ 1048576) (d : Nat) : ∀ i : Nat, l.length = i + d → Ev (fun k => spec_l01Copy.l0 k l (l.take i) i) l := by
 induction d with
 | zero =>
  intro i hd
  refine Ev.step (fun k => by rw [spec_l01Copy.l0]) ?_
  rw [List.take_of_length_le om]
  exact en om nw
 | succ d ih =>
  intro i hd
  have hi := wsucc (j := i) (n := l.length) om om
  refine Ev.step (fun k => by rw [spec_l01Copy.l0]) ?_
  rw [hi]
  refine ep om (ep om (ep (by rw [List.length_take]; omega) ?_))
  have e : l.take i ++ [rd l (i : Int)] = l.take (i + 1) := by
   rw [take_succ_getD l i 0 om]
   unfold rd
   rw [toNat_cast]
  rw [e]
  exact ih (i + 1) om
theorem l01Copy_ev (l : List Int) (hl : l.length ≤ 1048576) : Ev (fun k => spec_l01Copy.f k l) l := l01Copy_l l hl l.length 0 om
theorem l06Copy_ev (a b c : List Int) (ha : a.length ≤ 1048576) (hb : b.length ≤ 1048576) (hc : c.length ≤ 1048576) : Ev (fun k => spec_l06Copy.f k a b c) (a, b, c) :=
 eb (l01Copy_ev a ha) (eb (l01Copy_ev b hb) (eb (l01Copy_ev c hc) nw))
theorem l06Less_l (l o : List Int) (hl : l.length ≤ 1048576) (ho : o.length ≤ 1048576) (d : Nat) : ∀ i : Nat, l.length = i + d → Ev (fun k => spec_l06Less.l0 k l o ((l.take i).filter (fun x => !decide (x ∈ o))) i) (l.filter (fun x => !decide (x ∈ o))) := by
 induction d with
 | zero =>
  intro i hd
  refine Ev.step (fun k => by rw [spec_l06Less.l0]) ?_
  rw [List.take_of_length_le om]
  exact en om nw
 | succ d ih =>
  intro i hd
  have hi := wsucc (j := i) (n := l.length) om om
  have h := ih (i + 1) om
  rw [take_succ_getD l i 0 om, List.filter_append, show l.getD i 0 = rd l (i : Int) by unfold rd; rw [toNat_cast]] at h
  refine Ev.step (fun k => by rw [spec_l06Less.l0]) ?_
  rw [hi]
  refine ep om (ep om (eb (has_ev o ho _) ?_))
  by_cases q : rd l (i : Int) ∈ o
  ·rw [List.filter_cons_of_neg (by simpa using q), List.filter_nil, List.append_nil] at h
   exact ep (decide_eq_true q) h
  ·rw [List.filter_cons_of_pos (by simpa using q), List.filter_nil] at h
   have hx : ((l.take i).filter (fun x => !decide (x ∈ o))).length ≤ l.length := Nat.le_trans (List.length_filter_le _ _) (by rw [List.length_take]; omega)
   exact en (by simpa using q) (ep om h)
theorem l06Less_ev (l o : List Int) (hl : l.length ≤ 1048576) (ho : o.length ≤ 1048576) : Ev (fun k => spec_l06Less.f k l o) (l.filter (fun x => !decide (x ∈ o))) := l06Less_l l o hl ho l.length 0 om

theorem learn_l (a b c a' b' : List Int) (hc : c.length ≤ 1048576) (id : Int) (d : Nat) : ∀ i : Nat, 100 = i + d → ∀ r, Ev (fun k => spec_Learner.j2 k a b c a' b' (votM c [id] 100)) r → Ev (fun k => spec_Learner.l0 k id i a b c a' b' (votM c [id] i)) r := by
 induction d with
 | zero =>
  intro i hd r hr
  have : i = 100 := by omega
  subst this
  refine Ev.step (fun k => by rw [spec_Learner.l0]) ?_
  exact en om hr
 | succ d ih =>
  intro i hd r hr
  have hi := wsucc (j := i) (n := 100) om om
  have hlen := votM_len c [id] i
  have h := ih (i + 1) om r hr
  rw [votM_succ] at h
  refine Ev.step (fun k => by rw [spec_Learner.l0]) ?_
  rw [hi]
  refine ep om ?_
  by_cases h1 : (i : Int) = id
  ·rw [if_pos (.inr (by simp [h1]))] at h
   exact ep h1 (ep om h)
  refine en h1 (eb (has_ev c hc _) ?_)
  by_cases h2 : (i : Int) ∈ c
  ·rw [if_pos (.inl h2)] at h
   exact ep (decide_eq_true h2) (ep om h)
  ·rw [if_neg (by rintro (q | q); exact h2 q; exact h1 (by simpa using q))] at h
   exact en (by simpa using h2) h
theorem specLearn_j2 (a b c c1 : List Int) (h : ConfP a b c) (hl1 : c1.length ≤ 1048576) : ∃ (c' : List Int) (ok : Bool), Ev (fun k => spec_Learner.j2 k a b c a b c1) (a, b, c', ok) ∧ ConfP a b c' ∧ (ok = false → c' = c) ∧ (c' = c ∨ c' = c1) := by
 obtain ⟨pa, _, pb, pc, _⟩ := And.left ⟨h, trivial⟩
 have la := pa.2
 have lb := pb.2
 have lc := pc.2
 obtain ⟨r1, _, g2, g3⟩ := isConf_ev a b c1 om om hl1
 obtain ⟨b1, _, b2, _⟩ := same_ev c1 c hl1 om
 have hsc := l06Copy_ev a b c om om om
 by_cases e : r1 = true
 ·by_cases e1 : b1 = true
  ·refine ⟨c, false, ?_, h, fun _ => rfl, .inl rfl⟩
   refine Ev.step (fun k => by rw [spec_Learner.j2]) ?_
   exact eb g2 (ep e (eb b2 (ep e1 (eb hsc nw))))
  ·refine ⟨c1, true, ?_, g3.1 e, fun q => (by cases q), .inr rfl⟩
   refine Ev.step (fun k => by rw [spec_Learner.j2]) ?_
   exact eb g2 (ep e (eb b2 (en e1 nw)))
 ·refine ⟨c, false, ?_, h, fun _ => rfl, .inl rfl⟩
  refine Ev.step (fun k => by rw [spec_Learner.j2]) ?_
  exact eb g2 (en e (eb hsc nw))
theorem specLearn_ev (a b c : List Int) (h : ConfP a b c) (id : Int) (on : Bool) : ∃ (c' : List Int) (ok : Bool), Ev (fun k => spec_Learner.f k a b c id on) (a, b, c', ok) ∧ ConfP a b c' ∧ ∀ x ∈ c', x ∈ c ∨ x = id := by
 obtain ⟨pa, _, pb, pc, _⟩ := And.left ⟨h, trivial⟩
 have la := pa.2
 have lb := pb.2
 have lc := pc.2
 obtain ⟨r, _, h2, h3⟩ := isConf_ev a b c om om om
 have hsc := l06Copy_ev a b c om om om
 have hh := has_ev c om id
 unfold spec_Learner.f
 by_cases hon : (decide (id ∈ c) == on) = true
 ·refine ⟨c, false, eb h2 (ep (h3.2 h) (eb hh ?_)), h, fun x hx => .inl hx⟩
  refine Ev.step (fun k => by rw [spec_Learner.j0]) ?_
  exact ep hon (eb hsc nw)
 have hl6 := l06Less_ev c [id] om (by simp)
 have hv := votM_len c [id] 100
 have hf := List.length_filter_le (fun x => !decide (x ∈ [id])) c
 cases on with
 | true =>
  obtain ⟨c', ok, m1, m2, _, m3⟩ := specLearn_j2 a b c (votM c [id] 100) h om
  refine ⟨c', ok, eb h2 (ep (h3.2 h) (eb hh ?_)), m2, fun x hx => m3.elim (fun e => .inl (by rw [← e]; exact hx)) (fun e => by
   rw [e] at hx
   rcases ((votM_mem c [id] 100 x).1 hx).2.2 with q | q
   ·exact .inl q
   ·exact .inr (List.mem_singleton.1 q))⟩
  refine Ev.step (fun k => by rw [spec_Learner.j0]) ?_
  exact en hon (eb hsc (eb hl6 (ep rfl (learn_l a b c a b om id 100 0 om _ m1))))
 | false =>
  obtain ⟨c', ok, m1, m2, _, m3⟩ := specLearn_j2 a b c _ h (show (c.filter (fun x => !decide (x ∈ [id]))).length ≤ 1048576 by omega)
  refine ⟨c', ok, eb h2 (ep (h3.2 h) (eb hh ?_)), m2, fun x hx => m3.elim (fun e => .inl (by rw [← e]; exact hx)) (fun e => by
   rw [e] at hx
   exact .inl (List.mem_filter.1 hx).1)⟩
  refine Ev.step (fun k => by rw [spec_Learner.j0]) ?_
  exact en hon (eb hsc (eb hl6 (en (by simp) m1)))

theorem ids_of {l : List Int} (h : l.Pairwise (· < ·)) (hr : ∀ x ∈ l, 0 ≤ x ∧ x ≤ 99) (hl : l.length ≤ 7) : IdsP l := by
 refine ⟨fun j hj => ?_, hl⟩
 have e : ∀ q : Nat, (hq : q < l.length) → rd l (q : Nat) = l[q] := fun q hq => by unfold rd; rw [toNat_cast, getD_lt l q 0 hq]
 have := hr (rd l (j : Nat)) (by rw [e j hj]; exact List.getElem_mem _)
 refine ⟨this.1, this.2, fun h0 => ?_⟩
 rw [e j hj, e (j - 1) om]
 exact (List.pairwise_iff_getElem.1 h) (j - 1) j om hj om
theorem ids_nil : IdsP [] := ⟨fun j h => absurd h (by simp), by simp⟩
theorem ids_filter {l : List Int} (h : IdsP l) (p : Int → Bool) (hp : l.Pairwise (· < ·)) : IdsP (l.filter p) := by
 refine ids_of (hp.sublist List.filter_sublist) (fun x hx => ids_range h ((List.mem_filter.1 hx).1)) ?_
 have := List.length_filter_le p l
 have := h.2
 omega
theorem ids_pw {l : List Int} (h : IdsP l) : l.Pairwise (· < ·) := by
 have s : ∀ j i : Nat, i < j → j < l.length → rd l (i : Nat) < rd l (j : Nat) := by
  intro j
  induction j with
  | zero => intro i h1; omega
  | succ j ih =>
   intro i hij hj
   have := (h.1 (j + 1) hj).2.2 om
   rw [Nat.add_sub_cancel] at this
   by_cases e : i = j
   ·subst e; exact this
   ·have := ih i om om; omega
 rw [List.pairwise_iff_getElem]
 intro i j hi hj hij
 have := s j i hij hj
 unfold rd at this
 rwa [toNat_cast, toNat_cast, getD_lt l i 0 hi, getD_lt l j 0 hj] at this
/-- What Begin comes to, in the reference. -/
theorem specBegin_ev (a b c w : List Int) (h : ConfP a b c) (hw : w.length ≤ 1048576) : (b = [] ∧ IdsP w ∧ 0 < w.length ∧ a ≠ w → Ev (fun k => spec_Begin.f k a b c w) (a, w, c.filter (fun x => !decide (x ∈ w)), true) ∧ ConfP a w (c.filter (fun x => !decide (x ∈ w)))) ∧ (¬ (b = [] ∧ IdsP w ∧ 0 < w.length ∧ a ≠ w) → Ev (fun k => spec_Begin.f k a b c w) (a, b, c, false)) := by
 obtain ⟨pa, pa0, pb, pc, pab, pd⟩ := id h
 have la := pa.2
 have lb := pb.2
 have lc := pc.2
 obtain ⟨r, _, h2, h3⟩ := isConf_ev a b c om om om
 have hsc := l06Copy_ev a b c om om om
 have hl6 := l06Less_ev c w om hw
 obtain ⟨iw, _, iw2, iw3⟩ := ids_ev w hw
 obtain ⟨q, _, q2, q3⟩ := same_ev a w om hw
 have ht : ∀ x : Bool, x = true → Ev (fun k => spec_Begin.j0 k w x a b c) (a, b, c, false) := fun x hx => by
  refine Ev.step (fun k => by rw [spec_Begin.j0]) ?_
  exact ep hx (eb hsc nw)
 refine ⟨fun ⟨e0, e1, e2, e3⟩ => ⟨?_, ?_⟩, fun hn => ?_⟩
 ·unfold spec_Begin.f
  refine eb h2 (ep (h3.2 h) (en (by rw [e0]; simp) (eb (a := true) ?_ (ep rfl (eb q2 ?_)))))
  ·unfold spec_l06Set.f
   refine eb iw2 (ep (iw3.2 e1) ?_)
   rw [decide_eq_true (show (w.length : Int) > 0 by omega)]
   exact Ev.now _
  ·refine Ev.step (fun k => by rw [spec_Begin.j0]) ?_
   exact en (fun z => e3 (q3.1 z)) (eb (l01Copy_ev a om) (eb (l01Copy_ev w hw) (eb hl6 nw)))
 ·refine ⟨pa, pa0, e1, ids_filter pc _ (ids_pw pc), e3, fun x hx => ?_⟩
  rw [List.mem_filter] at hx
  exact ⟨(pd x hx.1).1, by simpa using hx.2⟩
 ·unfold spec_Begin.f
  refine eb h2 (ep (h3.2 h) ?_)
  by_cases e0 : (b.length : Int) > 0
  ·exact ep e0 (ht _ rfl)
  refine en e0 ?_
  have e0' : b = [] := List.eq_nil_of_length_eq_zero om
  by_cases e1 : iw = true
  rotate_left
  ·refine eb (a := false) ?_ (en (by simp) (ht _ rfl))
   unfold spec_l06Set.f
   exact eb iw2 (en e1 nw)
  have hset : Ev (fun k => spec_l06Set.f k w) (decide ((w.length : Int) > 0)) := by
   unfold spec_l06Set.f
   exact eb iw2 (ep e1 nw)
  by_cases e2 : 0 < w.length
  rotate_left
  ·exact eb hset (en (by rw [decide_eq_false om]; simp) (ht _ rfl))
  refine eb hset (ep (decide_eq_true om) (eb q2 (ht _ ?_)))
  exact q3.2 (Classical.byContradiction fun z => hn ⟨e0', iw3.1 e1, e2, z⟩)
theorem specFinish_ev (a b c : List Int) (h : ConfP a b c) : (0 < b.length → Ev (fun k => spec_Finish.f k a b c) (b, [], c, true) ∧ ConfP b [] c) ∧ (b = [] → Ev (fun k => spec_Finish.f k a b c) (a, b, c, false)) := by
 obtain ⟨pa, pa0, pb, pc, pab, pd⟩ := id h
 have la := pa.2
 have lb := pb.2
 have lc := pc.2
 obtain ⟨r, _, h2, h3⟩ := isConf_ev a b c om om om
 have hsc := l06Copy_ev a b c om om om
 unfold spec_Finish.f
 refine ⟨fun h0 => ⟨?_, ?_⟩, fun h0 => ?_⟩
 ·refine eb h2 (ep (h3.2 h) ?_)
  refine Ev.step (fun k => by rw [spec_Finish.j0]) ?_
  refine en (by rw [show ((b.length : Int) == 0) = false by rw [beq_eq_false_iff_ne]; omega]; simp) ?_
  exact eb (l01Copy_ev b om) (eb (l01Copy_ev c om) nw)
 ·exact ⟨pb, h0, ids_nil, pc, fun e => by rw [e] at h0; simp at h0, fun x hx => ⟨(pd x hx).2, by simp⟩⟩
 ·refine eb h2 (ep (h3.2 h) ?_)
  refine Ev.step (fun k => by rw [spec_Finish.j0]) ?_
  exact ep (by rw [h0]; rfl) (eb hsc nw)

theorem and_mask (x : Int) (m : Nat) (hm : m < 9223372036854775808) : 0 ≤ Go.bits .and .i64 x (m : Int) ∧ Go.bits .and .i64 x (m : Int) ≤ m := by
 have h : (BitVec.ofInt 64 x &&& BitVec.ofInt 64 (m : Int)).toNat ≤ m := by
  rw [BitVec.toNat_and]
  refine Nat.le_trans Nat.and_le_right ?_
  rw [BitVec.ofInt_natCast, BitVec.toNat_ofNat]
  exact Nat.mod_le _ _
 obtain ⟨q, hq⟩ : ∃ q : Nat, q = (BitVec.ofInt 64 x &&& BitVec.ofInt 64 (m : Int)).toNat := ⟨_, rfl⟩
 have e : Go.bits .and .i64 x (m : Int) = IntKind.i64.wrap (q : Int) := by rw [hq]; rfl
 rw [e, IntKind.wrap_i64]
 omega
theorem u64_range (x : Int) : 0 ≤ IntKind.u64.wrap x ∧ IntKind.u64.wrap x ≤ 18446744073709551615 := by
 simp only [IntKind.wrap, IntKind.signed, IntKind.bits]
 simp
 omega
theorem byte_ev (b : List Int) (hb : b.length ≤ 1048576) (i h : Int) (h0 : 0 ≤ i) : ∃ x i' h', spec_l01Byte.f b i h = some (x, i', h') ∧ 0 ≤ i' ∧ 0 ≤ x ∧ x ≤ 255 := by
 unfold spec_l01Byte.f
 by_cases hi : i < (b.length : Int)
 ·rw [if_pos hi, if_pos h0]
  have := and_mask
  exact ⟨_, _, _, rfl, by rw [w64 om om]; omega, (and_mask _ 255 (by decide)).1, (and_mask _ 255 (by decide)).2⟩
 ·rw [if_neg hi]
  exact ⟨_, _, _, rfl, h0, (and_mask _ 255 (by decide)).1, (and_mask _ 255 (by decide)).2⟩
theorem below_ev (b : List Int) (hb : b.length ≤ 1048576) (i h n : Int) (h0 : 0 ≤ i) : ∃ x i' h', spec_l01Below.f b i h n = some (x, i', h') ∧ 0 ≤ i' ∧ 0 ≤ x ∧ (0 < n → x < n) ∧ (n ≤ 0 → x = 0) := by
 unfold spec_l01Below.f
 by_cases h1 : n ≤ 0
 ·rw [if_pos h1]
  exact ⟨0, i, h, rfl, h0, by omega, by omega, fun _ => rfl⟩
 rw [if_neg h1]
 by_cases h2 : n ≤ 256
 ·rw [if_pos h2]
  obtain ⟨x, i', h', e, g0, g1, g2⟩ := byte_ev b hb i h h0
  rw [e]
  simp only [Option.bind_some]
  rw [if_neg om]
  exact ⟨_, _, _, rfl, g0, Int.tmod_nonneg _ g1, fun _ => Int.tmod_lt_of_pos _ om, fun h => by omega⟩
 ·rw [if_neg h2]
  obtain ⟨x, i1, h1', e1, g0, g1, g2⟩ := byte_ev b hb i h h0
  obtain ⟨y, i2, h2', e2, k0, k1, k2⟩ := byte_ev b hb i1 h1' g0
  obtain ⟨z, i3, h3', e3, m0, m1, m2⟩ := byte_ev b hb i2 h2' k0
  rw [e1]
  simp only [Option.bind_some]
  rw [e2]
  simp only [Option.bind_some]
  rw [e3]
  simp only [Option.bind_some]
  rw [if_neg om]
  have w1 : wrap64 (x * 65536) = x * 65536 := w64 om om
  have w2 : wrap64 (y * 256) = y * 256 := w64 om om
  have w3 : wrap64 (x * 65536 + y * 256) = x * 65536 + y * 256 := w64 om om
  have w4 : wrap64 (x * 65536 + y * 256 + z) = x * 65536 + y * 256 + z := w64 om om
  rw [w1, w2, w3, w4]
  exact ⟨_, _, _, rfl, m0, Int.tmod_nonneg _ om, fun _ => Int.tmod_lt_of_pos _ om, fun h => by omega⟩

theorem size_ev (l : List Int) (hl : l.length ≤ 1048576) (m : Int) : ∃ n, spec_l01Size.f l m = some n ∧ n ≤ m ∧ (0 ≤ m → 0 ≤ n) := by
 unfold spec_l01Size.f
 rw [w64 (x := (l.length : Int) / 16) om om, w64 (x := 2 + (l.length : Int) / 16) om om]
 by_cases h : 2 + (l.length : Int) / 16 > m
 ·rw [if_pos h]; exact ⟨m, rfl, by omega, fun h => h⟩
 ·rw [if_neg h]; exact ⟨_, rfl, by omega, fun _ => by omega⟩

/-- All ids are below 20. -/
def Low (a b c : List Int) : Prop := ∀ x, x ∈ a ∨ x ∈ b ∨ x ∈ c → x < 20
theorem specPlay_l (ops : List S77) (hops : ops.length ≤ 100) (hw : ∀ x ∈ ops, x.f2.length ≤ 1048576 ∧ x.f1 < 20 ∧ ∀ y ∈ x.f2, y < 20) (d : Nat) : ∀ (i : Nat) (told : List Bool) (a b c : List Int), ops.length = i + d → told.length = i → ConfP a b c → Low a b c → ∃ a' b' c' t', Ev (fun k => spec_PlayConf.l0 k ops told i a b c) (a', b', c', t') ∧ ConfP a' b' c' ∧ Low a' b' c' := by
 induction d with
 | zero =>
  intro i told a b c hd ht h hR
  refine ⟨a, b, c, told, ?_, h, hR⟩
  refine Ev.step (fun k => by rw [spec_PlayConf.l0]) ?_
  exact en om nw
 | succ d ih =>
  intro i told a b c hd ht h hR
  have hi := wsucc (j := i) (n := ops.length) om om
  have hwi' : (rd_T77 ops i).f2.length ≤ 1048576 ∧ (rd_T77 ops i).f1 < 20 ∧ ∀ y ∈ (rd_T77 ops i).f2, y < 20 := by
   unfold rd_T77
   rw [toNat_cast]
   exact hw _ (getD_mem ops i _ om)
  have hwi := hwi'.1
  have go : ∀ (t : Bool) (a1 b1 c1 : List Int), ConfP a1 b1 c1 → Low a1 b1 c1 → ∃ a' b' c' t', Ev (fun k => if told.length < 140737488355328 then spec_PlayConf.l0 k ops (told ++ [t]) (wrap64 ((i : Int) + 1)) a1 b1 c1 else none) (a', b', c', t') ∧ ConfP a' b' c' ∧ Low a' b' c' := fun t a1 b1 c1 h1 g1 => by
   obtain ⟨a', b', c', t', m1, m2⟩ := ih (i + 1) (told ++ [t]) a1 b1 c1 om (by simp [ht]) h1 g1
   rw [hi]
   exact ⟨a', b', c', t', ep om m1, m2⟩
  by_cases k0 : (rd_T77 ops i).f0 = 0
  ·obtain ⟨s1, s2⟩ := specBegin_ev a b c _ h hwi
   by_cases q : b = [] ∧ IdsP (rd_T77 ops i).f2 ∧ 0 < (rd_T77 ops i).f2.length ∧ a ≠ (rd_T77 ops i).f2
   ·obtain ⟨e1, e2⟩ := s1 q
    obtain ⟨a', b', c', t', m1, m2⟩ := go true _ _ _ e2 (fun x hx => by
     rcases hx with hx | hx | hx
     ·exact hR x (.inl hx)
     ·exact hwi'.2.2 x hx
     ·exact hR x (.inr (.inr (List.mem_filter.1 hx).1)))
    refine ⟨a', b', c', t', ?_, m2⟩
    refine Ev.step (fun k => by rw [spec_PlayConf.l0]) ?_
    exact ep om (ep om (ep k0 (eb e1 m1)))
   ·obtain ⟨a', b', c', t', m1, m2⟩ := go false _ _ _ h hR
    refine ⟨a', b', c', t', ?_, m2⟩
    refine Ev.step (fun k => by rw [spec_PlayConf.l0]) ?_
    exact ep om (ep om (ep k0 (eb (s2 q) m1)))
  by_cases k1 : (rd_T77 ops i).f0 = 1
  ·obtain ⟨s1, s2⟩ := specFinish_ev a b c h
   by_cases q : b = []
   ·obtain ⟨a', b', c', t', m1, m2⟩ := go false _ _ _ h hR
    refine ⟨a', b', c', t', ?_, m2⟩
    refine Ev.step (fun k => by rw [spec_PlayConf.l0]) ?_
    exact ep om (ep om (en k0 (ep k1 (eb (s2 q) m1))))
   ·obtain ⟨e1, e2⟩ := s1 (by cases b with | nil => exact absurd rfl q | cons x y => simp)
    obtain ⟨a', b', c', t', m1, m2⟩ := go true _ _ _ e2 (fun x hx => by
     rcases hx with hx | hx | hx
     ·exact hR x (.inr (.inl hx))
     ·simp at hx
     ·exact hR x (.inr (.inr hx)))
    refine ⟨a', b', c', t', ?_, m2⟩
    refine Ev.step (fun k => by rw [spec_PlayConf.l0]) ?_
    exact ep om (ep om (en k0 (ep k1 (eb e1 m1))))
  by_cases k2 : (rd_T77 ops i).f0 = 2
  ·obtain ⟨c1, ok, e1, e2, e3⟩ := specLearn_ev a b c h (rd_T77 ops i).f1 true
   obtain ⟨a', b', c', t', m1, m2⟩ := go ok _ _ _ e2 (fun x hx => by
    rcases hx with hx | hx | hx
    ·exact hR x (.inl hx)
    ·exact hR x (.inr (.inl hx))
    ·rcases e3 x hx with q | q
     ·exact hR x (.inr (.inr q))
     ·rw [q]; exact hwi'.2.1)
   refine ⟨a', b', c', t', ?_, m2⟩
   refine Ev.step (fun k => by rw [spec_PlayConf.l0]) ?_
   exact ep om (ep om (en k0 (en k1 (ep k2 (eb e1 m1)))))
  by_cases k3 : (rd_T77 ops i).f0 = 3
  ·obtain ⟨c1, ok, e1, e2, e3⟩ := specLearn_ev a b c h (rd_T77 ops i).f1 false
   obtain ⟨a', b', c', t', m1, m2⟩ := go ok _ _ _ e2 (fun x hx => by
    rcases hx with hx | hx | hx
    ·exact hR x (.inl hx)
    ·exact hR x (.inr (.inl hx))
    ·rcases e3 x hx with q | q
     ·exact hR x (.inr (.inr q))
     ·rw [q]; exact hwi'.2.1)
   refine ⟨a', b', c', t', ?_, m2⟩
   refine Ev.step (fun k => by rw [spec_PlayConf.l0]) ?_
   exact ep om (ep om (en k0 (en k1 (en k2 (ep k3 (eb e1 m1))))))
  ·obtain ⟨a', b', c', t', m1, m2⟩ := go false _ _ _ h hR
   refine ⟨a', b', c', t', ?_, m2⟩
   refine Ev.step (fun k => by rw [spec_PlayConf.l0]) ?_
   exact ep om (ep om (en k0 (en k1 (en k2 (en k3 m1)))))
theorem specPlay_ev (ops : List S77) (hops : ops.length ≤ 100) (hw : ∀ x ∈ ops, x.f2.length ≤ 1048576 ∧ x.f1 < 20 ∧ ∀ y ∈ x.f2, y < 20) (a b c : List Int) (h : ConfP a b c) (hR : Low a b c) : ∃ a' b' c' t', Ev (fun k => spec_PlayConf.f k a b c ops) (a', b', c', t') ∧ ConfP a' b' c' ∧ Low a' b' c' := by
 obtain ⟨pa, _, pb, pc, _⟩ := id h
 have la := pa.2
 have lb := pb.2
 have lc := pc.2
 obtain ⟨r, _, h2, h3⟩ := isConf_ev a b c om om om
 obtain ⟨a', b', c', t', m1, m2⟩ := specPlay_l ops hops hw ops.length 0 [] a b c om rfl h hR
 refine ⟨a', b', c', t', ?_, m2⟩
 unfold spec_PlayConf.f
 refine eb h2 (ep (h3.2 h) ?_)
 refine Ev.step (fun k => by rw [spec_PlayConf.j0]) ?_
 exact en (by simp; omega) (eb (l06Copy_ev a b c om om om) m1)
theorem drawSet_l (b : List Int) (hb : b.length ≤ 1048576) (d : Nat) : ∀ (xs : List Int) (x i h : Int), 0 ≤ i → 0 ≤ x → x ≤ 100 → 9 - x ≤ d → xs.Pairwise (· < ·) → (∀ y ∈ xs, 0 ≤ y ∧ y ≤ 8 ∧ y < x) → xs.length ≤ 5 → ∃ r i' h', Ev (fun k => spec_l06DrawSet.l0 k xs x b i h) (r, i', h') ∧ 0 ≤ i' ∧ IdsP r ∧ ((0 < xs.length ∨ x < 9) → 0 < r.length) ∧ ∀ y ∈ r, y < 20 := by
 have fin : ∀ (xs : List Int) (x i h : Int), 0 ≤ i → xs.Pairwise (· < ·) → (∀ y ∈ xs, 0 ≤ y ∧ y ≤ 8 ∧ y < x) → xs.length ≤ 5 → ¬ (x < 9 ∧ (xs.length : Int) < 5) → ∃ r i' h', Ev (fun k => spec_l06DrawSet.l0 k xs x b i h) (r, i', h') ∧ 0 ≤ i' ∧ IdsP r ∧ ((0 < xs.length ∨ x < 9) → 0 < r.length) ∧ ∀ y ∈ r, y < 20 := fun xs x i h h0 hp hr hl hn => by
  refine ⟨xs, i, h, ?_, h0, ids_of hp (fun y hy => by have := hr y hy; omega) om, fun q => by omega, fun y hy => by have := hr y hy; omega⟩
  refine Ev.step (fun k => by rw [spec_l06DrawSet.l0]) ?_
  by_cases q : x < 9
  ·exact ep q (en (fun z => hn ⟨q, z⟩) nw)
  ·exact en q nw
 induction d with
 | zero =>
  intro xs x i h h0 hx hx2 hd hp hr hl
  exact fin xs x i h h0 hp hr hl om
 | succ d ih =>
  intro xs x i h h0 hx hx2 hd hp hr hl
  by_cases hn : x < 9 ∧ (xs.length : Int) < 5
  rotate_left
  ·exact fin xs x i h h0 hp hr hl hn
  obtain ⟨y, i1, h1, e, g0, g1, g2, _⟩ := below_ev b hb i h 3 h0
  have g3 := g2 (by decide)
  obtain ⟨r, i', h', m1, m2, m3, m4⟩ := ih (xs ++ [x]) (x + 1 + y) i1 h1 g0 om om om (by
   rw [List.pairwise_append]
   exact ⟨hp, by simp, fun u hu v hv => by rw [List.mem_singleton] at hv; have := hr u hu; omega⟩) (fun z hz => by
   rcases List.mem_append.1 hz with hz | hz
   ·have := hr z hz; omega
   ·rw [List.mem_singleton] at hz; omega) (by simp; omega)
  refine ⟨r, i', h', ?_, m2, m3, fun _ => m4.1 (.inl (by simp)), m4.2⟩
  refine Ev.step (fun k => by rw [spec_l06DrawSet.l0]) ?_
  refine ep hn.1 (ep hn.2 (ep om (eb (ec e) ?_)))
  rw [w64 (x := x + 1) om om, w64 (x := x + 1 + y) om om]
  exact m1
theorem drawSet_ev (b : List Int) (hb : b.length ≤ 1048576) (i h : Int) (h0 : 0 ≤ i) : ∃ r i' h', Ev (fun k => spec_l06DrawSet.f k b i h) (r, i', h') ∧ 0 ≤ i' ∧ IdsP r ∧ 0 < r.length ∧ ∀ y ∈ r, y < 20 := by
 obtain ⟨y, i1, h1, e, g0, g1, g2, _⟩ := below_ev b hb i h 3 h0
 have g3 := g2 (by decide)
 obtain ⟨r, i', h', m1, m2, m3, m4⟩ := drawSet_l b hb 9 [] y i1 h1 g0 g1 om om (by simp) (by simp) (by simp)
 exact ⟨r, i', h', eb (ec e) m1, m2, m3, m4.1 (.inr om), m4.2⟩
theorem pick_ev (b : List Int) (hb : b.length ≤ 1048576) (i h : Int) (h0 : 0 ≤ i) (l : List Int) (hl : 0 < l.length) (hl2 : l.length ≤ 1000) : ∃ x i' h', spec_l01PickInt.f b i h l = some (x, i', h') ∧ 0 ≤ i' := by
 obtain ⟨y, i1, h1, e, g0, g1, g2, _⟩ := below_ev b hb i h l.length h0
 have g3 := g2 om
 unfold spec_l01PickInt.f
 rw [e]
 simp only [Option.bind_some]
 rw [if_pos g1, if_pos g3]
 exact ⟨_, _, _, rfl, g0⟩
theorem drawOps_l (b : List Int) (hb : b.length ≤ 1048576) (d : Nat) : ∀ (xs : List S77) (n i h : Int), 0 ≤ i → n = d → d ≤ 100 → xs.length + d ≤ 100 → (∀ x ∈ xs, x.f2.length ≤ 1048576 ∧ x.f1 < 20 ∧ ∀ y ∈ x.f2, y < 20) → ∃ r i' h', Ev (fun k => spec_l06DrawOps.l0 k xs n b i h) (r, i', h') ∧ 0 ≤ i' ∧ r.length ≤ 100 ∧ (∀ x ∈ r, x.f2.length ≤ 1048576 ∧ x.f1 < 20 ∧ ∀ y ∈ x.f2, y < 20) := by
 induction d with
 | zero =>
  intro xs n i h h0 hn hd hl hw
  refine ⟨xs, i, h, ?_, h0, by omega, hw⟩
  refine Ev.step (fun k => by rw [spec_l06DrawOps.l0]) ?_
  exact en om nw
 | succ d ih =>
  intro xs n i h h0 hn hd hl hw
  obtain ⟨y1, i1, h1, e1, g1, _⟩ := below_ev b hb i h 6 h0
  obtain ⟨y2, i2, h2, e2, g2⟩ := pick_ev b hb i1 h1 g1 [0, 1, 2, 2, 3, 0, 1, wrap64 (y1 - 1)] (by simp) (by simp)
  obtain ⟨y3, i3, h3, e3, g3, _, g3', _⟩ := below_ev b hb i2 h2 14 g2
  have g3'' := g3' (by decide)
  obtain ⟨y4, i4, h4, e4, g4, g5, _, g6⟩ := drawSet_ev b hb i3 h3 g3
  have := g5.2
  obtain ⟨r, i', h', m1, m2, m3, m4⟩ := ih (xs ++ [⟨y2, y3, y4⟩]) (n - 1) i4 h4 g4 om om (by simp; omega) (fun z hz => by
   rcases List.mem_append.1 hz with hz | hz
   ·exact hw z hz
   ·rw [List.mem_singleton] at hz; rw [hz]; exact ⟨by show y4.length ≤ _; omega, by show y3 < 20; omega, g6⟩)
  refine ⟨r, i', h', ?_, m2, m3, m4⟩
  refine Ev.step (fun k => by rw [spec_l06DrawOps.l0]) ?_
  refine ep om (eb (ec e1) (eb (ec e2) (eb (ec e3) (eb e4 (ep om ?_)))))
  rw [w64 (x := n - 1) om om]
  exact m1
theorem drawOps_ev (b : List Int) (hb : b.length ≤ 1048576) (i h : Int) (h0 : 0 ≤ i) (l : List Int) (hl : l.length ≤ 1048576) : ∃ r i' h', Ev (fun k => spec_l06DrawOps.f k b i h l) (r, i', h') ∧ 0 ≤ i' ∧ r.length ≤ 100 ∧ (∀ x ∈ r, x.f2.length ≤ 1048576 ∧ x.f1 < 20 ∧ ∀ y ∈ x.f2, y < 20) := by
 obtain ⟨n, e, n1, n2⟩ := size_ev l hl 12
 have n3 := n2 om
 obtain ⟨y, i1, h1, e1, g0, g1, g2, _⟩ := below_ev b hb i h (2 + n) h0
 have g3 := g2 om
 obtain ⟨r, i', h', m1, m2⟩ := drawOps_l b hb y.toNat [] y i1 h1 g0 om om (by simp; omega) (by simp)
 refine ⟨r, i', h', ?_, m2⟩
 unfold spec_l06DrawOps.f
 refine eb (ec e) ?_
 rw [w64 (x := 2 + n) om om]
 exact eb (ec e1) m1
theorem drawRight_ev (b : List Int) (hb : b.length ≤ 1048576) (i h : Int) (h0 : 0 ≤ i) (l : List Int) (hl : l.length ≤ 1048576) : ∃ a1 b1 c1 i' h', Ev (fun k => spec_l06DrawRight.f k b i h l) (a1, b1, c1, i', h') ∧ 0 ≤ i' ∧ ConfP a1 b1 c1 ∧ Low a1 b1 c1 := by
 obtain ⟨s, i1, h1, e1, g1, g2, g3, gR⟩ := drawSet_ev b hb i h h0
 obtain ⟨ops, i2, h2, e2, g4, g5, g6⟩ := drawOps_ev b hb i1 h1 g1 l hl
 obtain ⟨a', b', c', t', m1, m2⟩ := specPlay_ev ops g5 g6 s [] [] ⟨g2, g3, ids_nil, ids_nil, fun e => by rw [e] at g3; simp at g3, fun x hx => by simp at hx⟩ (fun x hx => by simp at hx; exact gR x hx)
 exact ⟨a', b', c', i2, h2, eb e1 (eb e2 (eb m1 nw)), g4, m2⟩

theorem new_l (l : List Int) (hl : l.length ≤ 1048576) (d : Nat) : ∀ (i : Nat) (h : Int), l.length = i + d → ∃ h', Ev (fun k => spec_l01New.l0 k l h i) (l, 0, h') := by
 induction d with
 | zero =>
  intro i h hd
  refine ⟨h, ?_⟩
  refine Ev.step (fun k => by rw [spec_l01New.l0]) ?_
  exact en om nw
 | succ d ih =>
  intro i h hd
  by_cases h4 : (i : Int) < 4000
  ·obtain ⟨h', hh⟩ := ih (i + 1) (Go.bits .and .i64 (wrap64 ((wrap64 ((wrap64 (h * 149)) + (wrap64 (rd l i)))) + 11)) 1073741823) om
   refine ⟨h', ?_⟩
   refine Ev.step (fun k => by rw [spec_l01New.l0]) ?_
   rw [wsucc (n := l.length) om om]
   exact ep om (ep h4 (ep om hh))
  ·refine ⟨h, ?_⟩
   refine Ev.step (fun k => by rw [spec_l01New.l0]) ?_
   exact ep om (en h4 nw)
theorem new_ev (l : List Int) (hl : l.length ≤ 1048576) : ∃ h, Ev (fun k => spec_l01New.f k l) (l, 0, h) := by
 obtain ⟨h, hh⟩ := new_l l hl l.length 0 (wrap64 (138138 + (l.length : Int))) om
 exact ⟨h, hh⟩

theorem drawConf_ev (l : List Int) (hl : l.length ≤ 1048576) : ∃ a b c w, Ev (fun k => spec_DrawRightConf.f k l) (a, b, c, w) ∧ ConfP a b c ∧ IdsP w ∧ 0 < w.length ∧ Low a b c ∧ ∀ y ∈ w, y < 20 := by
 obtain ⟨h, e0⟩ := new_ev l hl
 obtain ⟨a, b, c, i1, h1, e1, g1, g2, gR⟩ := drawRight_ev l hl 0 h om l hl
 obtain ⟨w, i2, h2, e2, _, g3, g4, g5⟩ := drawSet_ev l hl i1 h1 g1
 exact ⟨a, b, c, w, eb e0 (eb e1 (eb e2 nw)), g2, g3, g4, gR, g5⟩

theorem copyConf_e (a b c : List Int) (ha : a.length ≤ 1048576) (hb : b.length ≤ 1048576) (hc : c.length ≤ 1048576) : impl_copyConf.f a b c = some (a, b, c) := by
 unfold impl_copyConf.f
 simp only [Option.bind_some, List.length_nil, List.nil_append]
 rw [if_pos om, if_pos om, if_pos om]

/-- compact of a sorted list: its members, each once, in order. -/
theorem compactUpTo_sorted (d : Array Int) (hs : ∀ i j, i < j → j < d.size → d[i]! ≤ d[j]!) : ∀ m, m ≤ d.size → (Lib.compactUpTo d m).Pairwise (· < ·) ∧ (∀ x, x ∈ Lib.compactUpTo d m ↔ ∃ j, j < m ∧ d[j]! = x) := by
 intro m
 induction m with
 | zero =>
  intro _
  refine ⟨by simp [Lib.compactUpTo], fun x => ⟨fun h => by simp [Lib.compactUpTo] at h, fun ⟨j, h, _⟩ => by omega⟩⟩
 | succ m ih =>
  intro hm
  obtain ⟨h1, h2⟩ := ih om
  rw [Lib.compactUpTo_succ]
  by_cases hk : Lib.keeps d m = true
  ·rw [if_pos hk]
   have hlt : ∀ j, j < m → d[j]! < d[m]! := fun j hj => by
    have a := hs j m hj om
    rcases Int.lt_or_eq_of_le a with h | h
    ·exact h
    ·exfalso
     have b := hs j (m - 1)
     have c : d[m - 1]! ≤ d[m]! := hs (m - 1) m om om
     have e : d[m]! = d[m - 1]! := by
      by_cases q : j = m - 1
      ·rw [← q]; exact h.symm
      ·have := b om om; omega
     rw [Lib.keeps_neg om e] at hk
     cases hk
   refine ⟨?_, fun x => ?_⟩
   ·rw [List.pairwise_append]
    refine ⟨h1, by simp, fun a ha b hb => ?_⟩
    obtain ⟨j, hj, rfl⟩ := (h2 a).1 ha
    rw [List.mem_singleton] at hb
    rw [hb]
    exact hlt j hj
   ·rw [List.mem_append, h2, List.mem_singleton]
    constructor
    ·rintro (⟨j, hj, e⟩ | rfl)
     ·exact ⟨j, by omega, e⟩
     ·exact ⟨m, by omega, rfl⟩
    ·rintro ⟨j, hj, e⟩
     by_cases q : j = m
     ·subst q; exact .inr e.symm
     ·exact .inl ⟨j, by omega, e⟩
  ·have hk' : Lib.keeps d m = false := by simpa using hk
   rw [if_neg hk, List.append_nil]
   refine ⟨h1, fun x => ?_⟩
   rw [h2]
   constructor
   ·rintro ⟨j, hj, e⟩; exact ⟨j, by omega, e⟩
   ·rintro ⟨j, hj, e⟩
    by_cases q : j = m
    ·subst q
     by_cases h0 : j = 0
     ·subst h0
      rw [Lib.keeps_lt_one d 0 om] at hk'; cases hk'
     ·by_cases q2 : d[j]! = d[j - 1]!
      ·exact ⟨j - 1, by omega, q2.symm.trans e⟩
      ·rw [Lib.keeps_pos q2] at hk'; cases hk'
    ·exact ⟨j, by omega, e⟩

theorem compact_vot (a b : List Int) (hr : ∀ x, x ∈ a ∨ x ∈ b → 0 ≤ x ∧ x ≤ 99) : Lib.compact ((a ++ b).mergeSort fun x y => decide (x ≤ y)) = votM a b 100 := by
 obtain ⟨zs, hz⟩ : ∃ zs, zs = (a ++ b).mergeSort fun x y => decide (x ≤ y) := ⟨_, rfl⟩
 have hp : zs.Pairwise (fun a b => (fun x y : Int => decide (x ≤ y)) a b = true) := by
  rw [hz]
  exact List.pairwise_mergeSort (fun a b c h1 h2 => by simp at h1 h2 ⊢; omega) (fun a b => by simp; omega) _
 have hm : ∀ x, x ∈ zs ↔ x ∈ a ∨ x ∈ b := fun x => by rw [hz, List.mem_mergeSort, List.mem_append]
 rw [← hz]
 have hs : ∀ i j, i < j → j < zs.toArray.size → zs.toArray[i]! ≤ zs.toArray[j]! := fun i j hij hj => by
  have hj' : j < zs.length := by simpa using hj
  have := List.pairwise_iff_getElem.1 hp i j om hj' hij
  rw [getElem!_pos _ i (by simp; omega), getElem!_pos _ j hj]
  simpa using this
 obtain ⟨h1, h2⟩ := compactUpTo_sorted zs.toArray hs zs.length (by simp)
 refine strict_eq _ _ h1 (votM_sorted a b 100) fun x => ?_
 show x ∈ Lib.compactUpTo zs.toArray zs.length ↔ _
 rw [h2, votM_mem]
 constructor
 ·rintro ⟨j, hj, rfl⟩
  have hx : zs.toArray[j]! ∈ a ∨ zs.toArray[j]! ∈ b := by
   rw [getElem!_pos _ j (by simpa using hj)]
   exact (hm _).1 (by simp)
  have := hr _ hx
  exact ⟨by omega, by omega, hx⟩
 ·rintro ⟨_, _, h⟩
  obtain ⟨j, hj, e⟩ := List.mem_iff_getElem.1 ((hm x).2 h)
  refine ⟨j, hj, ?_⟩
  rw [getElem!_pos _ j (by simpa using hj)]
  simpa using e
theorem votersI_ev (a b c : List Int) (h : ConfP a b c) : Ev (fun k => impl_Voters.f k a b c) (votM a b 100) := by
 obtain ⟨pa, _, pb, pc, _⟩ := id h
 have la := pa.2
 have lb := pb.2
 obtain ⟨r, h1, _, h3⟩ := isConf_ev a b c om om (by have := pc.2; omega)
 have hs : slices_Sort_int_int.f (a ++ b) = some ((a ++ b).mergeSort fun x y => decide (x ≤ y)) := by
  unfold slices_Sort_int_int.f
  rw [if_pos (by simp; omega)]
 have hcm : slices_Compact_int_int.f ((a ++ b).mergeSort fun x y => decide (x ≤ y)) = some (votM a b 100) := by
  unfold slices_Compact_int_int.f
  rw [if_pos (by simp; omega), compact_vot a b (fun x hx => hx.elim (ids_range pa) (ids_range pb))]
 unfold impl_Voters.f
 refine eb h1 (ep (h3.2 h) ?_)
 refine eb (a := ([] : List Int)) nw (ep (by simp; omega) (eb (a := a) (ec (by simp)) (ep om ?_)))
 exact eb (ec hs) (eb (ec hcm) nw)

theorem within_l (l : List Int) (hl : l.length ≤ 1048576) (x : Int) (d : Nat) : ∀ i : Nat, l.length = i + d → (∀ j : Nat, j < i → rd l j ≠ x) → Ev (fun k => laws_within.l0 k l x i) (decide (x ∈ l)) := by
 induction d with
 | zero =>
  intro i hd hb
  rw [decide_eq_false (fun h => by obtain ⟨j, hj, e⟩ := (mem_rd l x).1 h; exact hb j om e)]
  refine Ev.step (fun k => by rw [laws_within.l0]) ?_
  exact en om nw
 | succ d ih =>
  intro i hd hb
  refine Ev.step (fun k => by rw [laws_within.l0]) ?_
  rw [wsucc (j := i) (n := l.length) om om]
  refine ep om (ep om ?_)
  by_cases e : rd l i = x
  ·rw [decide_eq_true ((mem_rd l x).2 ⟨i, by omega, e⟩)]
   exact ep e nw
  ·exact en e (ih (i + 1) om (fun j hj => if q : j = i then by rw [q]; exact e else hb j om))
theorem within_ev (l : List Int) (hl : l.length ≤ 1048576) (x : Int) : Ev (fun k => laws_within.f k l x) (decide (x ∈ l)) := within_l l hl x l.length 0 om (fun j hj => by omega)
theorem sameI_l (l : List Int) (hl : l.length ≤ 1048576) (d : Nat) : ∀ i : Nat, l.length = i + d → Ev (fun k => laws_sameInts.l0 k l l i) true := by
 induction d with
 | zero =>
  intro i hd
  refine Ev.step (fun k => by rw [laws_sameInts.l0]) ?_
  exact en om nw
 | succ d ih =>
  intro i hd
  refine Ev.step (fun k => by rw [laws_sameInts.l0]) ?_
  rw [wsucc (j := i) (n := l.length) om om]
  exact ep om (ep om (ep om (ep rfl (ih (i + 1) om))))
theorem sameI_ev (l : List Int) (hl : l.length ≤ 1048576) : Ev (fun k => laws_sameInts.f k l l) true := by
 unfold laws_sameInts.f
 exact ep rfl (sameI_l l hl l.length 0 om)
theorem sameC_ev (a b c : List Int) (ha : a.length ≤ 1048576) (hb : b.length ≤ 1048576) (hc : c.length ≤ 1048576) : Ev (fun k => laws_sameConf.f k a b c a b c) true := by
 unfold laws_sameConf.f
 exact eb (sameI_ev a ha) (ep rfl (eb (sameI_ev b hb) (ep rfl (eb (sameI_ev c hc) nw))))
theorem confOk_ev {a b c : List Int} (h : ConfP a b c) : Ev (fun k => impl_isConf.f k a b c) true := by
 have la := h.1.2
 have lb := h.2.2.1.2
 have lc := h.2.2.2.1.2
 obtain ⟨r, h1, _, h3⟩ := isConf_ev a b c om om om
 rwa [h3.2 h] at h1
theorem begin_ev {a b c w : List Int} (h : ConfP a b c) (hw : IdsP w) (hw0 : 0 < w.length) : (Ev (fun k => impl_Begin.f k a b c w) (a, w, c.filter (fun x => !decide (x ∈ w)), true) ∧ ConfP a w (c.filter (fun x => !decide (x ∈ w)))) ∨ Ev (fun k => impl_Begin.f k a b c w) (a, b, c, false) := by
 have la := h.1.2
 have lb := h.2.2.1.2
 have lc := h.2.2.2.1.2
 have lw := hw.2
 have hk := confOk_ev h
 have hcp := copyConf_e a b c om om om
 unfold impl_Begin.f impl_begin.f
 by_cases hb : (b.length : Int) > 0
 ·refine .inr (eb (a := (a, b, c, false)) (eb (ec hcp) (eb hk (ep rfl (ep hb ?_)))) nw)
  refine Ev.step (fun k => by rw [impl_begin.j0]) ?_
  exact ep rfl nw
 have lf := List.length_filter_le (fun x => !decide (x ∈ w)) c
 obtain ⟨r, r1, _, r3⟩ := isConf_ev a w (c.filter (fun x => !decide (x ∈ w))) om om om
 have hdf : slices_DeleteFunc_int_int.f c w = some (c.filter (fun x => !decide (x ∈ w))) := by
  unfold slices_DeleteFunc_int_int.f slices_DeleteFunc_int_int.p
  rfl
 have hz : ((w.length : Int) == 0) = false := beq_false_of_ne om
 by_cases hr : r = true
 ·refine .inl ⟨eb (a := (a, w, c.filter (fun x => !decide (x ∈ w)), true)) (eb (ec hcp) (eb hk (ep rfl (en hb ?_)))) nw, r3.1 hr⟩
  refine Ev.step (fun k => by rw [impl_begin.j0]) ?_
  refine en (by rw [hz]; simp) (eb nw (ep (by simp; omega) (eb nw ?_)))
  rw [List.nil_append]
  exact eb (ec hdf) (eb r1 (ep hr nw))
 ·refine .inr (eb (a := (a, b, c, false)) (eb (ec hcp) (eb hk (ep rfl (en hb ?_)))) nw)
  refine Ev.step (fun k => by rw [impl_begin.j0]) ?_
  refine en (by rw [hz]; simp) (eb nw (ep (by simp; omega) (eb nw ?_)))
  rw [List.nil_append]
  exact eb (ec hdf) (eb r1 (en hr (eb (ec hcp) nw)))
theorem finish_ev {a b c : List Int} (h : ConfP a b c) (hb : 0 < b.length) : Ev (fun k => impl_Finish.f k a b c) (b, [], c, true) := by
 have la := h.1.2
 have lb := h.2.2.1.2
 have lc := h.2.2.2.1.2
 unfold impl_Finish.f impl_finish.f
 exact eb (eb (ec (copyConf_e a b c om om om)) (eb (confOk_ev h) (ep rfl (en om nw)))) nw
/-- An id above all: put in at the end, or refused where there is no room. -/

theorem voters_l (a b c : List Int) (ha : a.length ≤ 1048576) (hb : b.length ≤ 1048576) (d : Nat) : ∀ i : Nat, 100 = i + d → Ev (fun k => spec_Voters.l0 k (votM a b i) i a b c) (votM a b 100) := by
 induction d with
 | zero =>
  intro i hd
  have : i = 100 := by omega
  subst this
  refine Ev.step (fun k => by rw [spec_Voters.l0]) ?_
  exact en om nw
 | succ d ih =>
  intro i hd
  have hi := wsucc (j := i) (n := 100) om om
  have hlen := votM_len a b i
  have h := ih (i + 1) om
  rw [votM_succ] at h
  refine Ev.step (fun k => by rw [spec_Voters.l0]) ?_
  rw [hi]
  refine ep om (eb (has_ev a ha _) ?_)
  by_cases h1 : (i : Int) ∈ a
  ·rw [if_pos (.inl h1)] at h
   exact ep (decide_eq_true h1) (ep om h)
  refine en (by simpa using h1) (eb (has_ev b hb _) ?_)
  by_cases h2 : (i : Int) ∈ b
  ·rw [if_pos (.inr h2)] at h
   exact ep (decide_eq_true h2) (ep om h)
  ·rw [if_neg (by rintro (q | q) <;> contradiction)] at h
   exact en (by simpa using h2) h
theorem voters_ev (a b c : List Int) (ha : a.length ≤ 1048576) (hb : b.length ≤ 1048576) (hc : c.length ≤ 1048576) : ∃ v : List Int, v.length ≤ 100 ∧ Ev (fun k => impl_Voters.f k a b c) v ∧ Ev (fun k => spec_Voters.f k a b c) v := by
 obtain ⟨r, h1, h2, h3⟩ := isConf_ev a b c ha hb hc
 by_cases h : r = true
 rotate_left
 ·unfold impl_Voters.f spec_Voters.f
  exact ⟨[], by simp, eb h1 (en h nw), eb h2 (en h nw)⟩
 have hi := votersI_ev a b c (h3.1 h)
 obtain ⟨pa, _, pb, _⟩ := h3.1 h
 have la := pa.2
 have lb := pb.2
 refine ⟨votM a b 100, votM_len a b 100, hi, ?_⟩
 unfold spec_Voters.f
 exact eb h2 (ep h (voters_l a b c ha hb 100 0 om))

theorem index_l (l : List Int) (hl : l.length ≤ 1048576) (a : Int) (d : Nat) : ∀ i : Nat, l.length = i + d → (∀ j : Nat, j < i → rd l j ≠ a) → ∃ r, Ev (fun k => slices_Index_int_int.l0 k l a (l.length : Int) i) r ∧ decide (r ≥ 0) = decide (a ∈ l) := by
 induction d with
 | zero =>
  intro i hd hb
  refine ⟨-1, ?_, ?_⟩
  ·refine Ev.step (fun k => by rw [slices_Index_int_int.l0]) ?_
   exact en om nw
  ·rw [decide_eq_false om, decide_eq_false]
   intro h
   obtain ⟨j, hj, e⟩ := (mem_rd l a).1 h
   exact hb j om e
 | succ d ih =>
  intro i hd hb
  have hi := wsucc (j := i) (n := l.length) om om
  by_cases h : a = rd l i
  ·refine ⟨i, ?_, ?_⟩
   ·refine Ev.step (fun k => by rw [slices_Index_int_int.l0]) ?_
    exact ep om (ep om (ep om (ep h nw)))
   ·rw [decide_eq_true om, decide_eq_true ((mem_rd l a).2 ⟨i, by omega, h.symm⟩)]
  ·obtain ⟨r, h1, h2⟩ := ih (i + 1) om (fun j hj => by
    by_cases e : j = i
    ·subst e; exact fun z => h z.symm
    ·exact hb j om)
   refine ⟨r, ?_, h2⟩
   refine Ev.step (fun k => by rw [slices_Index_int_int.l0]) ?_
   rw [hi]
   exact ep om (ep om (ep om (en h h1)))
theorem contains_ev (l : List Int) (hl : l.length ≤ 1048576) (a : Int) : Ev (fun k => slices_Contains_int_int.f k l a) (decide (a ∈ l)) := by
 obtain ⟨r, h1, h2⟩ := index_l l hl a l.length 0 om (fun j h => by omega)
 unfold slices_Contains_int_int.f slices_Index_int_int.f
 rw [← h2]
 exact eb h1 nw

def cnt (s y : List Int) : Nat := (s.filter (fun x => decide (x ∈ y))).length
def maj (s y : List Int) : Bool := decide (2 * cnt s y > s.length)
def qM (a b y : List Int) : Bool := maj a y && (decide (b.length = 0) || maj b y)
theorem cnt_succ (s y : List Int) (i : Nat) (hi : i < s.length) : cnt (s.take (i + 1)) y = if rd s i ∈ y then cnt (s.take i) y + 1 else cnt (s.take i) y := by
 unfold cnt
 rw [take_succ_getD s i 0 hi, List.filter_append, List.length_append, show s.getD i 0 = rd s (i : Int) by unfold rd; rw [toNat_cast]]
 by_cases h : rd s (i : Int) ∈ y
 ·rw [if_pos h, List.filter_cons_of_pos (by simpa using h)]; simp
 ·rw [if_neg h, List.filter_cons_of_neg (by simpa using h)]; simp
theorem cnt_le (s y : List Int) : cnt s y ≤ s.length := List.length_filter_le _ _
theorem cnt_mono (s : List Int) {y z : List Int} (h : ∀ x, x ∈ y → x ∈ z) : cnt s y ≤ cnt s z := by
 unfold cnt
 induction s with
 | nil => simp
 | cons x s ih =>
  by_cases h1 : x ∈ y
  ·rw [List.filter_cons_of_pos (by simpa using h1), List.filter_cons_of_pos (by simpa using h x h1)]
   simpa using ih
  ·rw [List.filter_cons_of_neg (by simpa using h1)]
   by_cases h2 : x ∈ z
   ·rw [List.filter_cons_of_pos (by simpa using h2)]; simp; omega
   ·rw [List.filter_cons_of_neg (by simpa using h2)]; exact ih
theorem maj_mono (s : List Int) {y z : List Int} (h : ∀ x, x ∈ y → x ∈ z) (hm : maj s y = true) : maj s z = true := by
 have := cnt_mono s h
 unfold maj at *
 rw [decide_eq_true_iff] at *
 omega
theorem qM_mono (a b : List Int) {y z : List Int} (h : ∀ x, x ∈ y → x ∈ z) (hm : qM a b y = true) : qM a b z = true := by
 unfold qM at *
 rw [Bool.and_eq_true, Bool.or_eq_true] at *
 exact ⟨maj_mono a h hm.1, hm.2.elim .inl fun q => .inr (maj_mono b h q)⟩
theorem cnt_all {s y : List Int} (h : ∀ x ∈ s, x ∈ y) : cnt s y = s.length := by
 unfold cnt
 rw [List.filter_eq_self.2 (fun x hx => by simpa using h x hx)]
theorem maj_all {s y : List Int} (h : ∀ x ∈ s, x ∈ y) (h0 : 0 < s.length) : maj s y = true := by
 unfold maj
 rw [decide_eq_true_iff, cnt_all h]
 omega
theorem qM_all {a b y : List Int} (ha : ∀ x ∈ a, x ∈ y) (hb : ∀ x ∈ b, x ∈ y) (h0 : 0 < a.length) : qM a b y = true := by
 unfold qM
 rw [Bool.and_eq_true, Bool.or_eq_true]
 refine ⟨maj_all ha h0, ?_⟩
 by_cases q : b.length = 0
 ·exact .inl (decide_eq_true q)
 ·exact .inr (maj_all hb om)
theorem qM_nil (a b : List Int) : qM a b [] = false := by
 have : cnt a [] = 0 := by unfold cnt; simp
 unfold qM maj
 rw [this, decide_eq_false om]
 rfl
theorem half_end (s y : List Int) (hs : s.length ≤ 1048576) : decide (wrap64 (2 * (cnt s y : Int)) > (s.length : Int)) = maj s y := by
 have := cnt_le s y
 unfold maj
 rw [w64 om om]
 exact decide_eq_decide.2 om
theorem majI_l (s y : List Int) (hs : s.length ≤ 1048576) (hy : y.length ≤ 1048576) (d : Nat) : ∀ i : Nat, s.length = i + d → Ev (fun k => impl_hasMajority.l0 k s y (cnt (s.take i) y) s s.length i) (maj s y) := by
 induction d with
 | zero =>
  intro i hd
  refine Ev.step (fun k => by rw [impl_hasMajority.l0]) ?_
  rw [List.take_of_length_le om, ← half_end s y hs]
  exact en om nw
 | succ d ih =>
  intro i hd
  have hi := wsucc (j := i) (n := s.length) om om
  have hc := wsucc (j := cnt (s.take i) y) (n := 1048577) (by have := cnt_le (s.take i) y; rw [List.length_take] at this; omega) om
  have h := ih (i + 1) om
  rw [cnt_succ s y i om] at h
  refine Ev.step (fun k => by rw [impl_hasMajority.l0]) ?_
  rw [hi, hc]
  refine ep om (ep om (ep om (eb (contains_ev y hy _) ?_)))
  by_cases q : rd s (i : Int) ∈ y
  ·rw [if_pos q] at h
   exact ep (decide_eq_true q) h
  ·rw [if_neg q] at h
   exact en (by simpa using q) h
theorem majI_ev (s y : List Int) (hs : s.length ≤ 1048576) (hy : y.length ≤ 1048576) : Ev (fun k => impl_hasMajority.f k s y) (maj s y) := majI_l s y hs hy s.length 0 om
theorem quorumI_ev (a b c y : List Int) (ha : a.length ≤ 1048576) (hb : b.length ≤ 1048576) (hy : y.length ≤ 1048576) : Ev (fun k => impl_quorum.f k a b c y) (qM a b y) := by
 unfold impl_quorum.f qM
 refine eb (majI_ev a y ha hy) ?_
 by_cases h : maj a y = true
 ·by_cases q : b.length = 0
  ·rw [h, decide_eq_true q]
   exact ep rfl (ep om nw)
  ·rw [h, decide_eq_false q, Bool.false_or, Bool.true_and]
   exact ep rfl (en om (eb (majI_ev b y hb hy) nw))
 ·have h' : maj a y = false := by simpa using h
  rw [h', Bool.false_and]
  exact en (by simp) nw
theorem QuorumI_ev (a b c y : List Int) (h : ConfP a b c) (hy : y.length ≤ 1048576) : Ev (fun k => impl_Quorum.f k a b c y) (qM a b y) := by
 obtain ⟨pa, _, pb, pc, _⟩ := id h
 have la := pa.2
 have lb := pb.2
 have lc := pc.2
 obtain ⟨r, h1, _, h3⟩ := isConf_ev a b c om om om
 exact eb h1 (ep (h3.2 h) (eb (quorumI_ev a b c y om om hy) nw))

theorem majS_l (s y : List Int) (hs : s.length ≤ 1048576) (hy : y.length ≤ 1048576) (d : Nat) : ∀ i : Nat, s.length = i + d → Ev (fun k => spec_l06Half.l0 k s y (cnt (s.take i) y) i) (maj s y) := by
 induction d with
 | zero =>
  intro i hd
  refine Ev.step (fun k => by rw [spec_l06Half.l0]) ?_
  rw [List.take_of_length_le om, ← half_end s y hs]
  exact en om nw
 | succ d ih =>
  intro i hd
  have hi := wsucc (j := i) (n := s.length) om om
  have hc := wsucc (j := cnt (s.take i) y) (n := 1048577) (by have := cnt_le (s.take i) y; rw [List.length_take] at this; omega) om
  have h := ih (i + 1) om
  rw [cnt_succ s y i om] at h
  refine Ev.step (fun k => by rw [spec_l06Half.l0]) ?_
  rw [hi, hc]
  refine ep om (ep om (eb (has_ev y hy _) ?_))
  by_cases q : rd s (i : Int) ∈ y
  ·rw [if_pos q] at h
   exact ep (decide_eq_true q) h
  ·rw [if_neg q] at h
   exact en (by simpa using q) h
theorem majS_ev (s y : List Int) (hs : s.length ≤ 1048576) (hy : y.length ≤ 1048576) : Ev (fun k => spec_l06Half.f k s y) (maj s y) := majS_l s y hs hy s.length 0 om
theorem QuorumS_ev (a b c y : List Int) (h : ConfP a b c) (hy : y.length ≤ 1048576) : Ev (fun k => spec_Quorum.f k a b c y) (qM a b y) := by
 obtain ⟨pa, _, pb, pc, _⟩ := id h
 have la := pa.2
 have lb := pb.2
 have lc := pc.2
 obtain ⟨r, _, h2, h3⟩ := isConf_ev a b c om om om
 unfold spec_Quorum.f qM
 refine eb h2 (ep (h3.2 h) (eb (majS_ev a y om hy) ?_))
 by_cases h : maj a y = true
 ·by_cases q : b.length = 0
  ·rw [h, decide_eq_true q]
   exact ep rfl (ep om nw)
  ·rw [h, decide_eq_false q, Bool.false_or, Bool.true_and]
   exact ep rfl (en om (eb (majS_ev b y om hy) nw))
 ·have h' : maj a y = false := by simpa using h
  rw [h', Bool.false_and]
  exact en (by simp) nw

theorem cnt_meet (y z : List Int) : ∀ s : List Int, cnt s y + cnt s z ≤ s.length + (s.filter (fun x => decide (x ∈ y ∧ x ∈ z))).length
 | [] => by simp [cnt]
 | x :: s => by
  have ih := cnt_meet y z s
  unfold cnt at ih ⊢
  by_cases h1 : x ∈ y <;> by_cases h2 : x ∈ z <;> simp [h1, h2] at ih ⊢ <;> omega
/-- Two lists that hold a majority of one row have one of it in common. -/
theorem maj_meet {s y z : List Int} (hy : maj s y = true) (hz : maj s z = true) : ∃ x, x ∈ s ∧ x ∈ y ∧ x ∈ z := by
 have h := cnt_meet y z s
 unfold maj at hy hz
 have h1 := of_decide_eq_true hy
 have h2 := of_decide_eq_true hz
 have h3 : 0 < (s.filter (fun x => decide (x ∈ y ∧ x ∈ z))).length := by omega
 obtain ⟨x, hx⟩ := List.exists_mem_of_length_pos h3
 rw [List.mem_filter] at hx
 exact ⟨x, hx.1, of_decide_eq_true hx.2⟩

theorem svot_ev {a b c : List Int} (h : ConfP a b c) : Ev (fun k => spec_Voters.f k a b c) (votM a b 100) := by
 have la := h.1.2
 have lb := h.2.2.1.2
 have lc := h.2.2.2.1.2
 obtain ⟨r, _, h2, h3⟩ := isConf_ev a b c om om om
 rw [h3.2 h] at h2
 unfold spec_Voters.f
 exact eb h2 (ep rfl (voters_l a b c om om 100 0 om))
theorem q6 (X : List S26) (L : List (List Int)) (o n c : List Int) (i a b j : Nat) (hi : i < X.length) (hj : j < X.length) (ha : a < L.length) (hb : b < L.length) (hX : X.length ≤ 1000) (hL : L.length ≤ 1000) (Vi Vj : List Int) (vi : Ev (fun k => spec_Voters.f k (rd_T26 X (i : Int)).f0 (rd_T26 X (i : Int)).f1 (rd_T26 X (i : Int)).f2) Vi) (vj : Ev (fun k => spec_Voters.f k (rd_T26 X (j : Int)).f0 (rd_T26 X (j : Int)).f1 (rd_T26 X (j : Int)).f2) Vj) (hvi : Vi.length ≤ 1000) (hvj : Vj.length ≤ 1000) (A B : List Int) (hA : rd_L2 L (a : Int) = A) (hB : rd_L2 L (b : Int) = B) (hla : A.length ≤ 1000) (hlb : B.length ≤ 1000) (hN : Ev (fun k => laws_FnQuorums.l5 k X L i a b (wrap64 ((j : Int) + 1)) o n c) true) (d : Nat) : ∀ (q : Nat) (met : Bool), A.length = q + d → (met = true ∨ ∃ p : Nat, q ≤ p ∧ p < A.length ∧ rd A (p : Int) ∈ B ∧ (rd A (p : Int) ∈ Vi ∨ rd A (p : Int) ∈ Vj)) → Ev (fun k => laws_FnQuorums.l6 k X L i a b j met q o n c) true := by
 induction d with
 | zero =>
  intro q met hd hm
  have hm' : met = true := by
   rcases hm with h | ⟨p, h1, h2, _⟩
   ·exact h
   ·omega
  refine Ev.step (fun k => by rw [laws_FnQuorums.l6]) ?_
  simp only [hA, hB]
  exact ep om (ep om (en om (ep hm' hN)))
 | succ d ih =>
  intro q met hd hm
  have hq := wsucc (j := q) (n := A.length) om om
  have hlt : q < A.length := by omega
  have w1 := within_ev B om (rd A (q : Int))
  have w2 := within_ev Vi om (rd A (q : Int))
  have w3 := within_ev Vj om (rd A (q : Int))
  refine Ev.step (fun k => by rw [laws_FnQuorums.l6]) ?_
  simp only [hA, hB]
  rw [hq]
  refine ep (Int.natCast_nonneg _) (ep (Int.ofNat_lt.mpr ha) (ep (Int.ofNat_lt.mpr hlt) (ep (Int.natCast_nonneg _) (ep (Int.natCast_nonneg _) (ep (Int.ofNat_lt.mpr hb) (eb w1 ?_))))))
  by_cases g1 : rd A (q : Int) ∈ B
  rotate_left
  ·refine en (by simpa using g1) (ih (q + 1) met om ?_)
   rcases hm with h | ⟨p, h1, h2, h3, h4⟩
   ·exact .inl h
   ·refine .inr ⟨p, ?_, h2, h3, h4⟩
    exact Nat.lt_of_le_of_ne h1 (fun e => g1 (by rw [e]; exact h3))
  refine ep (by simpa using g1) (ep (Int.natCast_nonneg _) (ep (Int.ofNat_lt.mpr hi) (eb vi (eb w2 ?_))))
  by_cases g2 : rd A (q : Int) ∈ Vi
  ·exact ep (decide_eq_true g2) (ih (q + 1) true om (.inl rfl))
  refine en (by rw [decide_eq_true_iff]; exact g2) (ep (Int.natCast_nonneg _) (ep (Int.ofNat_lt.mpr hj) (eb vj (eb w3 ?_))))
  by_cases g3 : rd A (q : Int) ∈ Vj
  ·exact ep (decide_eq_true g3) (ih (q + 1) true om (.inl rfl))
  refine en (by rw [decide_eq_true_iff]; exact g3) (ih (q + 1) met om ?_)
  rcases hm with h | ⟨p, h1, h2, h3, h4⟩
  ·exact .inl h
  ·refine .inr ⟨p, ?_, h2, h3, h4⟩
   exact Nat.lt_of_le_of_ne h1 (fun e => (show rd A (q : Int) ∈ Vi ∨ rd A (q : Int) ∈ Vj by rw [e]; exact h4).elim g2 g3)

theorem at_ev (l : List Int) (hl : l.length ≤ 1048576) (hw : ∀ x ∈ l, (Lit.int .u8 x).wf = true) (i : Nat) (hi : i ≤ 1000) : ∃ x, laws_at.f l i = some x ∧ 0 ≤ x ∧ x ≤ 255 := by
 unfold laws_at.f
 by_cases h : (i : Int) < (l.length : Int)
 ·rw [if_pos h, if_pos om]
  have hx : 0 ≤ rd l i ∧ rd l i ≤ 255 := by
   unfold rd
   rw [toNat_cast]
   have := hw _ (getD_mem l i 0 om)
   generalize l.getD i 0 = x at this ⊢
   simp [Lit.wf, IntKind.min, IntKind.max, IntKind.signed, IntKind.bits] at this
   omega
  exact ⟨_, rfl, by rw [w64 om om]; omega, by rw [w64 om om]; omega⟩
 ·rw [if_neg h, w64 (x := (i : Int) * 13) om om, w64 (x := (l.length : Int) * 5) om om, w64 om om]
  exact ⟨_, rfl, Int.tmod_nonneg _ om, by have := Int.tmod_lt_of_pos ((i : Int) * 13 + (l.length : Int) * 5) (show (0 : Int) < 256 by omega); omega⟩

/-- Both rows' quorums hold a majority of one row of voters. -/
def Sh (P Q : S26) : Prop := ∃ s : List Int, (∀ x ∈ s, 0 ≤ x ∧ x ≤ 99 ∧ (x ∈ P.f0 ∨ x ∈ P.f1)) ∧ (∀ y, qM P.f0 P.f1 y = true → maj s y = true) ∧ (∀ y, qM Q.f0 Q.f1 y = true → maj s y = true)
def ConfS (P : S26) : Prop := ConfP P.f0 P.f1 P.f2
theorem qM_fst {a b y : List Int} (h : qM a b y = true) : maj a y = true := by
 unfold qM at h
 rw [Bool.and_eq_true] at h
 exact h.1
theorem qM_snd {a b y : List Int} (hb : 0 < b.length) (h : qM a b y = true) : maj b y = true := by
 unfold qM at h
 rw [Bool.and_eq_true, Bool.or_eq_true] at h
 exact h.2.elim (fun q => absurd (of_decide_eq_true q) om) id
theorem sh_fst {P Q : S26} (h : IdsP P.f0) (e : Q.f0 = P.f0) : Sh P Q := ⟨P.f0, fun x hx => by have := ids_range h hx; exact ⟨this.1, this.2, .inl hx⟩, fun y h => qM_fst h, fun y h => by rw [← e]; exact qM_fst h⟩
theorem sh_snd {P Q : S26} (h : IdsP P.f1) (h0 : 0 < P.f1.length) (e : Q.f0 = P.f1) : Sh P Q := ⟨P.f1, fun x hx => by have := ids_range h hx; exact ⟨this.1, this.2, .inr hx⟩, fun y h => qM_snd h0 h, fun y h => by rw [← e]; exact qM_fst h⟩
theorem sh_meet {P Q : S26} (h : Sh P Q) {y z : List Int} (hy : qM P.f0 P.f1 y = true) (hz : qM Q.f0 Q.f1 z = true) : ∃ x, x ∈ y ∧ x ∈ z ∧ x ∈ votM P.f0 P.f1 100 := by
 obtain ⟨s, h1, h2, h3⟩ := h
 obtain ⟨x, hx, hxy, hxz⟩ := maj_meet (h2 y hy) (h3 z hz)
 obtain ⟨g0, g1, g2⟩ := h1 x hx
 exact ⟨x, hxy, hxz, (votM_mem _ _ 100 x).2 ⟨g0, by omega, g2⟩⟩
theorem rdL_mem (L : List (List Int)) (a : Nat) (h : a < L.length) : rd_L2 L a ∈ L := by
 unfold rd_L2
 rw [Int.toNat_natCast, List.getD_eq_getElem?_getD, List.getElem?_eq_getElem h]
 exact List.getElem_mem _
theorem q5 (X : List S26) (L : List (List Int)) (o n c : List Int) (hX : X.length = 3) (hL : L.length = 4) (hC : ∀ i : Nat, i < 3 → ConfS (rd_T26 X i)) (hLl : ∀ a : Nat, a < 4 → (rd_L2 L a).length ≤ 12) (hS : ∀ i j : Nat, j < 3 → i ≤ j → j ≤ i + 1 → Sh (rd_T26 X i) (rd_T26 X j)) (i a b : Nat) (hi : i < 3) (ha : a < 4) (hb : b < 4) (hN : Ev (fun k => laws_FnQuorums.l4 k X L i a (wrap64 ((b : Int) + 1)) o n c) true) (d : Nat) : ∀ j : Nat, 3 = j + d → i ≤ j → Ev (fun k => laws_FnQuorums.l5 k X L i a b j o n c) true := by
 induction d with
 | zero =>
  intro j hd hij
  refine Ev.step (fun k => by rw [laws_FnQuorums.l5]) ?_
  exact en om hN
 | succ d ih =>
  intro j hd hij
  have hj3 : j < 3 := by omega
  have hj := wsucc (j := j) (n := 3) hj3 om
  have hi1 := wsucc (j := i) (n := 3) hi om
  have hn := ih (j + 1) om om
  have l1 := hLl a ha
  have l2 := hLl b hb
  have xi : (i : Int) < (X.length : Int) := by rw [hX]; omega
  have xj : (j : Int) < (X.length : Int) := by rw [hX]; omega
  have la : (a : Int) < (L.length : Int) := by rw [hL]; omega
  have lb : (b : Int) < (L.length : Int) := by rw [hL]; omega
  have Q1 := QuorumI_ev _ _ _ (rd_L2 L (a : Int)) (hC i hi) om
  have Q2 := QuorumI_ev _ _ _ (rd_L2 L (b : Int)) (hC j hj3) om
  refine Ev.step (fun k => by rw [laws_FnQuorums.l5]) ?_
  rw [hi1, hj]
  refine ep om ?_
  by_cases hji : j ≤ i + 1
  rotate_left
  ·exact en om hN
  refine ep om (ep (Int.natCast_nonneg _) (ep xi (ep (Int.natCast_nonneg _) (ep la (eb Q1 ?_)))))
  by_cases g1 : qM (rd_T26 X (i : Int)).f0 (rd_T26 X (i : Int)).f1 (rd_L2 L (a : Int)) = true
  rotate_left
  ·exact en g1 hn
  refine ep g1 (ep (Int.natCast_nonneg _) (ep xj (ep (Int.natCast_nonneg _) (ep lb (eb Q2 ?_)))))
  by_cases g2 : qM (rd_T26 X (j : Int)).f0 (rd_T26 X (j : Int)).f1 (rd_L2 L (b : Int)) = true
  rotate_left
  ·exact en g2 hn
  refine ep g2 ?_
  obtain ⟨x, hxy, hxz, hxv⟩ := sh_meet (hS i j hj3 hij hji) g1 g2
  obtain ⟨p, hp, hpx⟩ := (mem_rd (rd_L2 L (a : Int)) x).1 hxy
  have v1 := votM_len (rd_T26 X (i : Int)).f0 (rd_T26 X (i : Int)).f1 100
  have v2 := votM_len (rd_T26 X (j : Int)).f0 (rd_T26 X (j : Int)).f1 100
  exact q6 X L o n c i a b j om om om om om om _ _ (svot_ev (hC i hi)) (svot_ev (hC j hj3)) om om _ _ rfl rfl om om (by rw [hj]; exact hn) (rd_L2 L (a : Int)).length 0 false om (.inr ⟨p, Nat.zero_le _, hp, by rw [hpx]; exact hxz, .inl (by rw [hpx]; exact hxv)⟩)
theorem q4 (X : List S26) (L : List (List Int)) (o n c : List Int) (hX : X.length = 3) (hL : L.length = 4) (hC : ∀ i : Nat, i < 3 → ConfS (rd_T26 X i)) (hLl : ∀ a : Nat, a < 4 → (rd_L2 L a).length ≤ 12) (hS : ∀ i j : Nat, j < 3 → i ≤ j → j ≤ i + 1 → Sh (rd_T26 X i) (rd_T26 X j)) (i a : Nat) (hi : i < 3) (ha : a < 4) (hN : Ev (fun k => laws_FnQuorums.l3 k X L i (wrap64 ((a : Int) + 1)) o n c) true) (d : Nat) : ∀ b : Nat, 4 = b + d → Ev (fun k => laws_FnQuorums.l4 k X L i a b o n c) true := by
 induction d with
 | zero =>
  intro b hd
  refine Ev.step (fun k => by rw [laws_FnQuorums.l4]) ?_
  exact en om hN
 | succ d ih =>
  intro b hd
  refine Ev.step (fun k => by rw [laws_FnQuorums.l4]) ?_
  have hb := wsucc (j := b) (n := 4) om om
  exact ep om (q5 X L o n c hX hL hC hLl hS i a b hi ha om (by rw [hb]; exact ih (b + 1) om) (3 - i) i om (Nat.le_refl _))
theorem q3 (X : List S26) (L : List (List Int)) (o n c : List Int) (hX : X.length = 3) (hL : L.length = 4) (hC : ∀ i : Nat, i < 3 → ConfS (rd_T26 X i)) (hLl : ∀ a : Nat, a < 4 → (rd_L2 L a).length ≤ 12) (hS : ∀ i j : Nat, j < 3 → i ≤ j → j ≤ i + 1 → Sh (rd_T26 X i) (rd_T26 X j)) (i : Nat) (hi : i < 3) (hN : Ev (fun k => laws_FnQuorums.l2 k X L (wrap64 ((i : Int) + 1)) o n c) true) (d : Nat) : ∀ a : Nat, 4 = a + d → Ev (fun k => laws_FnQuorums.l3 k X L i a o n c) true := by
 induction d with
 | zero =>
  intro a hd
  refine Ev.step (fun k => by rw [laws_FnQuorums.l3]) ?_
  exact en om hN
 | succ d ih =>
  intro a hd
  refine Ev.step (fun k => by rw [laws_FnQuorums.l3]) ?_
  have h1 := wsucc (j := a) (n := 4) om om
  exact ep om (q4 X L o n c hX hL hC hLl hS i a hi om (by rw [h1]; exact ih (a + 1) om) 4 0 om)
theorem q2 (X : List S26) (L : List (List Int)) (o n c : List Int) (hX : X.length = 3) (hL : L.length = 4) (hC : ∀ i : Nat, i < 3 → ConfS (rd_T26 X i)) (hLl : ∀ a : Nat, a < 4 → (rd_L2 L a).length ≤ 12) (hS : ∀ i j : Nat, j < 3 → i ≤ j → j ≤ i + 1 → Sh (rd_T26 X i) (rd_T26 X j)) (hE : ConfP o n c) (d : Nat) : ∀ i : Nat, 3 = i + d → Ev (fun k => laws_FnQuorums.l2 k X L i o n c) true := by
 induction d with
 | zero =>
  intro i hd
  have hvq : qM o n (votM o n 100) = true := by
   refine qM_all (fun z hz => ?_) (fun z hz => ?_) hE.2.1
   ·have := ids_range hE.1 hz
    exact (votM_mem o n 100 z).2 ⟨by omega, by omega, .inl hz⟩
   ·have := ids_range hE.2.2.1 hz
    exact (votM_mem o n 100 z).2 ⟨by omega, by omega, .inr hz⟩
  have lv := votM_len o n 100
  have l3 : (rd_L2 L 3).length ≤ 12 := hLl 3 om
  refine Ev.step (fun k => by rw [laws_FnQuorums.l2]) ?_
  refine en om (eb (votersI_ev o n c hE) (eb (QuorumI_ev o n c _ hE om) (ep hvq (eb (QuorumI_ev o n c [] hE (by simp)) (en (by rw [qM_nil]; simp) (ep (by rw [hL]; omega) (eb (QuorumI_ev o n c (rd_L2 L 3) hE om) (eb (QuorumS_ev o n c (rd_L2 L 3) hE om) ?_))))))))
  simp only [beq_self_eq_true]
  exact Ev.now _
 | succ d ih =>
  intro i hd
  refine Ev.step (fun k => by rw [laws_FnQuorums.l2]) ?_
  have h1 := wsucc (j := i) (n := 3) om om
  exact ep om (q3 X L o n c hX hL hC hLl hS i om (by rw [h1]; exact ih (i + 1) om) 4 0 om)
theorem q1 (l : List Int) (hl : l.length ≤ 1048576) (hw : ∀ x ∈ l, (Lit.int .u8 x).wf = true) (X : List S26) (L : List (List Int)) (o n c : List Int) (i : Nat) (hi : i < 4) (hL : L.length ≤ 4) (hN : ∀ ids : List Int, ids.length ≤ 12 → Ev (fun k => laws_FnQuorums.l0 k l X (L ++ [ids]) (wrap64 ((i : Int) + 1)) o n c) true) (d : Nat) : ∀ (m : Nat) (ids : List Int), 12 = m + d → ids.length ≤ m → Ev (fun k => laws_FnQuorums.l1 k l X L i ids m o n c) true := by
 induction d with
 | zero =>
  intro m ids hd hm
  refine Ev.step (fun k => by rw [laws_FnQuorums.l1]) ?_
  exact en om (ep om (hN ids om))
 | succ d ih =>
  intro m ids hd hm
  have h1 := wsucc (j := m) (n := 12) om om
  have e8 : Int.tdiv (m : Int) 8 = ((m / 8 : Nat) : Int) := by rw [Int.tdiv_eq_ediv_of_nonneg om]; omega
  have hix : wrap64 ((wrap64 ((i : Int) * 2)) + (wrap64 (Int.tdiv (m : Int) 8))) = ((i * 2 + m / 8 : Nat) : Int) := by
   rw [e8, w64 (x := (i : Int) * 2) om om, w64 (x := ((m / 8 : Nat) : Int)) om om, w64 om om]
   omega
  obtain ⟨u, hu, u0, u1⟩ := at_ev l hl hw (i * 2 + m / 8) om
  have hz : 0 ≤ IntKind.u64.wrap (Int.tmod (m : Int) 8) := by
   simp only [IntKind.wrap, IntKind.signed, IntKind.bits]
   exact Int.emod_nonneg _ (by decide)
  have ha := ih (m + 1) (ids ++ [(m : Int)]) om (by simp; omega)
  have hb := ih (m + 1) ids om om
  refine Ev.step (fun k => by rw [laws_FnQuorums.l1]) ?_
  rw [hix, h1]
  refine ep om (eb (ec hu) (ep hz ?_))
  by_cases g : (Go.bits .and .i64 (shr .i64 u (IntKind.u64.wrap (Int.tmod (m : Int) 8))) 1) = 1
  ·exact ep g (ep om ha)
  refine en g ?_
  by_cases g3 : (i : Int) = 3
  ·exact ep g3 (ep om ha)
  ·exact en g3 hb
theorem q0 (l : List Int) (hl : l.length ≤ 1048576) (hw : ∀ x ∈ l, (Lit.int .u8 x).wf = true) (X : List S26) (o n c : List Int) (hX : X.length = 3) (hC : ∀ i : Nat, i < 3 → ConfS (rd_T26 X i)) (hS : ∀ i j : Nat, j < 3 → i ≤ j → j ≤ i + 1 → Sh (rd_T26 X i) (rd_T26 X j)) (hE : ConfP o n c) (d : Nat) : ∀ (i : Nat) (L : List (List Int)), 4 = i + d → L.length = i → (∀ A ∈ L, A.length ≤ 12) → Ev (fun k => laws_FnQuorums.l0 k l X L i o n c) true := by
 induction d with
 | zero =>
  intro i L hd hL hA
  refine Ev.step (fun k => by rw [laws_FnQuorums.l0]) ?_
  exact en om (q2 X L o n c hX om hC (fun a ha => hA _ (rdL_mem L a om)) hS hE 3 0 om)
 | succ d ih =>
  intro i L hd hL hA
  refine Ev.step (fun k => by rw [laws_FnQuorums.l0]) ?_
  have h1 := wsucc (j := i) (n := 4) om om
  refine ep om (q1 l hl hw X L o n c i om om (fun ids hi => ?_) 12 0 [] om (by simp))
  rw [h1]
  refine ih (i + 1) (L ++ [ids]) om (by simp; omega) (fun A hm => ?_)
  rcases List.mem_append.1 hm with hm | hm
  ·exact hA A hm
  ·rw [List.mem_singleton] at hm; rw [hm]; exact hi
theorem quor_all (l : List Int) (hl : l.length ≤ 1048576) (hw : ∀ x ∈ l, (Lit.int .u8 x).wf = true) (P Q R : S26) (hP : ConfS P) (hQ : ConfS Q) (hR : ConfS R) (s1 : Sh P Q) (s2 : Sh Q R) : Ev (fun k => laws_FnQuorums.l0 k l [P, Q, R] [] 0 P.f0 P.f1 P.f2) true := by
 refine q0 l hl hw [P, Q, R] P.f0 P.f1 P.f2 rfl (fun i hi => ?_) (fun i j hj h1 h2 => ?_) hP 4 0 [] om rfl (by simp)
 ·match i, hi with
  | 0, _ => exact hP
  | 1, _ => exact hQ
  | 2, _ => exact hR
 ·have : (i = 0 ∧ j = 0) ∨ (i = 0 ∧ j = 1) ∨ (i = 1 ∧ j = 1) ∨ (i = 1 ∧ j = 2) ∨ (i = 2 ∧ j = 2) := by omega
  rcases this with ⟨rfl, rfl⟩ | ⟨rfl, rfl⟩ | ⟨rfl, rfl⟩ | ⟨rfl, rfl⟩ | ⟨rfl, rfl⟩
  ·exact sh_fst hP.1 rfl
  ·exact s1
  ·exact sh_fst hQ.1 rfl
  ·exact s2
  ·exact sh_fst hR.1 rfl
theorem finish_no {a b c : List Int} (h : ConfP a b c) (hb : b.length = 0) : Ev (fun k => impl_Finish.f k a b c) (a, b, c, false) := by
 have la := h.1.2
 have lb := h.2.2.1.2
 have lc := h.2.2.2.1.2
 unfold impl_Finish.f impl_finish.f
 exact eb (eb (ec (copyConf_e a b c om om om)) (eb (confOk_ev h) (ep rfl (ep om nw)))) nw
theorem FnQuorums : Stated := by
 intro l0 ⟨hm, hw⟩
 refine Ev.rounds (?_ : Ev (fun k => laws_FnQuorums.f k l0) true)
 unfold laws_FnQuorums.f laws_big.f
 by_cases hb : (l0.length : Int) > 1048576
 ·exact eb (ec rfl) (ep (decide_eq_true hb) nw)
 have hl : l0.length ≤ 1048576 := by omega
 obtain ⟨a, b, c, w, e, hC, hwI, hw0, hR, hRw⟩ := drawConf_ev l0 hl
 have la := hC.1.2
 have lb := hC.2.2.1.2
 have lc := hC.2.2.2.1.2
 have hok : Ev (fun k => impl_ConfOk.f k a b c) true := by
  unfold impl_ConfOk.f
  exact eb (confOk_ev hC) nw
 refine eb (ec rfl) (en (by simpa using hb) (eb e ?_))
 rcases begin_ev hC hwI hw0 with ⟨b1, b2⟩ | b1
 ·obtain ⟨k1, k2, k3, k4, k5, k6⟩ := id b2
  have hL : ConfP w [] (c.filter (fun x => !decide (x ∈ w))) := ⟨hwI, hw0, ids_nil, k4, fun q => by rw [q] at hw0; simp at hw0, fun x hx => ⟨(k6 x hx).2, by simp⟩⟩
  exact eb b1 (eb (finish_ev b2 hw0) (eb hok (ep rfl (ep rfl (ep rfl (quor_all l0 hl hw ⟨a, b, c⟩ ⟨a, w, c.filter (fun x => !decide (x ∈ w))⟩ ⟨w, [], c.filter (fun x => !decide (x ∈ w))⟩ hC b2 hL (sh_fst hC.1 rfl) (sh_snd hwI hw0 rfl)))))))
 ·have hs := sameC_ev a b c om om om
  by_cases b0 : 0 < b.length
  ·obtain ⟨k1, k2, k3, k4, k5, k6⟩ := id hC
   have hL : ConfP b [] c := ⟨k3, b0, ids_nil, k4, fun q => by rw [q] at b0; simp at b0, fun x hx => ⟨(k6 x hx).2, by simp⟩⟩
   exact eb b1 (eb (finish_ev hC b0) (eb hok (ep rfl (en (by simp) (eb hs (ep rfl (quor_all l0 hl hw ⟨a, b, c⟩ ⟨a, b, c⟩ ⟨b, [], c⟩ hC hC hL (sh_fst hC.1 rfl) (sh_snd k3 b0 rfl))))))))
  ·exact eb b1 (eb (finish_no hC (Nat.eq_zero_of_not_pos b0)) (eb hok (ep rfl (en (by simp) (eb hs (ep rfl (quor_all l0 hl hw ⟨a, b, c⟩ ⟨a, b, c⟩ ⟨a, b, c⟩ hC hC hC (sh_fst hC.1 rfl) (sh_fst hC.1 rfl))))))))

end Go.Proofs.Ytoemdmjdpikfbaa.Pure
