/- The law FnExactPropose answers true at every input. No condition. -/
import Derived.Test.YtkcadcoohmofcaaOpnFnExactPropose
import Derived.Test.YtkcadcoohmofcaaBase
namespace Go.Proofs.Ytkcadcoohmofcaa.Pure
open Go.RowKit Go.Proofs.Ytkcadcoohmofcaa.QFnExactPropose Go.Proofs.Ytkcadcoohmofcaa.OpnFnExactPropose Go.Proofs.Ytkcadcoohmofcaa.Base Go.Proofs.YtkcadcoohmofcaaW.PrintWords Go.Proofs.YtkcadcoohmofcaaW.PrintLast
set_option linter.unusedVariables false
set_option linter.unusedSimpArgs false

theorem in_eq (x a b : Int) : spec_l01In.f x a b = some (decide (a ≤ x ∧ x ≤ b)) := by
  unfold spec_l01In.f
  by_cases h : a ≤ x
  · rw [if_pos h]; congr 1; simp [h]
  · rw [if_neg h, decide_eq_false (fun q => h q.1)]

def conv (e : S112) : S85 := ⟨e.f0, e.f1⟩
theorem szEnt_e (x : Int) (s : ByteArray) (hs : s.size ≤ 9223372036854775807) (a : Int) (h0 : 0 ≤ a) (h1 : a ≤ 1048576) : laws_szEntry.f x s a = some (if (s.size : Int) ≤ a then a - s.size else -1) := by
  unfold laws_szEntry.f
  rw [w64 (x := a - s.size) (by omega) (by omega)]
  by_cases h : (s.size : Int) ≤ a
  · rw [if_neg (by omega), if_pos h]
  · rw [if_pos (by omega), if_neg h]
theorem szEntS_l (l : List S112) (hl : l.length ≤ 1048576) (hw : ∀ x ∈ l, x.f1.size ≤ 9223372036854775807) (d : Nat) : ∀ (i : Nat) (a : Int), l.length = i + d → 0 ≤ a → a ≤ 1048576 → ∃ r, Ev (fun k => laws_szEntryS.l0 k l a i) r ∧ r ≤ 1048576 := by
  induction d with
  | zero =>
    intro i a hd h0 h1
    refine ⟨a, ?_, h1⟩
    refine Ev.step (fun k => by rw [laws_szEntryS.l0]) ?_
    exact ev_neg (by omega) (Ev.now _)
  | succ d ih =>
    intro i a hd h0 h1
    have hx : (rd_T112 l i).f1.size ≤ 9223372036854775807 := by
      unfold rd_T112
      rw [toNat_cast]
      exact hw _ (getD_mem l i _ (by omega))
    have e := szEnt_e (rd_T112 l i).f0 (rd_T112 l i).f1 hx a h0 h1
    by_cases h : ((rd_T112 l i).f1.size : Int) ≤ a
    · rw [if_pos h] at e
      obtain ⟨r, hr, hr1⟩ := ih (i + 1) (a - (rd_T112 l i).f1.size) (by omega) (by omega) (by omega)
      refine ⟨r, ?_, hr1⟩
      refine Ev.step (fun k => by rw [laws_szEntryS.l0]) ?_
      rw [wsucc (n := l.length) (by omega) (by omega)]
      exact ev_pos (by omega) (ev_pos (by omega) (Ev.bind (ev_const e) (ev_neg (by omega) hr)))
    · rw [if_neg h] at e
      refine ⟨-1, ?_, by omega⟩
      refine Ev.step (fun k => by rw [laws_szEntryS.l0]) ?_
      exact ev_pos (by omega) (ev_pos (by omega) (Ev.bind (ev_const e) (ev_pos (by omega) (Ev.now _))))
theorem szEntS_ev (l : List S112) (hl : l.length ≤ 9223372036854775807) (hw : ∀ x ∈ l, x.f1.size ≤ 9223372036854775807) (a : Int) (h0 : 0 ≤ a) (h1 : a ≤ 1048576) : ∃ r, Ev (fun k => laws_szEntryS.f k l a) r ∧ r ≤ 1048576 ∧ (0 ≤ r → l.length ≤ 1048576) := by
  unfold laws_szEntryS.f
  rw [w64 (x := a - l.length) (by omega) (by omega)]
  by_cases h : (l.length : Int) ≤ a
  · obtain ⟨r, hr, hr1⟩ := szEntS_l l (by omega) hw l.length 0 (a - l.length) (by omega) (by omega) (by omega)
    exact ⟨r, ev_neg (by omega) hr, hr1, fun _ => by omega⟩
  · exact ⟨-1, ev_pos (by omega) (Ev.now _), by omega, fun q => by omega⟩
theorem toEntS_l (l : List S112) (hl : l.length ≤ 1048576) (d : Nat) : ∀ (i : Nat) (m : List S85), l.length = i + d → m.length = l.length → m.take i = (l.map conv).take i → Ev (fun k => laws_toEntryS.l0 k l m i) (l.map conv) := by
  induction d with
  | zero =>
    intro i m hd hm ht
    have : m = l.map conv := by
      rw [List.take_of_length_le (by omega), List.take_of_length_le (by simp; omega)] at ht
      exact ht
    subst this
    refine Ev.step (fun k => by rw [laws_toEntryS.l0]) ?_
    exact ev_neg (by omega) (Ev.now _)
  | succ d ih =>
    intro i m hd hm ht
    refine Ev.step (fun k => by rw [laws_toEntryS.l0]) ?_
    refine ev_pos (by omega) (ev_pos (by omega) (Ev.bind (a := ((rd_T112 l i).f0, (rd_T112 l i).f1)) (ev_const rfl) (ev_pos (by omega) ?_)))
    rw [wsucc (n := l.length) (by omega) (by omega), toNat_cast]
    refine ih (i + 1) _ (by omega) (by simpa using hm) ?_
    rw [take_set_succ m i _ (by omega), ht, List.take_succ_eq_append_getElem (show i < (l.map conv).length by simp; omega), List.getElem_map]
    congr 2
    unfold rd_T112
    rw [toNat_cast, getD_lt l i _ (by omega)]
    rfl
theorem toEntS_ev (l : List S112) (hl : l.length ≤ 1048576) : Ev (fun k => laws_toEntryS.f k l) (l.map conv) := by
  unfold laws_toEntryS.f
  refine ev_pos (by omega) (ev_pos (by rw [toNat_cast]; omega) ?_)
  exact toEntS_l l hl l.length 0 _ (by omega) (by simp) (by simp)
theorem eqEntS_l (l : List S85) (hl : l.length ≤ 1048576) (d : Nat) : ∀ (i : Nat), l.length = i + d → Ev (fun k => laws_eqEntryS.l0 k l l i) true := by
  induction d with
  | zero =>
    intro i hd
    refine Ev.step (fun k => by rw [laws_eqEntryS.l0]) ?_
    exact ev_neg (by omega) (Ev.now _)
  | succ d ih =>
    intro i hd
    refine Ev.step (fun k => by rw [laws_eqEntryS.l0]) ?_
    rw [wsucc (n := l.length) (by omega) (by omega)]
    exact ev_pos (by omega) (ev_pos (by omega) (ev_pos (by omega) (Ev.bind (a := true) (ev_const (by unfold laws_eqEntry.f; rw [if_pos rfl, if_pos rfl])) (ev_pos rfl (ih (i + 1) (by omega))))))
theorem eqEntS_ev (l : List S85) (hl : l.length ≤ 1048576) : Ev (fun k => laws_eqEntryS.f k l l) true := by
  unfold laws_eqEntryS.f
  exact ev_pos rfl (eqEntS_l l hl l.length 0 (by omega))
theorem in_t {x a b : Int} (h : a ≤ x ∧ x ≤ b) : Ev (fun _ => spec_l01In.f x a b) true := ev_const (by rw [in_eq, decide_eq_true h])
theorem in_f {x a b : Int} (h : ¬ (a ≤ x ∧ x ≤ b)) : Ev (fun _ => spec_l01In.f x a b) false := ev_const (by rw [in_eq, decide_eq_false h])
theorem rd85 (l : List S85) (i : Nat) (hi : i < l.length) : l.drop i = rd_T85 l i :: l.drop (i + 1) := by
  rw [List.drop_eq_getElem_cons hi]
  unfold rd_T85
  rw [toNat_cast, getD_lt l i _ hi]

theorem eqIntS_l (l : List Int) (hl : l.length ≤ 1048576) (d : Nat) : ∀ (i : Nat), l.length = i + d → Ev (fun k => laws_eqIntS.l0 k l l i) true := by
  induction d with
  | zero =>
    intro i hd
    refine Ev.step (fun k => by rw [laws_eqIntS.l0]) ?_
    exact ev_neg (by omega) (Ev.now _)
  | succ d ih =>
    intro i hd
    refine Ev.step (fun k => by rw [laws_eqIntS.l0]) ?_
    refine ev_pos (by omega) (ev_pos (by omega) (ev_pos (by omega) (ev_pos rfl ?_)))
    rw [wsucc (n := l.length) (by omega) (by omega)]
    exact ih (i + 1) (by omega)
theorem eqIntS_ev (l : List Int) (hl : l.length ≤ 1048576) : Ev (fun k => laws_eqIntS.f k l l) true := by
  unfold laws_eqIntS.f
  exact ev_pos rfl (eqIntS_l l hl l.length 0 (by omega))

theorem set_take_next (l m : List Int) (i : Nat) (hi : i < l.length) (hm : m.length = l.length) (ht : m.take i = l.take i) : (m.set i (rd l (i : Int))).take (i + 1) = l.take (i + 1) := by
  rw [take_set_succ m i _ (by omega), ht, take_succ_getD l i 0 hi]
  unfold rd
  rw [toNat_cast]
theorem toIntS_l (l : List Int) (hl : l.length ≤ 1048576) (d : Nat) : ∀ (i : Nat) (m : List Int), l.length = i + d → m.length = l.length → m.take i = l.take i → Ev (fun k => laws_toIntS.l0 k l m i) l := by
  induction d with
  | zero =>
    intro i m hd hm ht
    have : m = l := by
      rw [List.take_of_length_le (by omega), List.take_of_length_le (by omega)] at ht
      exact ht
    subst this
    refine Ev.step (fun k => by rw [laws_toIntS.l0]) ?_
    exact ev_neg (by omega) (Ev.now _)
  | succ d ih =>
    intro i m hd hm ht
    refine Ev.step (fun k => by rw [laws_toIntS.l0]) ?_
    refine ev_pos (by omega) (ev_pos (by omega) (ev_pos (by omega) ?_))
    rw [wsucc (n := l.length) (by omega) (by omega), toNat_cast]
    exact ih (i + 1) _ (by omega) (by simpa using hm) (set_take_next l m i (by omega) hm ht)
theorem toIntS_ev (l : List Int) (hl : l.length ≤ 1048576) : Ev (fun k => laws_toIntS.f k l) l := by
  unfold laws_toIntS.f
  refine ev_pos (by omega) (ev_pos (by rw [toNat_cast]; omega) ?_)
  refine toIntS_l l hl l.length 0 _ (by omega) (by simp) (by simp)
theorem szIntS_e (l : List Int) (hl : l.length ≤ 9223372036854775807) (a : Int) (h0 : 0 ≤ a) (h1 : a ≤ 1048576) : laws_szIntS.f l a = some (if (l.length : Int) ≤ a then a - l.length else -1) := by
  unfold laws_szIntS.f
  rw [w64 (x := a - l.length) (by omega) (by omega)]
  by_cases h : (l.length : Int) ≤ a
  · rw [if_neg (by omega), if_pos h]
  · rw [if_pos (by omega), if_neg h]

theorem szNode_a (f0 f1 f2 f3 f4 f5 f6 : Int) (l : List S112) (v m : List Int) (hl : l.length ≤ 9223372036854775807) (hw : ∀ x ∈ l, x.f1.size ≤ 9223372036854775807) (hv : v.length ≤ 9223372036854775807) (hm : m.length ≤ 9223372036854775807) (a : Int) (a0 : 0 ≤ a) (a1 : a ≤ 1048576) : ∃ r, Ev (fun k => laws_szNode.f k f0 f1 f2 f3 f4 f5 f6 l v m a) r ∧ r ≤ 1048576 ∧ (¬ r < 0 → l.length ≤ 1048576 ∧ v.length ≤ 1048576 ∧ m.length ≤ 1048576) := by
  obtain ⟨r, h1, h2, h3⟩ := szEntS_ev l hl hw a a0 a1
  unfold laws_szNode.f laws_szRLog.f
  by_cases q1 : r < 0
  · exact ⟨-1, Ev.bind (a := -1) (Ev.bind h1 (ev_pos q1 (Ev.now _))) (ev_pos (by omega) (Ev.now _)), by omega, fun h => absurd (show (-1 : Int) < 0 by omega) h⟩
  have hr : Ev (fun k => (laws_szEntryS.f k l a).bind fun t120 => (if t120 < 0 then (some (-1)) else (some t120))) r := Ev.bind h1 (ev_neg q1 (Ev.now _))
  have e2 := szIntS_e v hv r (by omega) (by omega)
  by_cases q2 : (v.length : Int) ≤ r
  rotate_left
  · rw [if_neg q2] at e2
    exact ⟨-1, Ev.bind hr (ev_neg q1 (Ev.bind (ev_const e2) (ev_pos (by omega) (Ev.now _)))), by omega, fun h => absurd (show (-1 : Int) < 0 by omega) h⟩
  rw [if_pos q2] at e2
  have e3 := szIntS_e m hm (r - v.length) (by omega) (by omega)
  by_cases q3 : (m.length : Int) ≤ r - v.length
  rotate_left
  · rw [if_neg q3] at e3
    exact ⟨-1, Ev.bind hr (ev_neg q1 (Ev.bind (ev_const e2) (ev_neg (by omega) (Ev.bind (ev_const e3) (ev_pos (by omega) (Ev.now _)))))), by omega, fun h => absurd (show (-1 : Int) < 0 by omega) h⟩
  rw [if_pos q3] at e3
  exact ⟨_, Ev.bind hr (ev_neg q1 (Ev.bind (ev_const e2) (ev_neg (by omega) (Ev.bind (ev_const e3) (ev_neg (by omega) (Ev.now _)))))), by omega, fun _ => ⟨h3 (by omega), by omega, by omega⟩⟩
theorem szNode_ev (f0 f1 f2 f3 f4 f5 f6 : Int) (l : List S112) (v m : List Int) (hl : l.length ≤ 9223372036854775807) (hw : ∀ x ∈ l, x.f1.size ≤ 9223372036854775807) (hv : v.length ≤ 9223372036854775807) (hm : m.length ≤ 9223372036854775807) : ∃ r, Ev (fun k => laws_szNode.f k f0 f1 f2 f3 f4 f5 f6 l v m 1048576) r ∧ (¬ r < 0 → l.length ≤ 1048576 ∧ v.length ≤ 1048576 ∧ m.length ≤ 1048576) := by
  obtain ⟨r, h1, _, h2⟩ := szNode_a f0 f1 f2 f3 f4 f5 f6 l v m hl hw hv hm 1048576 (by omega) (by omega)
  exact ⟨r, h1, h2⟩
theorem toNode_ev (f0 f1 f2 f3 f4 f5 f6 : Int) (l : List S112) (v m : List Int) (hl : l.length ≤ 1048576) (hv : v.length ≤ 1048576) (hm : m.length ≤ 1048576) : Ev (fun k => laws_toNode.f k f0 f1 f2 f3 f4 f5 f6 l v m) (f0, f1, f2, f3, f4, f5, f6, l.map conv, v, m) := by
  refine Ev.bind (a := (f5, f6, l.map conv)) (Ev.bind (toEntS_ev l hl) (Ev.now _)) (Ev.bind (toIntS_ev v hv) (Ev.bind (toIntS_ev m hm) (Ev.now _)))
theorem eqNode_ev (f0 f1 f2 f3 f4 f5 f6 : Int) (l : List S85) (v m : List Int) (hl : l.length ≤ 1048576) (hv : v.length ≤ 1048576) (hm : m.length ≤ 1048576) : Ev (fun k => laws_eqNode.f k f0 f1 f2 f3 f4 f5 f6 l v m f0 f1 f2 f3 f4 f5 f6 l v m) true := by
  have h1 : Ev (fun k => laws_eqRLog.f k f5 f6 l f5 f6 l) true := by
    unfold laws_eqRLog.f
    exact ev_pos rfl (ev_pos rfl (Ev.bind (eqEntS_ev l hl) (ev_pos rfl (Ev.now _))))
  unfold laws_eqNode.f
  exact ev_pos rfl (ev_pos rfl (ev_pos rfl (ev_pos rfl (ev_pos rfl (Ev.bind h1 (ev_pos rfl (Ev.bind (eqIntS_ev v hv) (ev_pos rfl (Ev.bind (eqIntS_ev m hm) (ev_pos rfl (Ev.now _)))))))))))

def entB (y : S85) : Bool := decide (y.f0 > 0) && (decide (y.f0 ≤ 1000000) && decide ((y.f1.size : Int) ≤ 40))
theorem entI_e (y : S85) : impl_isEntry.f y.f0 y.f1 = some (entB y) := by
  unfold impl_isEntry.f entB
  by_cases h1 : y.f0 > 0
  · by_cases h2 : y.f0 ≤ 1000000
    · simp [h1, h2]
    · simp [h1, h2]
  · simp [h1]
theorem entS_e (y : S85) : spec_l05Entry.f y.f0 y.f1 = some (entB y) := by
  unfold spec_l05Entry.f entB
  rw [in_eq, Option.bind_some]
  by_cases h1 : y.f0 > 0
  · by_cases h2 : y.f0 ≤ 1000000
    · rw [if_pos (decide_eq_true (by omega))]; simp [h1, h2]
    · rw [if_neg (by rw [decide_eq_false (by omega)]; simp)]; simp [h1, h2]
  · rw [if_neg (by rw [decide_eq_false (by omega)]; simp)]; simp [h1]
def lgB : Int → List S85 → Bool
  | _, [] => true
  | t, x :: xs => entB x && (!decide (x.f0 < t) && lgB x.f0 xs)
def rlB (b t : Int) (l : List S85) : Bool := decide (0 ≤ b ∧ b ≤ 1000000) && (decide (0 ≤ t ∧ t ≤ 1000000) && (decide (b = 0 ↔ t = 0) && (decide (l.length ≤ 60) && lgB t l)))
theorem lgS_l (b t0 : Int) (l : List S85) (hl : l.length ≤ 1048576) (d : Nat) : ∀ (i : Nat) (t : Int), l.length = i + d → Ev (fun k => spec_RLogOk.l0 k t i b t0 l) (lgB t (l.drop i)) := by
  induction d with
  | zero =>
    intro i t hd
    refine Ev.step (fun k => by rw [spec_RLogOk.l0]) ?_
    rw [List.drop_of_length_le (by omega)]
    exact ev_neg (by omega) (Ev.now _)
  | succ d ih =>
    intro i t hd
    refine Ev.step (fun k => by rw [spec_RLogOk.l0]) ?_
    rw [wsucc (n := l.length) (by omega) (by omega), rd85 l i (by omega)]
    unfold lgB
    refine ev_pos (by omega) (ev_pos (by omega) (Ev.bind (ev_const (entS_e _)) ?_))
    cases h1 : entB (rd_T85 l i) with
    | false => exact ev_neg (by simp) (Ev.now _)
    | true =>
      refine ev_pos rfl ?_
      by_cases h2 : (rd_T85 l i).f0 < t
      · rw [decide_eq_true h2]; exact ev_pos h2 (Ev.now _)
      · rw [decide_eq_false h2, Bool.not_false, Bool.true_and, Bool.true_and]
        exact ev_neg h2 (ih (i + 1) _ (by omega))
theorem lgI_l (l : List S85) (hl : l.length ≤ 1048576) (d : Nat) : ∀ (i : Nat) (t : Int), l.length = i + d → Ev (fun k => impl_isRLog.l0 k t l l.length i) (lgB t (l.drop i)) := by
  induction d with
  | zero =>
    intro i t hd
    refine Ev.step (fun k => by rw [impl_isRLog.l0]) ?_
    rw [List.drop_of_length_le (by omega)]
    exact ev_neg (by omega) (Ev.now _)
  | succ d ih =>
    intro i t hd
    refine Ev.step (fun k => by rw [impl_isRLog.l0]) ?_
    rw [wsucc (n := l.length) (by omega) (by omega), rd85 l i (by omega)]
    unfold lgB
    refine ev_pos (by omega) (ev_pos (by omega) (ev_pos (by omega) (Ev.bind (ev_const (entI_e _)) ?_)))
    cases h1 : entB (rd_T85 l i) with
    | false => exact ev_neg (by simp) (Ev.now _)
    | true =>
      refine ev_pos rfl ?_
      by_cases h2 : (rd_T85 l i).f0 < t
      · rw [decide_eq_true h2]; exact ev_pos h2 (Ev.now _)
      · rw [decide_eq_false h2, Bool.not_false, Bool.true_and, Bool.true_and]
        exact ev_neg h2 (ih (i + 1) _ (by omega))
theorem zz_ne (b t : Int) : ((b == 0) != (t == 0)) = !decide (b = 0 ↔ t = 0) := by
  have e1 : (b == 0) = decide (b = 0) := by rw [Bool.eq_iff_iff]; simp
  have e2 : (t == 0) = decide (t = 0) := by rw [Bool.eq_iff_iff]; simp
  rw [e1, e2]
  by_cases h1 : b = 0 <;> by_cases h2 : t = 0 <;> simp [h1, h2]
theorem rlogS_ev (b t : Int) (l : List S85) (hl : l.length ≤ 1048576) : Ev (fun k => spec_RLogOk.f k b t l) (rlB b t l) := by
  have j0 : ∀ x : Bool, x = true → Ev (fun k => spec_RLogOk.j0 k x b t l) false := fun x h => by
    refine Ev.step (fun k => by rw [spec_RLogOk.j0]) ?_
    exact ev_pos h (Ev.now _)
  unfold spec_RLogOk.f rlB
  by_cases h1 : 0 ≤ b ∧ b ≤ 1000000
  rotate_left
  · rw [decide_eq_false h1]; exact Ev.bind (in_f h1) (ev_neg (by simp) (j0 _ rfl))
  rw [decide_eq_true h1, Bool.true_and]
  by_cases h2 : 0 ≤ t ∧ t ≤ 1000000
  rotate_left
  · rw [decide_eq_false h2]; exact Ev.bind (in_t h1) (ev_pos rfl (Ev.bind (in_f h2) (ev_neg (by simp) (j0 _ rfl))))
  rw [decide_eq_true h2, Bool.true_and]
  by_cases h3 : b = 0 ↔ t = 0
  rotate_left
  · rw [decide_eq_false h3]; exact Ev.bind (in_t h1) (ev_pos rfl (Ev.bind (in_t h2) (ev_pos rfl (ev_pos (by rw [zz_ne, decide_eq_false h3]; rfl) (j0 _ rfl)))))
  rw [decide_eq_true h3, Bool.true_and]
  refine Ev.bind (in_t h1) (ev_pos rfl (Ev.bind (in_t h2) (ev_pos rfl (ev_neg (by rw [zz_ne, decide_eq_true h3]; simp) ?_))))
  by_cases h4 : l.length ≤ 60
  rotate_left
  · rw [decide_eq_false h4, decide_eq_true (show (l.length : Int) > 60 by omega)]; exact j0 _ rfl
  rw [decide_eq_true h4, Bool.true_and, decide_eq_false (show ¬ (l.length : Int) > 60 by omega)]
  refine Ev.step (fun k => by rw [spec_RLogOk.j0]) ?_
  exact ev_neg (by simp) (lgS_l b t l hl l.length 0 t (by omega))
theorem rlogI_ev (b t : Int) (l : List S85) (hl : l.length ≤ 1048576) : Ev (fun k => impl_isRLog.f k b t l) (rlB b t l) := by
  have j0 : ∀ x : Bool, x = true → Ev (fun k => impl_isRLog.j0 k x b t l) false := fun x h => by
    refine Ev.step (fun k => by rw [impl_isRLog.j0]) ?_
    exact ev_pos h (Ev.now _)
  unfold impl_isRLog.f rlB
  by_cases g1 : b < 0
  · rw [decide_eq_false (show ¬ (0 ≤ b ∧ b ≤ 1000000) by omega)]; exact ev_pos g1 (j0 _ rfl)
  by_cases g2 : b > 1000000
  · rw [decide_eq_false (show ¬ (0 ≤ b ∧ b ≤ 1000000) by omega)]; exact ev_neg g1 (ev_pos g2 (j0 _ rfl))
  rw [decide_eq_true (show 0 ≤ b ∧ b ≤ 1000000 by omega), Bool.true_and]
  by_cases g3 : t < 0
  · rw [decide_eq_false (show ¬ (0 ≤ t ∧ t ≤ 1000000) by omega)]; exact ev_neg g1 (ev_neg g2 (ev_pos g3 (j0 _ rfl)))
  by_cases g4 : t > 1000000
  · rw [decide_eq_false (show ¬ (0 ≤ t ∧ t ≤ 1000000) by omega)]; exact ev_neg g1 (ev_neg g2 (ev_neg g3 (ev_pos g4 (j0 _ rfl))))
  rw [decide_eq_true (show 0 ≤ t ∧ t ≤ 1000000 by omega), Bool.true_and]
  refine ev_neg g1 (ev_neg g2 (ev_neg g3 (ev_neg g4 ?_)))
  by_cases h3 : b = 0 ↔ t = 0
  rotate_left
  · rw [decide_eq_false h3]; exact ev_pos (by rw [zz_ne, decide_eq_false (fun q => h3 q.symm)]; rfl) (j0 _ rfl)
  rw [decide_eq_true h3, Bool.true_and]
  refine ev_neg (by rw [zz_ne, decide_eq_true h3.symm]; simp) ?_
  by_cases h4 : l.length ≤ 60
  rotate_left
  · rw [decide_eq_false h4, decide_eq_true (show (l.length : Int) > 60 by omega)]; exact j0 _ rfl
  rw [decide_eq_true h4, Bool.true_and, decide_eq_false (show ¬ (l.length : Int) > 60 by omega)]
  refine Ev.step (fun k => by rw [impl_isRLog.j0]) ?_
  exact ev_neg (by simp) (lgI_l l hl l.length 0 t (by omega))
theorem rl_facts {b t : Int} {l : List S85} (h : rlB b t l = true) : (0 ≤ b ∧ b ≤ 1000000) ∧ (0 ≤ t ∧ t ≤ 1000000) ∧ (b = 0 ↔ t = 0) ∧ l.length ≤ 60 ∧ lgB t l = true := by
  unfold rlB at h
  simp only [Bool.and_eq_true, decide_eq_true_iff] at h
  exact h
/-- The term at an index that a right log has. -/
def termM (b t : Int) (l : List S85) (i : Int) : Int := if i = b then t else (rd_T85 l (i - b - 1)).f0
theorem termI_e {b t : Int} {l : List S85} (h : rlB b t l = true) {i : Int} (h0 : b ≤ i) (h1 : i ≤ b + l.length) : impl_RLog_term.f b t l i = some (termM b t l i) := by
  obtain ⟨k1, k2, k3, k4, _⟩ := rl_facts h
  unfold impl_RLog_term.f termM
  by_cases e : i = b
  · rw [if_pos e, if_pos e]
  · rw [if_neg e, if_neg e, w64 (x := i - b) (by omega) (by omega), w64 (x := i - b - 1) (by omega) (by omega), if_pos (by omega), if_pos (by omega)]
theorem termS_ev {b t : Int} {l : List S85} (h : rlB b t l = true) {i : Int} (h0 : b ≤ i) (h1 : i ≤ b + l.length) : Ev (fun k => spec_TermAt.f k b t l i) (termM b t l i) := by
  obtain ⟨k1, k2, k3, k4, _⟩ := rl_facts h
  have hr := rlogS_ev b t l (by omega)
  rw [h] at hr
  unfold spec_TermAt.f termM
  rw [w64 (x := b + l.length) (by omega) (by omega)]
  refine Ev.bind hr (ev_pos rfl (Ev.bind (in_t ⟨h0, h1⟩) ?_))
  refine Ev.step (fun k => by rw [spec_TermAt.j0]) ?_
  refine ev_neg (by simp) ?_
  by_cases e : i = b
  · rw [show (if i = b then t else (rd_T85 l (i - b - 1)).f0) = t from if_pos e]
    exact ev_pos e (Ev.now _)
  · rw [show (if i = b then t else (rd_T85 l (i - b - 1)).f0) = (rd_T85 l (i - b - 1)).f0 from if_neg e, w64 (x := i - b) (by omega) (by omega), w64 (x := i - b - 1) (by omega) (by omega)]
    exact ev_neg e (ev_pos (by omega) (ev_pos (by omega) (Ev.now _)))
theorem lastS_ev (b t : Int) (l : List S85) (hl : l.length ≤ 1048576) : Ev (fun k => spec_LastIndex.f k b t l) (if rlB b t l = true then b + l.length else -1) := by
  have hr := rlogS_ev b t l hl
  unfold spec_LastIndex.f
  by_cases h : rlB b t l = true
  · obtain ⟨k1, k2, k3, k4, _⟩ := rl_facts h
    rw [show (if rlB b t l = true then b + (l.length : Int) else -1) = b + l.length from if_pos h, w64 (x := b + l.length) (by omega) (by omega)]
    exact Ev.bind hr (ev_pos h (Ev.now _))
  · rw [if_neg h]
    exact Ev.bind hr (ev_neg h (Ev.now _))

def IdsP (l : List Int) : Prop := (∀ j : Nat, j < l.length → 0 ≤ rd l j ∧ rd l j ≤ 99 ∧ (0 < j → rd l (j - 1 : Nat) < rd l j)) ∧ l.length ≤ 7
theorem ids_l (l : List Int) (hl : l.length ≤ 1048576) (d : Nat) : ∀ i : Nat, l.length = i + d → ∃ b, Ev (fun k => impl_areIds.l0 k l l (l.length : Int) i) b ∧ Ev (fun k => spec_l06Ids.l0 k l i) b ∧ (b = true ↔ (∀ j : Nat, i ≤ j → j < l.length → 0 ≤ rd l j ∧ rd l j ≤ 99 ∧ (0 < j → rd l (j - 1 : Nat) < rd l j)) ∧ l.length ≤ 7) := by
  induction d with
  | zero =>
    intro i hd
    refine ⟨decide ((l.length : Int) ≤ 7), ?_, ?_, ?_⟩
    · refine Ev.step (fun k => by rw [impl_areIds.l0]) ?_
      exact ev_neg (by omega) (Ev.now _)
    · refine Ev.step (fun k => by rw [spec_l06Ids.l0]) ?_
      exact ev_neg (by omega) (Ev.now _)
    · rw [decide_eq_true_iff]
      exact ⟨fun h => ⟨fun j h1 h2 => by omega, by omega⟩, fun h => by have := h.2; omega⟩
  | succ d ih =>
    intro i hd
    have hi := wsucc (j := i) (n := l.length) (by omega) (by omega)
    obtain ⟨b, hb1, hb2, hb⟩ := ih (i + 1) (by omega)
    have bad : (¬ (0 ≤ rd l i ∧ rd l i ≤ 99 ∧ (0 < i → rd l (i - 1 : Nat) < rd l i))) → (false = true ↔ (∀ j : Nat, i ≤ j → j < l.length → 0 ≤ rd l j ∧ rd l j ≤ 99 ∧ (0 < j → rd l (j - 1 : Nat) < rd l j)) ∧ l.length ≤ 7) := fun h => ⟨fun q => (by cases q), fun q => absurd (q.1 i (Nat.le_refl i) (by omega)) h⟩
    have good : (0 ≤ rd l i ∧ rd l i ≤ 99 ∧ (0 < i → rd l (i - 1 : Nat) < rd l i)) → (b = true ↔ (∀ j : Nat, i ≤ j → j < l.length → 0 ≤ rd l j ∧ rd l j ≤ 99 ∧ (0 < j → rd l (j - 1 : Nat) < rd l j)) ∧ l.length ≤ 7) := fun h => by
      rw [hb]
      refine ⟨fun q => ⟨fun j h1 h2 => ?_, q.2⟩, fun q => ⟨fun j h1 h2 => q.1 j (by omega) h2, q.2⟩⟩
      rcases Nat.eq_or_lt_of_le h1 with e | e
      · subst e; exact h
      · exact q.1 j e h2
    by_cases h1 : rd l i < 0
    · refine ⟨false, ?_, ?_, bad (by omega)⟩
      · refine Ev.step (fun k => by rw [impl_areIds.l0]) ?_
        exact ev_pos (by omega) (ev_pos (by omega) (ev_pos (by omega) (ev_pos h1 (Ev.now _))))
      · refine Ev.step (fun k => by rw [spec_l06Ids.l0]) ?_
        exact ev_pos (by omega) (ev_pos (by omega) (Ev.bind (ev_const (in_eq _ _ _)) (ev_neg (by simp; omega) (Ev.now _))))
    by_cases h2 : rd l i > 99
    · refine ⟨false, ?_, ?_, bad (by omega)⟩
      · refine Ev.step (fun k => by rw [impl_areIds.l0]) ?_
        exact ev_pos (by omega) (ev_pos (by omega) (ev_pos (by omega) (ev_neg h1 (ev_pos h2 (Ev.now _)))))
      · refine Ev.step (fun k => by rw [spec_l06Ids.l0]) ?_
        exact ev_pos (by omega) (ev_pos (by omega) (Ev.bind (ev_const (in_eq _ _ _)) (ev_neg (by simp; omega) (Ev.now _))))
    have hin : decide (0 ≤ rd l i ∧ rd l i ≤ 99) = true := decide_eq_true ⟨by omega, by omega⟩
    by_cases h0 : i = 0
    · subst h0
      refine ⟨b, ?_, ?_, good ⟨by omega, by omega, fun h => by omega⟩⟩
      · refine Ev.step (fun k => by rw [impl_areIds.l0]) ?_
        refine ev_pos (by omega) (ev_pos (by omega) (ev_pos (by omega) (ev_neg h1 (ev_neg h2 (ev_neg (by omega) ?_)))))
        rw [hi]; exact hb1
      · refine Ev.step (fun k => by rw [spec_l06Ids.l0]) ?_
        refine ev_pos (by omega) (ev_pos (by omega) (Ev.bind (ev_const (in_eq _ _ _)) (ev_pos hin (ev_neg (by omega) ?_))))
        rw [hi]; exact hb2
    have hp := wpred (j := i) (by omega) (by omega)
    by_cases h3 : rd l (i - 1 : Nat) ≥ rd l i
    · refine ⟨false, ?_, ?_, bad (fun q => by have := q.2.2 (by omega); omega)⟩
      · refine Ev.step (fun k => by rw [impl_areIds.l0]) ?_
        refine ev_pos (by omega) (ev_pos (by omega) (ev_pos (by omega) (ev_neg h1 (ev_neg h2 (ev_pos (by omega) ?_)))))
        rw [hp]
        exact ev_pos (by omega) (ev_pos (by omega) (ev_pos h3 (Ev.now _)))
      · refine Ev.step (fun k => by rw [spec_l06Ids.l0]) ?_
        refine ev_pos (by omega) (ev_pos (by omega) (Ev.bind (ev_const (in_eq _ _ _)) (ev_pos hin (ev_pos (by omega) ?_))))
        rw [hp]
        exact ev_pos (by omega) (ev_pos (by omega) (ev_pos h3 (Ev.now _)))
    · refine ⟨b, ?_, ?_, good ⟨by omega, by omega, fun _ => by omega⟩⟩
      · refine Ev.step (fun k => by rw [impl_areIds.l0]) ?_
        refine ev_pos (by omega) (ev_pos (by omega) (ev_pos (by omega) (ev_neg h1 (ev_neg h2 (ev_pos (by omega) ?_)))))
        rw [hp, hi]
        exact ev_pos (by omega) (ev_pos (by omega) (ev_neg h3 hb1))
      · refine Ev.step (fun k => by rw [spec_l06Ids.l0]) ?_
        refine ev_pos (by omega) (ev_pos (by omega) (Ev.bind (ev_const (in_eq _ _ _)) (ev_pos hin (ev_pos (by omega) ?_))))
        rw [hp, hi]
        exact ev_pos (by omega) (ev_pos (by omega) (ev_neg h3 hb2))
theorem ids_ev (l : List Int) (hl : l.length ≤ 1048576) : ∃ b, Ev (fun k => impl_areIds.f k l) b ∧ Ev (fun k => spec_l06Ids.f k l) b ∧ (b = true ↔ IdsP l) := by
  obtain ⟨b, h1, h2, h3⟩ := ids_l l hl l.length 0 (by omega)
  exact ⟨b, h1, h2, h3.trans ⟨fun h => ⟨fun j hj => h.1 j (by omega) hj, h.2⟩, fun h => ⟨fun j _ hj => h.1 j hj, h.2⟩⟩⟩
theorem has_l (l : List Int) (hl : l.length ≤ 1048576) (x : Int) (d : Nat) : ∀ i : Nat, l.length = i + d → ∃ b, Ev (fun k => spec_l01Has.l0 k l x i) b ∧ (b = true ↔ ∃ j : Nat, i ≤ j ∧ j < l.length ∧ rd l j = x) := by
  induction d with
  | zero =>
    intro i hd
    refine ⟨false, ?_, ⟨fun q => (by cases q), fun ⟨j, h1, h2, _⟩ => by omega⟩⟩
    refine Ev.step (fun k => by rw [spec_l01Has.l0]) ?_
    exact ev_neg (by omega) (Ev.now _)
  | succ d ih =>
    intro i hd
    have hi := wsucc (j := i) (n := l.length) (by omega) (by omega)
    by_cases h : rd l i = x
    · refine ⟨true, ?_, ⟨fun _ => ⟨i, Nat.le_refl i, by omega, h⟩, fun _ => rfl⟩⟩
      refine Ev.step (fun k => by rw [spec_l01Has.l0]) ?_
      exact ev_pos (by omega) (ev_pos (by omega) (ev_pos h (Ev.now _)))
    · obtain ⟨b, hb, h2⟩ := ih (i + 1) (by omega)
      refine ⟨b, ?_, h2.trans ⟨fun ⟨j, h3, h4, h5⟩ => ⟨j, by omega, h4, h5⟩, fun ⟨j, h3, h4, h5⟩ => ⟨j, ?_, h4, h5⟩⟩⟩
      · refine Ev.step (fun k => by rw [spec_l01Has.l0]) ?_
        rw [hi]
        exact ev_pos (by omega) (ev_pos (by omega) (ev_neg h hb))
      · rcases Nat.eq_or_lt_of_le h3 with e | e
        · subst e; exact absurd h5 h
        · exact e
theorem mem_rd (l : List Int) (x : Int) : x ∈ l ↔ ∃ j : Nat, j < l.length ∧ rd l j = x := by
  constructor
  · intro h
    obtain ⟨j, hj, e⟩ := List.mem_iff_getElem.1 h
    refine ⟨j, hj, ?_⟩
    unfold rd
    rw [toNat_cast, getD_lt l j 0 hj]; exact e
  · rintro ⟨j, hj, rfl⟩
    unfold rd
    rw [toNat_cast]
    exact getD_mem l j 0 hj
theorem has_ev (l : List Int) (hl : l.length ≤ 1048576) (x : Int) : Ev (fun k => spec_l01Has.f k l x) (decide (x ∈ l)) := by
  obtain ⟨b, h1, h2⟩ := has_l l hl x l.length 0 (by omega)
  have : b = decide (x ∈ l) := by
    rw [Bool.eq_iff_iff, h2, decide_eq_true_iff, mem_rd]
    exact ⟨fun ⟨j, _, h3, h4⟩ => ⟨j, h3, h4⟩, fun ⟨j, h3, h4⟩ => ⟨j, by omega, h3, h4⟩⟩
  rw [← this]; exact h1

theorem index_l (l : List Int) (hl : l.length ≤ 1048576) (a : Int) (d : Nat) : ∀ i : Nat, l.length = i + d → (∀ j : Nat, j < i → rd l j ≠ a) → ∃ r, Ev (fun k => slices_Index_int_int.l0 k l a (l.length : Int) i) r ∧ decide (r ≥ 0) = decide (a ∈ l) := by
  induction d with
  | zero =>
    intro i hd hb
    refine ⟨-1, ?_, ?_⟩
    · refine Ev.step (fun k => by rw [slices_Index_int_int.l0]) ?_
      exact ev_neg (by omega) (Ev.now _)
    · rw [decide_eq_false (by omega), decide_eq_false]
      intro h
      obtain ⟨j, hj, e⟩ := (mem_rd l a).1 h
      exact hb j (by omega) e
  | succ d ih =>
    intro i hd hb
    have hi := wsucc (j := i) (n := l.length) (by omega) (by omega)
    by_cases h : a = rd l i
    · refine ⟨i, ?_, ?_⟩
      · refine Ev.step (fun k => by rw [slices_Index_int_int.l0]) ?_
        exact ev_pos (by omega) (ev_pos (by omega) (ev_pos (by omega) (ev_pos h (Ev.now _))))
      · rw [decide_eq_true (by omega), decide_eq_true ((mem_rd l a).2 ⟨i, by omega, h.symm⟩)]
    · obtain ⟨r, h1, h2⟩ := ih (i + 1) (by omega) (fun j hj => by
        by_cases e : j = i
        · subst e; exact fun z => h z.symm
        · exact hb j (by omega))
      refine ⟨r, ?_, h2⟩
      refine Ev.step (fun k => by rw [slices_Index_int_int.l0]) ?_
      rw [hi]
      exact ev_pos (by omega) (ev_pos (by omega) (ev_pos (by omega) (ev_neg h h1)))
theorem contains_ev (l : List Int) (hl : l.length ≤ 1048576) (a : Int) : Ev (fun k => slices_Contains_int_int.f k l a) (decide (a ∈ l)) := by
  obtain ⟨r, h1, h2⟩ := index_l l hl a l.length 0 (by omega) (fun j h => by omega)
  unfold slices_Contains_int_int.f slices_Index_int_int.f
  rw [← h2]
  exact Ev.bind h1 (Ev.now _)

def Asc (l : List Int) : Prop := ∀ i j : Nat, i < j → j < l.length → rd l i < rd l j
theorem asc_of {l : List Int} (h : IdsP l) : Asc l := by
  intro i j
  induction j with
  | zero => intro h1; omega
  | succ j ih =>
    intro hij hj
    have := (h.1 (j + 1) hj).2.2 (by omega)
    rw [Nat.add_sub_cancel] at this
    by_cases e : i = j
    · subst e; exact this
    · have := ih (by omega) (by omega); omega
theorem asc_pw {l : List Int} (h : Asc l) : l.Pairwise (· < ·) := by
  rw [List.pairwise_iff_getElem]
  intro i j hi hj hij
  have := h i j hij hj
  unfold rd at this
  rwa [toNat_cast, toNat_cast, getD_lt l i 0 hi, getD_lt l j 0 hj] at this

theorem max_asc (l : List Int) (h : Asc l) : ∀ k : Nat, k < l.length → Lib.maxOf (l.take (k + 1)) = rd l k := by
  intro k
  induction k with
  | zero =>
    intro _
    rw [Lib.maxOf_one]; rfl
  | succ k ih =>
    intro hk
    rw [Lib.maxOf_step l (k + 1) (by omega) hk, ih (by omega), show l.getD (k + 1) 0 = rd l ((k + 1 : Nat) : Int) by unfold rd; rw [toNat_cast]]
    have := h k (k + 1) (by omega) hk
    omega
theorem max_last (l : List Int) (h : Asc l) (h0 : 0 < l.length) : Lib.maxOf l = rd l (l.length - 1 : Nat) := by
  have := max_asc l h (l.length - 1) (by omega)
  rwa [show l.length - 1 + 1 = l.length by omega, List.take_of_length_le (Nat.le_refl _)] at this
theorem max_le (l : List Int) (m : Int) : ∀ k : Nat, k < l.length → (Lib.maxOf (l.take (k + 1)) ≤ m ↔ ∀ j : Nat, j ≤ k → rd l j ≤ m) := by
  intro k
  induction k with
  | zero =>
    intro _
    rw [Lib.maxOf_one, show l.getD 0 0 = rd l ((0 : Nat) : Int) from rfl]
    exact ⟨fun h j hj => (by obtain rfl : j = 0 := (by omega); exact h), fun h => h 0 (Nat.le_refl _)⟩
  | succ k ih =>
    intro hk
    rw [Lib.maxOf_step l (k + 1) (by omega) hk, show l.getD (k + 1) 0 = rd l ((k + 1 : Nat) : Int) by unfold rd; rw [toNat_cast]]
    have h2 := ih (by omega)
    constructor
    · intro h j hj
      by_cases e : j = k + 1
      · subst e; omega
      · exact (h2.1 (by omega)) j (by omega)
    · intro h
      have a := h2.2 (fun j hj => h j (by omega))
      have b := h (k + 1) (Nat.le_refl _)
      omega
theorem min_ge (l : List Int) (m : Int) : ∀ k : Nat, k < l.length → (Lib.minOf (l.take (k + 1)) ≥ m ↔ ∀ j : Nat, j ≤ k → rd l j ≥ m) := by
  intro k
  induction k with
  | zero =>
    intro _
    rw [Lib.minOf_one, show l.getD 0 0 = rd l ((0 : Nat) : Int) from rfl]
    exact ⟨fun h j hj => (by obtain rfl : j = 0 := (by omega); exact h), fun h => h 0 (Nat.le_refl _)⟩
  | succ k ih =>
    intro hk
    rw [Lib.minOf_step l (k + 1) (by omega) hk, show l.getD (k + 1) 0 = rd l ((k + 1 : Nat) : Int) by unfold rd; rw [toNat_cast]]
    have h2 := ih (by omega)
    constructor
    · intro h j hj
      by_cases e : j = k + 1
      · subst e; omega
      · exact (h2.1 (by omega)) j (by omega)
    · intro h
      have a := h2.2 (fun j hj => h j (by omega))
      have b := h (k + 1) (Nat.le_refl _)
      omega
theorem max_all (l : List Int) (m : Int) (h0 : 0 < l.length) : Lib.maxOf l ≤ m ↔ ∀ j : Nat, j < l.length → rd l j ≤ m := by
  have := max_le l m (l.length - 1) (by omega)
  rw [show l.length - 1 + 1 = l.length by omega, List.take_of_length_le (Nat.le_refl _)] at this
  exact this.trans ⟨fun h j hj => h j (by omega), fun h j hj => h j (by omega)⟩
theorem min_all (l : List Int) (m : Int) (h0 : 0 < l.length) : Lib.minOf l ≥ m ↔ ∀ j : Nat, j < l.length → rd l j ≥ m := by
  have := min_ge l m (l.length - 1) (by omega)
  rw [show l.length - 1 + 1 = l.length by omega, List.take_of_length_le (Nat.le_refl _)] at this
  exact this.trans ⟨fun h j hj => h j (by omega), fun h j hj => h j (by omega)⟩
/-- What a right node is. -/
structure NodeP (n f0 f1 f2 f3 f4 f5 f6 : Int) (l : List S85) (v m : List Int) : Prop where
  size : 1 ≤ n ∧ n ≤ 5
  id : 0 ≤ f0 ∧ f0 < n
  term : 0 ≤ f1 ∧ f1 ≤ 1000000
  vote : -1 ≤ f2 ∧ f2 < n
  role : 0 ≤ f3 ∧ f3 ≤ 2
  log : rlB f5 f6 l = true
  base : f5 = 0
  last : termM f5 f6 l l.length ≤ f1
  commit : 0 ≤ f4 ∧ f4 ≤ l.length
  asked : f3 ≠ 0 → f2 = f0 ∧ f1 ≠ 0
  votes : f3 = 1 → IdsP v ∧ f0 ∈ v ∧ ∀ x ∈ v, x < n
  novotes : f3 ≠ 1 → v = []
  nomatch_ : f3 ≠ 2 → m = []
  match_ : f3 = 2 → (m.length : Int) = n ∧ rd m f0 = l.length ∧ ∀ j : Nat, j < m.length → 0 ≤ rd m j ∧ rd m j ≤ l.length
theorem matchS_l (n last f0 f1 f2 f3 f4 f5 f6 : Int) (l : List S85) (v m : List Int) (hm : m.length ≤ 1048576) (h0 : 0 ≤ f0 ∧ f0 < n) (d : Nat) : ∀ i : Nat, m.length = i + d → ∃ r, Ev (fun k => spec_NodeOk.l0 k n last i f0 f1 f2 f3 f4 f5 f6 l v m) r ∧ (r = true ↔ (∀ j : Nat, i ≤ j → j < m.length → 0 ≤ rd m j ∧ rd m j ≤ last) ∧ (m.length : Int) = n ∧ rd m f0 = last) := by
  induction d with
  | zero =>
    intro i hd
    by_cases h : (m.length : Int) = n
    · refine ⟨(rd m f0 == last), ?_, ?_⟩
      · refine Ev.step (fun k => by rw [spec_NodeOk.l0]) ?_
        exact ev_neg (by omega) (ev_pos h (ev_pos (by omega) (ev_pos (by omega) (Ev.now _))))
      · rw [beq_iff_eq]
        exact ⟨fun q => ⟨fun j h1 h2 => by omega, h, q⟩, fun q => q.2.2⟩
    · refine ⟨false, ?_, ⟨fun q => (by cases q), fun q => absurd q.2.1 h⟩⟩
      refine Ev.step (fun k => by rw [spec_NodeOk.l0]) ?_
      exact ev_neg (by omega) (ev_neg h (Ev.now _))
  | succ d ih =>
    intro i hd
    by_cases h : 0 ≤ rd m i ∧ rd m i ≤ last
    · obtain ⟨r, h1, h2⟩ := ih (i + 1) (by omega)
      refine ⟨r, ?_, h2.trans ⟨fun q => ⟨fun j e1 e2 => ?_, q.2⟩, fun q => ⟨fun j e1 e2 => q.1 j (by omega) e2, q.2⟩⟩⟩
      · refine Ev.step (fun k => by rw [spec_NodeOk.l0]) ?_
        rw [wsucc (n := m.length) (by omega) (by omega)]
        exact ev_pos (by omega) (ev_pos (by omega) (Ev.bind (in_t h) (ev_pos rfl h1)))
      · rcases Nat.eq_or_lt_of_le e1 with e | e
        · subst e; exact h
        · exact q.1 j e e2
    · refine ⟨false, ?_, ⟨fun q => (by cases q), fun q => absurd (q.1 i (Nat.le_refl i) (by omega)) h⟩⟩
      refine Ev.step (fun k => by rw [spec_NodeOk.l0]) ?_
      exact ev_pos (by omega) (ev_pos (by omega) (Ev.bind (in_f h) (ev_neg (by simp) (Ev.now _))))
/-- The last part: what a leader keeps of the others. -/
theorem node_j3 (n f0 f1 f2 f3 f4 f6 : Int) (l : List S85) (v m : List Int) (hl : l.length ≤ 60) (hm : m.length ≤ 1048576) (h0 : 0 ≤ f0 ∧ f0 < n) : ∃ r, Ev (fun k => spec_NodeOk.j3 k n l.length f0 f1 f2 f3 f4 0 f6 l v m) r ∧ Ev (fun k => impl_isNode.j3 k n f0 f1 f2 f3 f4 0 f6 l v m) r ∧ (r = true ↔ (f3 ≠ 2 → m = []) ∧ (f3 = 2 → (m.length : Int) = n ∧ rd m f0 = l.length ∧ ∀ j : Nat, j < m.length → 0 ≤ rd m j ∧ rd m j ≤ l.length)) := by
  by_cases h3 : f3 = 2
  rotate_left
  · refine ⟨((m.length : Int) == 0), ?_, ?_, ?_⟩
    · refine Ev.step (fun k => by rw [spec_NodeOk.j3]) ?_
      exact ev_neg h3 (Ev.now _)
    · refine Ev.step (fun k => by rw [impl_isNode.j3]) ?_
      exact ev_neg h3 (Ev.now _)
    · rw [beq_iff_eq]
      exact ⟨fun q => ⟨fun _ => List.eq_nil_of_length_eq_zero (by omega), fun e => absurd e h3⟩, fun q => by rw [q.1 h3]; rfl⟩
  obtain ⟨r, r1, r2⟩ := matchS_l n l.length f0 f1 f2 f3 f4 0 f6 l v m hm h0 m.length 0 (by omega)
  have hlast : Ev (fun _ => impl_RLog_last.f 0 f6 l) (l.length : Int) := ev_const (by unfold impl_RLog_last.f; rw [w64 (by omega) (by omega)]; congr 1; omega)
  have j4t : ∀ x : Bool, x = true → Ev (fun k => impl_isNode.j4 k x f0 f1 f2 f3 f4 0 f6 l v m) false := fun x hx => by
    refine Ev.step (fun k => by rw [impl_isNode.j4]) ?_
    exact ev_pos hx (Ev.now _)
  have hs : Ev (fun k => spec_NodeOk.j3 k n l.length f0 f1 f2 f3 f4 0 f6 l v m) r := by
    refine Ev.step (fun k => by rw [spec_NodeOk.j3]) ?_
    exact ev_pos h3 r1
  refine ⟨r, hs, ?_, r2.trans ⟨fun q => ⟨fun e => absurd h3 e, fun _ => ⟨q.2.1, q.2.2, fun j hj => q.1 j (by omega) hj⟩⟩, fun q => ⟨fun j _ hj => (q.2 h3).2.2 j hj, (q.2 h3).1, (q.2 h3).2.1⟩⟩⟩
  refine Ev.step (fun k => by rw [impl_isNode.j3]) ?_
  refine ev_pos h3 ?_
  have nf : ∀ {P : Prop}, (r = true ↔ P) → ¬ P → r = false := fun h hp => by
    cases r with
    | false => rfl
    | true => exact absurd (h.1 rfl) hp
  by_cases h4 : (m.length : Int) = n
  rotate_left
  · rw [nf r2 (fun q => h4 q.2.1)]
    exact ev_neg h4 (j4t _ rfl)
  refine ev_pos h4 (ev_pos (by omega) (ev_pos (by omega) (Ev.bind hlast ?_)))
  by_cases h5 : rd m f0 = l.length
  rotate_left
  · rw [nf r2 (fun q => h5 q.2.2)]
    exact j4t _ (by simpa using h5)
  have hm0 : 0 < m.length := by omega
  refine Ev.step (fun k => by rw [impl_isNode.j4]) ?_
  refine ev_neg (by rw [h5]; simp) (Ev.bind (a := Lib.minOf m) (ev_const (by unfold slices_Min_int_int.f; rw [if_pos hm0])) ?_)
  by_cases h6 : Lib.minOf m ≥ 0
  rotate_left
  · rw [nf r2 (fun q => h6 ((min_all m 0 hm0).2 fun j hj => (q.1 j (by omega) hj).1))]
    exact ev_neg h6 (Ev.now _)
  refine ev_pos h6 (Ev.bind (a := Lib.maxOf m) (ev_const (by unfold slices_Max_int_int.f; rw [if_pos hm0])) (Ev.bind hlast ?_))
  by_cases h7 : Lib.maxOf m ≤ l.length
  · have : r = true := r2.2 ⟨fun j _ hj => ⟨(min_all m 0 hm0).1 h6 j hj, (max_all m _ hm0).1 h7 j hj⟩, h4, h5⟩
    rw [this, decide_eq_true h7]; exact Ev.now _
  · rw [nf r2 (fun q => h7 ((max_all m _ hm0).2 fun j hj => (q.1 j (by omega) hj).2)), decide_eq_false h7]
    exact Ev.now _
theorem node_ev (n f0 f1 f2 f3 f4 f5 f6 : Int) (l : List S85) (v m : List Int) (hl : l.length ≤ 1048576) (hv : v.length ≤ 1048576) (hm : m.length ≤ 1048576) : ∃ r, Ev (fun k => spec_NodeOk.f k f0 f1 f2 f3 f4 f5 f6 l v m n) r ∧ Ev (fun k => impl_isNode.f k f0 f1 f2 f3 f4 f5 f6 l v m n) r ∧ (r = true ↔ NodeP n f0 f1 f2 f3 f4 f5 f6 l v m) := by
  have i0 : ∀ x : Bool, x = true → Ev (fun k => impl_isNode.j0 k n x f0 f1 f2 f3 f4 f5 f6 l v m) false := fun x h => by
    refine Ev.step (fun k => by rw [impl_isNode.j0]) ?_
    exact ev_pos h (Ev.now _)
  have i1 : ∀ x : Bool, x = true → Ev (fun k => impl_isNode.j1 k n x f0 f1 f2 f3 f4 f5 f6 l v m) false := fun x h => by
    refine Ev.step (fun k => by rw [impl_isNode.j1]) ?_
    exact ev_pos h (Ev.now _)
  have i2 : ∀ x : Bool, x = true → Ev (fun k => impl_isNode.j2 k n x f0 f1 f2 f3 f4 f5 f6 l v m) false := fun x h => by
    refine Ev.step (fun k => by rw [impl_isNode.j2]) ?_
    exact ev_pos h (Ev.now _)
  have s0 : ∀ x : Bool, x = true → Ev (fun k => spec_NodeOk.j0 k n x f0 f1 f2 f3 f4 f5 f6 l v m) false := fun x h => by
    refine Ev.step (fun k => by rw [spec_NodeOk.j0]) ?_
    exact ev_pos h (Ev.now _)
  have s1 : ∀ (t : Int) (x : Bool), x = true → Ev (fun k => spec_NodeOk.j1 k n t x f0 f1 f2 f3 f4 f5 f6 l v m) false := fun t x h => by
    refine Ev.step (fun k => by rw [spec_NodeOk.j1]) ?_
    exact ev_pos h (Ev.now _)
  have s2 : ∀ (t : Int) (x : Bool), x = true → Ev (fun k => spec_NodeOk.j2 k n t x f0 f1 f2 f3 f4 f5 f6 l v m) false := fun t x h => by
    refine Ev.step (fun k => by rw [spec_NodeOk.j2]) ?_
    exact ev_pos h (Ev.now _)
  have z := i0 true rfl
  have y := s0 true rfl
  have nt : ¬ (false = true) := by simp
  have bad : ∀ {P : Prop}, ¬ P → (false = true ↔ P) := fun h => ⟨fun q => (by cases q), fun q => absurd q h⟩
  have sz_t : (1 ≤ n ∧ n ≤ 5) → Ev (fun _ => spec_l07Size.f n) true := fun h => by unfold spec_l07Size.f; exact Ev.bind (in_t h) (Ev.now _)
  have sz_f : ¬ (1 ≤ n ∧ n ≤ 5) → Ev (fun _ => spec_l07Size.f n) false := fun h => by unfold spec_l07Size.f; exact Ev.bind (in_f h) (Ev.now _)
  unfold spec_NodeOk.f impl_isNode.f
  by_cases h1 : n < 1
  · exact ⟨false, Ev.bind (sz_f (by omega)) (ev_neg nt y), ev_pos h1 z, bad fun q => by have := q.size; omega⟩
  by_cases h2 : n > 5
  · exact ⟨false, Ev.bind (sz_f (by omega)) (ev_neg nt y), ev_neg h1 (ev_pos h2 z), bad fun q => by have := q.size; omega⟩
  have hw : wrap64 (n - 1) = n - 1 := w64 (by omega) (by omega)
  rw [hw]
  by_cases h3 : f0 < 0
  · exact ⟨false, Ev.bind (sz_t (by omega)) (ev_pos rfl (Ev.bind (in_f (by omega)) (ev_neg nt y))), ev_neg h1 (ev_neg h2 (ev_pos h3 z)), bad fun q => by have := q.id; omega⟩
  by_cases h4 : f0 ≥ n
  · exact ⟨false, Ev.bind (sz_t (by omega)) (ev_pos rfl (Ev.bind (in_f (by omega)) (ev_neg nt y))), ev_neg h1 (ev_neg h2 (ev_neg h3 (ev_pos h4 z))), bad fun q => by have := q.id; omega⟩
  by_cases h5 : f1 < 0
  · exact ⟨false, Ev.bind (sz_t (by omega)) (ev_pos rfl (Ev.bind (in_t (by omega)) (ev_pos rfl (Ev.bind (in_f (by omega)) (ev_neg nt y))))), ev_neg h1 (ev_neg h2 (ev_neg h3 (ev_neg h4 (ev_pos h5 z)))), bad fun q => by have := q.term; omega⟩
  by_cases h6 : f1 > 1000000
  · exact ⟨false, Ev.bind (sz_t (by omega)) (ev_pos rfl (Ev.bind (in_t (by omega)) (ev_pos rfl (Ev.bind (in_f (by omega)) (ev_neg nt y))))), ev_neg h1 (ev_neg h2 (ev_neg h3 (ev_neg h4 (ev_neg h5 (ev_pos h6 z))))), bad fun q => by have := q.term; omega⟩
  by_cases h7 : f2 < -1
  · exact ⟨false, Ev.bind (sz_t (by omega)) (ev_pos rfl (Ev.bind (in_t (by omega)) (ev_pos rfl (Ev.bind (in_t (by omega)) (ev_pos rfl (Ev.bind (in_f (by omega)) (ev_neg nt y))))))), ev_neg h1 (ev_neg h2 (ev_neg h3 (ev_neg h4 (ev_neg h5 (ev_neg h6 (ev_pos h7 z)))))), bad fun q => by have := q.vote; omega⟩
  by_cases h8 : f2 ≥ n
  · exact ⟨false, Ev.bind (sz_t (by omega)) (ev_pos rfl (Ev.bind (in_t (by omega)) (ev_pos rfl (Ev.bind (in_t (by omega)) (ev_pos rfl (Ev.bind (in_f (by omega)) (ev_neg nt y))))))), ev_neg h1 (ev_neg h2 (ev_neg h3 (ev_neg h4 (ev_neg h5 (ev_neg h6 (ev_neg h7 (ev_pos h8 z))))))), bad fun q => by have := q.vote; omega⟩
  have pre : ∀ r : Bool, (0 ≤ f3 ∧ f3 ≤ 2) → Ev (fun k => spec_NodeOk.j0 k n false f0 f1 f2 f3 f4 f5 f6 l v m) r → Ev (fun k => impl_isNode.j0 k n false f0 f1 f2 f3 f4 f5 f6 l v m) r → (r = true ↔ NodeP n f0 f1 f2 f3 f4 f5 f6 l v m) → ∃ r, Ev (fun k => (spec_l07Size.f n).bind fun t148 => (if t148 = true then ((spec_l01In.f f0 0 (n - 1)).bind fun t149 => (if t149 = true then ((spec_l01In.f f1 0 1000000).bind fun t150 => (if t150 = true then ((spec_l01In.f f2 (-1) (n - 1)).bind fun t151 => (if t151 = true then ((spec_l01In.f f3 0 2).bind fun t152 => (spec_NodeOk.j0 k n (!t152) f0 f1 f2 f3 f4 f5 f6 l v m)) else (spec_NodeOk.j0 k n true f0 f1 f2 f3 f4 f5 f6 l v m))) else (spec_NodeOk.j0 k n true f0 f1 f2 f3 f4 f5 f6 l v m))) else (spec_NodeOk.j0 k n true f0 f1 f2 f3 f4 f5 f6 l v m))) else (spec_NodeOk.j0 k n true f0 f1 f2 f3 f4 f5 f6 l v m))) r ∧ Ev (fun k => if n < 1 then (impl_isNode.j0 k n true f0 f1 f2 f3 f4 f5 f6 l v m) else (if n > 5 then (impl_isNode.j0 k n true f0 f1 f2 f3 f4 f5 f6 l v m) else (if f0 < 0 then (impl_isNode.j0 k n true f0 f1 f2 f3 f4 f5 f6 l v m) else (if f0 ≥ n then (impl_isNode.j0 k n true f0 f1 f2 f3 f4 f5 f6 l v m) else (if f1 < 0 then (impl_isNode.j0 k n true f0 f1 f2 f3 f4 f5 f6 l v m) else (if f1 > 1000000 then (impl_isNode.j0 k n true f0 f1 f2 f3 f4 f5 f6 l v m) else (if f2 < (-1) then (impl_isNode.j0 k n true f0 f1 f2 f3 f4 f5 f6 l v m) else (if f2 ≥ n then (impl_isNode.j0 k n true f0 f1 f2 f3 f4 f5 f6 l v m) else (if f3 < 0 then (impl_isNode.j0 k n true f0 f1 f2 f3 f4 f5 f6 l v m) else (impl_isNode.j0 k n (decide (f3 > 2)) f0 f1 f2 f3 f4 f5 f6 l v m)))))))))) r ∧ (r = true ↔ NodeP n f0 f1 f2 f3 f4 f5 f6 l v m) := fun r h a b c => by
    refine ⟨r, Ev.bind (sz_t (by omega)) (ev_pos rfl (Ev.bind (in_t (by omega)) (ev_pos rfl (Ev.bind (in_t (by omega)) (ev_pos rfl (Ev.bind (in_t (by omega)) (ev_pos rfl (Ev.bind (in_t h) a)))))))), ?_, c⟩
    rw [decide_eq_false (show ¬ f3 > 2 by omega)]
    exact ev_neg h1 (ev_neg h2 (ev_neg h3 (ev_neg h4 (ev_neg h5 (ev_neg h6 (ev_neg h7 (ev_neg h8 (ev_neg (by omega) b))))))))
  by_cases h9 : 0 ≤ f3 ∧ f3 ≤ 2
  rotate_left
  · refine ⟨false, Ev.bind (sz_t (by omega)) (ev_pos rfl (Ev.bind (in_t (by omega)) (ev_pos rfl (Ev.bind (in_t (by omega)) (ev_pos rfl (Ev.bind (in_t (by omega)) (ev_pos rfl (Ev.bind (in_f h9) y)))))))), ?_, bad fun q => by have := q.role; omega⟩
    refine ev_neg h1 (ev_neg h2 (ev_neg h3 (ev_neg h4 (ev_neg h5 (ev_neg h6 (ev_neg h7 (ev_neg h8 ?_)))))))
    by_cases g : f3 < 0
    · exact ev_pos g z
    · exact ev_neg g (i0 _ (decide_eq_true (by omega)))
  -- the log
  have hRS := lastS_ev f5 f6 l hl
  have hRI := rlogI_ev f5 f6 l hl
  by_cases hr : rlB f5 f6 l = true
  rotate_left
  · rw [if_neg hr] at hRS
    refine pre false h9 ?_ ?_ (bad fun q => hr q.log)
    · refine Ev.step (fun k => by rw [spec_NodeOk.j0]) ?_
      exact ev_neg nt (Ev.bind hRS (ev_pos (by omega) (s1 _ _ rfl)))
    · refine Ev.step (fun k => by rw [impl_isNode.j0]) ?_
      exact ev_neg nt (Ev.bind hRI (ev_neg hr (i1 _ rfl)))
  rw [if_pos hr] at hRS
  obtain ⟨q1, q2, q3, q4, q5⟩ := rl_facts hr
  by_cases hb : f5 = 0
  rotate_left
  · refine pre false h9 ?_ ?_ (bad fun q => hb q.base)
    · refine Ev.step (fun k => by rw [spec_NodeOk.j0]) ?_
      exact ev_neg nt (Ev.bind hRS (ev_neg (by omega) (ev_neg hb (s1 _ _ rfl))))
    · refine Ev.step (fun k => by rw [impl_isNode.j0]) ?_
      exact ev_neg nt (Ev.bind hRI (ev_pos hr (ev_neg hb (i1 _ rfl))))
  subst hb
  rw [Int.zero_add] at hRS
  have hlast : Ev (fun _ => impl_RLog_last.f 0 f6 l) (l.length : Int) := ev_const (by unfold impl_RLog_last.f; rw [w64 (by omega) (by omega)]; congr 1; omega)
  have hTS := termS_ev hr (i := (l.length : Int)) (by omega) (by omega)
  have hTI := termI_e hr (i := (l.length : Int)) (by omega) (by omega)
  have sj0 : ∀ r : Bool, Ev (fun k => (spec_TermAt.f k 0 f6 l l.length).bind fun t154 => (if t154 > f1 then (spec_NodeOk.j1 k n l.length true f0 f1 f2 f3 f4 0 f6 l v m) else ((spec_l01In.f f4 0 l.length).bind fun t155 => (spec_NodeOk.j1 k n l.length (!t155) f0 f1 f2 f3 f4 0 f6 l v m)))) r → Ev (fun k => spec_NodeOk.j0 k n false f0 f1 f2 f3 f4 0 f6 l v m) r := fun r h => by
    refine Ev.step (fun k => by rw [spec_NodeOk.j0]) ?_
    exact ev_neg nt (Ev.bind hRS (ev_neg (by omega) (ev_pos rfl h)))
  have ij0 : ∀ r : Bool, Ev (fun k => if termM 0 f6 l l.length > f1 then (impl_isNode.j1 k n true f0 f1 f2 f3 f4 0 f6 l v m) else (if f4 < 0 then (impl_isNode.j1 k n true f0 f1 f2 f3 f4 0 f6 l v m) else ((impl_RLog_last.f 0 f6 l).bind fun t213 => (impl_isNode.j1 k n (decide (f4 > t213)) f0 f1 f2 f3 f4 0 f6 l v m)))) r → Ev (fun k => impl_isNode.j0 k n false f0 f1 f2 f3 f4 0 f6 l v m) r := fun r h => by
    refine Ev.step (fun k => by rw [impl_isNode.j0]) ?_
    exact ev_neg nt (Ev.bind hRI (ev_pos hr (ev_pos rfl (Ev.bind hlast (Ev.bind (ev_const hTI) h)))))
  by_cases ht : termM 0 f6 l l.length > f1
  · exact pre false h9 (sj0 _ (Ev.bind hTS (ev_pos ht (s1 _ _ rfl)))) (ij0 _ (ev_pos ht (i1 _ rfl))) (bad fun q => by have := q.last; omega)
  by_cases hc : 0 ≤ f4 ∧ f4 ≤ (l.length : Int)
  rotate_left
  · refine pre false h9 (sj0 _ (Ev.bind hTS (ev_neg ht (Ev.bind (in_f hc) (s1 _ _ rfl))))) (ij0 _ (ev_neg ht ?_)) (bad fun q => hc q.commit)
    by_cases g : f4 < 0
    · exact ev_pos g (i1 _ rfl)
    · exact ev_neg g (Ev.bind hlast (i1 _ (decide_eq_true (by omega))))
  have pre1 : ∀ r : Bool, Ev (fun k => if f3 = 0 then (spec_NodeOk.j2 k n l.length false f0 f1 f2 f3 f4 0 f6 l v m) else (if f2 = f0 then (spec_NodeOk.j2 k n l.length (f1 == 0) f0 f1 f2 f3 f4 0 f6 l v m) else (spec_NodeOk.j2 k n l.length true f0 f1 f2 f3 f4 0 f6 l v m))) r → Ev (fun k => if f3 = 0 then (impl_isNode.j2 k n false f0 f1 f2 f3 f4 0 f6 l v m) else (if f2 = f0 then (impl_isNode.j2 k n (f1 == 0) f0 f1 f2 f3 f4 0 f6 l v m) else (impl_isNode.j2 k n true f0 f1 f2 f3 f4 0 f6 l v m))) r → (r = true ↔ NodeP n f0 f1 f2 f3 f4 0 f6 l v m) → _ := fun r a b c => pre r h9 (sj0 _ (Ev.bind hTS (ev_neg ht (Ev.bind (in_t hc) (by
    refine Ev.step (fun k => by rw [spec_NodeOk.j1]) ?_
    exact ev_neg (by simp) a))))) (ij0 _ (ev_neg ht (ev_neg (by omega) (Ev.bind hlast (by
    refine Ev.step (fun k => by rw [impl_isNode.j1]) ?_
    exact ev_neg (by simp; omega) b))))) c
  by_cases ha : f3 ≠ 0 → f2 = f0 ∧ f1 ≠ 0
  rotate_left
  · have g3 : ¬ f3 = 0 := fun e => ha fun h => absurd e h
    by_cases g : f2 = f0
    · have g1 : f1 = 0 := Classical.byContradiction fun e => ha fun _ => ⟨g, e⟩
      exact pre1 false (ev_neg g3 (ev_pos g (s2 _ _ (by rw [g1]; rfl)))) (ev_neg g3 (ev_pos g (i2 _ (by rw [g1]; rfl)))) (bad fun q => ha q.asked)
    · exact pre1 false (ev_neg g3 (ev_neg g (s2 _ _ rfl))) (ev_neg g3 (ev_neg g (i2 _ rfl))) (bad fun q => ha q.asked)
  have pre2 : ∀ r : Bool, Ev (fun k => spec_NodeOk.j2 k n l.length false f0 f1 f2 f3 f4 0 f6 l v m) r → Ev (fun k => impl_isNode.j2 k n false f0 f1 f2 f3 f4 0 f6 l v m) r → (r = true ↔ NodeP n f0 f1 f2 f3 f4 0 f6 l v m) → _ := fun r a b c => by
    by_cases g3 : f3 = 0
    · exact pre1 r (ev_pos g3 a) (ev_pos g3 b) c
    · obtain ⟨g, g1⟩ := ha g3
      have e : (f1 == 0) = false := by simpa using g1
      exact pre1 r (ev_neg g3 (ev_pos g (by rw [e]; exact a))) (ev_neg g3 (ev_pos g (by rw [e]; exact b))) c
  obtain ⟨r, r1, r2, r3⟩ := node_j3 n f0 f1 f2 f3 f4 f6 l v m q4 hm ⟨by omega, by omega⟩
  have last : ∀ (hvv : f3 = 1 → IdsP v ∧ f0 ∈ v ∧ ∀ x ∈ v, x < n) (hnv : f3 ≠ 1 → v = []), (r = true ↔ NodeP n f0 f1 f2 f3 f4 0 f6 l v m) := fun hvv hnv => by
    rw [r3]
    exact ⟨fun q => ⟨⟨by omega, by omega⟩, ⟨by omega, by omega⟩, ⟨by omega, by omega⟩, ⟨by omega, by omega⟩, h9, hr, rfl, by omega, hc, ha, hvv, hnv, q.1, q.2⟩, fun q => ⟨q.nomatch_, q.match_⟩⟩
  by_cases h10 : f3 = 1
  rotate_left
  · by_cases h11 : (v.length : Int) > 0
    · refine pre2 false ?_ ?_ (bad fun q => by rw [q.novotes h10] at h11; simp at h11)
      · refine Ev.step (fun k => by rw [spec_NodeOk.j2]) ?_
        exact ev_neg nt (ev_neg h10 (ev_pos h11 (Ev.now _)))
      · refine Ev.step (fun k => by rw [impl_isNode.j2]) ?_
        exact ev_neg nt (ev_neg h10 (ev_pos h11 (Ev.now _)))
    · refine pre2 r ?_ ?_ (last (fun e => absurd e h10) (fun _ => List.eq_nil_of_length_eq_zero (by omega)))
      · refine Ev.step (fun k => by rw [spec_NodeOk.j2]) ?_
        exact ev_neg nt (ev_neg h10 (ev_neg h11 r1))
      · refine Ev.step (fun k => by rw [impl_isNode.j2]) ?_
        exact ev_neg nt (ev_neg h10 (ev_neg h11 r2))
  obtain ⟨iv, iv1, iv2, iv3⟩ := ids_ev v hv
  have sj2 : ∀ r : Bool, Ev (fun k => (spec_l06Set.f k v).bind fun t156 => (if t156 = true then ((spec_l01Has.f k v f0).bind fun t157 => (if t157 = true then (if 0 ≤ (wrap64 ((v.length : Int) - 1)) then (if (wrap64 ((v.length : Int) - 1)) < (v.length : Int) then (if (rd v (wrap64 ((v.length : Int) - 1))) ≥ n then (some false) else (spec_NodeOk.j3 k n l.length f0 f1 f2 f3 f4 0 f6 l v m)) else (none)) else (none)) else (some false))) else (some false))) r → Ev (fun k => spec_NodeOk.j2 k n l.length false f0 f1 f2 f3 f4 0 f6 l v m) r := fun r h => by
    refine Ev.step (fun k => by rw [spec_NodeOk.j2]) ?_
    exact ev_neg nt (ev_pos h10 h)
  have ij2 : ∀ r : Bool, Ev (fun k => (impl_areIds.f k v).bind fun t214 => (if t214 = true then ((slices_Contains_int_int.f k v f0).bind fun t215 => (if t215 = true then ((slices_Max_int_int.f v).bind fun t216 => (if t216 ≥ n then (some false) else (impl_isNode.j3 k n f0 f1 f2 f3 f4 0 f6 l v m))) else (some false))) else (some false))) r → Ev (fun k => impl_isNode.j2 k n false f0 f1 f2 f3 f4 0 f6 l v m) r := fun r h => by
    refine Ev.step (fun k => by rw [impl_isNode.j2]) ?_
    exact ev_neg nt (ev_pos h10 h)
  by_cases hi : iv = true
  rotate_left
  · refine pre2 false (sj2 _ (Ev.bind (a := false) ?_ (ev_neg nt (Ev.now _)))) (ij2 _ (Ev.bind iv1 (ev_neg hi (Ev.now _)))) (bad fun q => hi (iv3.2 (q.votes h10).1))
    unfold spec_l06Set.f
    exact Ev.bind iv2 (ev_neg hi (Ev.now _))
  have hset : Ev (fun k => spec_l06Set.f k v) (decide ((v.length : Int) > 0)) := by
    unfold spec_l06Set.f
    exact Ev.bind iv2 (ev_pos hi (Ev.now _))
  have hIv := iv3.1 hi
  have hcn := contains_ev v hv f0
  have hhs := has_ev v hv f0
  by_cases hin : f0 ∈ v
  rotate_left
  · rw [decide_eq_false hin] at hcn hhs
    refine pre2 false (sj2 _ (Ev.bind hset ?_)) (ij2 _ (Ev.bind iv1 (ev_pos hi (Ev.bind hcn (ev_neg nt (Ev.now _)))))) (bad fun q => hin (q.votes h10).2.1)
    by_cases g : (v.length : Int) > 0
    · exact ev_pos (decide_eq_true g) (Ev.bind hhs (ev_neg nt (Ev.now _)))
    · exact ev_neg (by rw [decide_eq_false g]; simp) (Ev.now _)
  rw [decide_eq_true hin] at hcn hhs
  have hv0 : 0 < v.length := List.length_pos_of_mem hin
  have hmx := max_last v (asc_of hIv) hv0
  have hwl : wrap64 ((v.length : Int) - 1) = ((v.length - 1 : Nat) : Int) := by rw [w64 (by omega) (by omega)]; omega
  rw [hwl] at sj2
  have hall : (rd v (v.length - 1 : Nat) < n) ↔ ∀ x ∈ v, x < n := by
    rw [← hmx]
    constructor
    · intro h x hx
      obtain ⟨j, hj, rfl⟩ := (mem_rd v x).1 hx
      have := (max_all v (Lib.maxOf v) hv0).1 (Int.le_refl _) j hj
      omega
    · intro h
      have := (max_all v (n - 1) hv0).2 (fun j hj => by have := h _ ((mem_rd v _).2 ⟨j, hj, rfl⟩); omega)
      omega
  have hMx : Ev (fun _ => slices_Max_int_int.f v) (rd v (v.length - 1 : Nat)) := ev_const (by unfold slices_Max_int_int.f; rw [if_pos hv0, hmx])
  by_cases hg : rd v (v.length - 1 : Nat) ≥ n
  · exact pre2 false (sj2 _ (Ev.bind hset (ev_pos (decide_eq_true (by omega)) (Ev.bind hhs (ev_pos rfl (ev_pos (by omega) (ev_pos (by omega) (ev_pos hg (Ev.now _))))))))) (ij2 _ (Ev.bind iv1 (ev_pos hi (Ev.bind hcn (ev_pos rfl (Ev.bind hMx (ev_pos hg (Ev.now _)))))))) (bad fun q => by have := hall.2 (q.votes h10).2.2; omega)
  · exact pre2 r (sj2 _ (Ev.bind hset (ev_pos (decide_eq_true (by omega)) (Ev.bind hhs (ev_pos rfl (ev_pos (by omega) (ev_pos (by omega) (ev_neg hg r1)))))))) (ij2 _ (Ev.bind iv1 (ev_pos hi (Ev.bind hcn (ev_pos rfl (Ev.bind hMx (ev_neg hg r2))))))) (last (fun _ => ⟨hIv, hin, hall.1 (by omega)⟩) (fun e => absurd h10 e))

theorem l01Copy_l (l : List Int) (hl : l.length ≤ 1048576) (d : Nat) : ∀ i : Nat, l.length = i + d → Ev (fun k => spec_l01Copy.l0 k l (l.take i) i) l := by
  induction d with
  | zero =>
    intro i hd
    refine Ev.step (fun k => by rw [spec_l01Copy.l0]) ?_
    rw [List.take_of_length_le (by omega)]
    exact ev_neg (by omega) (Ev.now _)
  | succ d ih =>
    intro i hd
    have hi := wsucc (j := i) (n := l.length) (by omega) (by omega)
    refine Ev.step (fun k => by rw [spec_l01Copy.l0]) ?_
    rw [hi]
    refine ev_pos (by omega) (ev_pos (by omega) (ev_pos (by rw [List.length_take]; omega) ?_))
    have e : l.take i ++ [rd l (i : Int)] = l.take (i + 1) := by
      rw [take_succ_getD l i 0 (by omega)]
      unfold rd
      rw [toNat_cast]
    rw [e]
    exact ih (i + 1) (by omega)
theorem l01Copy_ev (l : List Int) (hl : l.length ≤ 1048576) : Ev (fun k => spec_l01Copy.f k l) l := l01Copy_l l hl l.length 0 (by omega)
theorem l05Copy_l (b t : Int) (l : List S85) (hl : l.length ≤ 1048576) (d : Nat) : ∀ i : Nat, l.length = i + d → Ev (fun k => spec_l05Copy.l0 k i b t l b t (l.take i)) (b, t, l) := by
  induction d with
  | zero =>
    intro i hd
    refine Ev.step (fun k => by rw [spec_l05Copy.l0]) ?_
    rw [List.take_of_length_le (by omega)]
    exact ev_neg (by omega) (Ev.now _)
  | succ d ih =>
    intro i hd
    have hi := wsucc (j := i) (n := l.length) (by omega) (by omega)
    refine Ev.step (fun k => by rw [spec_l05Copy.l0]) ?_
    rw [hi]
    refine ev_pos (by omega) (ev_pos (by omega) (ev_pos (by rw [List.length_take]; omega) ?_))
    have e : l.take i ++ [(⟨(rd_T85 l i).f0, (rd_T85 l i).f1⟩ : S85)] = l.take (i + 1) := by
      rw [take_succ_getD l i z85 (by omega)]
      unfold rd_T85
      rw [toNat_cast]
    rw [e]
    exact ih (i + 1) (by omega)
theorem l05Copy_ev (b t : Int) (l : List S85) (hl : l.length ≤ 1048576) : Ev (fun k => spec_l05Copy.f k b t l) (b, t, l) := l05Copy_l b t l hl l.length 0 (by omega)
theorem l07Copy_ev (f0 f1 f2 f3 f4 f5 f6 : Int) (l : List S85) (v m : List Int) (hl : l.length ≤ 1048576) (hv : v.length ≤ 1048576) (hm : m.length ≤ 1048576) : Ev (fun k => spec_l07Copy.f k f0 f1 f2 f3 f4 f5 f6 l v m) (f0, f1, f2, f3, f4, f5, f6, l, v, m) :=
  Ev.bind (l05Copy_ev f5 f6 l hl) (Ev.bind (l01Copy_ev v hv) (Ev.bind (l01Copy_ev m hm) (Ev.now _)))
theorem copyNode_e (f0 f1 f2 f3 f4 f5 f6 : Int) (l : List S85) (v m : List Int) (hl : l.length ≤ 1048576) (hv : v.length ≤ 1048576) (hm : m.length ≤ 1048576) : impl_copyNode.f f0 f1 f2 f3 f4 f5 f6 l v m = some (f0, f1, f2, f3, f4, f5, f6, l, v, m) := by
  unfold impl_copyNode.f impl_copyRLog.f
  simp only [Option.bind_some, List.length_nil, List.nil_append]
  rw [if_pos (by omega), Option.bind_some, if_pos (by omega), if_pos (by omega)]

/-- A slice of ints marked from c on, and held. -/
theorem markI_l (d : Nat) : ∀ (i : Nat) (xs : List Int) (c : Int), xs.length = i + d → xs.length ≤ 1048576 → 0 ≤ c → c + d ≤ 4611686018427387904 →
    ∃ ys, Ev (fun k => laws_markIntS.l0 k xs c i) (c + d, ys) ∧ ys.length = xs.length ∧ (∀ j, j < i → ys[j]? = xs[j]?) ∧ Ev (fun k => laws_heldIntS.l0 k ys c i) (c + d) := by
  induction d with
  | zero =>
    intro i xs c hd hl h0 h1
    refine ⟨xs, ?_, rfl, fun _ _ => rfl, ?_⟩
    · refine Ev.step (fun k => by rw [laws_markIntS.l0]) ?_
      refine ev_neg (by omega) ?_
      rw [show c + ((0 : Nat) : Int) = c by omega]
      exact Ev.now _
    · refine Ev.step (fun k => by rw [laws_heldIntS.l0]) ?_
      refine ev_neg (by omega) ?_
      rw [show c + ((0 : Nat) : Int) = c by omega]
      exact Ev.now _
  | succ d ih =>
    intro i xs c hd hl h0 h1
    have e1 : wrap64 (c + 1) = c + 1 := w64 (by omega) (by omega)
    obtain ⟨ys, hm, hy, hk, hh⟩ := ih (i + 1) (xs.set i c) (c + 1) (by simp; omega) (by simpa using hl) (by omega) (by omega)
    have e2 : c + 1 + (d : Int) = c + ((d + 1 : Nat) : Int) := by omega
    rw [e2] at hm hh
    refine ⟨ys, ?_, by simpa using hy, fun j hj => ?_, ?_⟩
    · refine Ev.step (fun k => by rw [laws_markIntS.l0]) ?_
      refine ev_pos (by omega) (ev_pos (by omega) ?_)
      rw [toNat_cast, e1, wsucc (n := xs.length) (by omega) (by omega)]
      exact hm
    · rw [hk j (by omega), List.getElem?_set_ne (by omega)]
    · have hi : rd ys (i : Int) = c := by
        unfold rd
        rw [toNat_cast, List.getD_eq_getElem?_getD, hk i (by omega), List.getElem?_set_self (by omega)]
        rfl
      have hyl : ys.length = xs.length := by simpa using hy
      refine Ev.step (fun k => by rw [laws_heldIntS.l0]) ?_
      refine ev_pos (by omega) (ev_pos (by omega) (ev_pos hi ?_))
      rw [e1, wsucc (n := ys.length) (by omega) (by omega)]
      exact hh
theorem markI_ev (xs : List Int) (hl : xs.length ≤ 1048576) (c : Int) (h0 : 0 ≤ c) (h1 : c ≤ 4611686018426339328) : ∃ ys, Ev (fun k => laws_markIntS.f k xs c) (c + xs.length, ys) ∧ ys.length = xs.length ∧ Ev (fun k => laws_heldIntS.f k ys c) (c + xs.length) := by
  obtain ⟨ys, h2, h3, _, h4⟩ := markI_l xs.length 0 xs c (by omega) hl h0 (by omega)
  exact ⟨ys, h2, h3, h4⟩

theorem strOf_size (l : List Int) : (strOfNums l).size = l.length := by
  unfold strOfNums
  simp [ByteArray.size]
theorem markText_l (n : Nat) : ∀ (x : Int) (s : ByteArray), 0 ≤ x → x ≤ 9223372036854775807 → x < 10 ^ n → s.size + n ≤ 1000 → ∃ r, Ev (fun k => laws_markText.l0 k x s) r := by
  induction n with
  | zero =>
    intro x s h0 hb h1 h2
    have hx : x = 0 := by simp at h1; omega
    refine ⟨(⟨#[109]⟩ : ByteArray) ++ s, ?_⟩
    refine Ev.step (fun k => by rw [laws_markText.l0]) ?_
    exact ev_neg (by omega) (ev_pos (by omega) (Ev.now _))
  | succ n ih =>
    intro x s h0 hb h1 h2
    by_cases hx : x > 0
    · have hd : Int.tdiv x 10 = x / 10 := Int.tdiv_eq_ediv_of_nonneg h0
      have h1' : x < 10 ^ n * 10 := by rw [← Int.pow_succ]; exact h1
      have hq : x / 10 < 10 ^ n := Int.ediv_lt_of_lt_mul (by decide) h1'
      have hw : wrap64 (x / 10) = x / 10 := w64 (by omega) (by omega)
      obtain ⟨r, hr⟩ := ih (x / 10) ((strOfNums [(wrap64 (48 + (Int.tmod x 10))) % 256]) ++ s) (by omega) (by omega) hq (by rw [ByteArray.size_append, strOf_size]; simp; omega)
      refine ⟨r, ?_⟩
      refine Ev.step (fun k => by rw [laws_markText.l0]) ?_
      rw [hd, hw]
      exact ev_pos hx (Ev.bind (Ev.now _) (ev_pos (by rw [strOf_size]; simp; omega) hr))
    · refine ⟨(⟨#[109]⟩ : ByteArray) ++ s, ?_⟩
      refine Ev.step (fun k => by rw [laws_markText.l0]) ?_
      exact ev_neg hx (ev_pos (by omega) (Ev.now _))
theorem markText_ev (a : Int) (h1 : a ≤ 1000000000) : ∃ r, Ev (fun k => laws_markText.f k a) r := by
  unfold laws_markText.f
  by_cases h : a ≤ 0
  · exact ⟨_, ev_pos h (Ev.now _)⟩
  · obtain ⟨r, hr⟩ := markText_l 10 a ⟨#[]⟩ (by omega) (by omega) (by omega) (by show 0 + 10 ≤ 1000; omega)
    exact ⟨r, ev_neg h hr⟩

theorem set85_eq (l : List S85) (i : Nat) (x : S85) (h : i < l.length) : rd_T85 (l.set i x) (i : Int) = x := by
  unfold rd_T85
  rw [toNat_cast, getD_lt _ _ _ (by simpa using h), List.getElem_set_self]
theorem markE_l (d : Nat) : ∀ (i : Nat) (xs : List S85) (c : Int), xs.length = i + d → xs.length ≤ 1048576 → 0 ≤ c → c ≤ 10 + 2 * (i : Int) →
    ∃ m ys, Ev (fun k => laws_markEntryS.l0 k xs c i) (m, ys) ∧ ys.length = xs.length ∧ 0 ≤ m ∧ m ≤ 10 + 2 * (xs.length : Int) ∧ (∀ j, j < i → ys[j]? = xs[j]?) ∧ Ev (fun k => laws_heldEntryS.l0 k ys c i) m := by
  induction d with
  | zero =>
    intro i xs c hd hl h0 h1
    refine ⟨c, xs, ?_, rfl, h0, by omega, fun _ _ => rfl, ?_⟩
    · refine Ev.step (fun k => by rw [laws_markEntryS.l0]) ?_
      exact ev_neg (by omega) (Ev.now _)
    · refine Ev.step (fun k => by rw [laws_heldEntryS.l0]) ?_
      exact ev_neg (by omega) (Ev.now _)
  | succ d ih =>
    intro i xs c hd hl h0 h1
    have e1 : wrap64 (c + 1) = c + 1 := w64 (by omega) (by omega)
    have e2 : wrap64 (c + 1 + 1) = c + 1 + 1 := w64 (by omega) (by omega)
    have hi : i < xs.length := by omega
    obtain ⟨t, ht⟩ := markText_ev (c + 1) (by omega)
    obtain ⟨m, ys, hm, hy, hm0, hm1, hk, hh⟩ := ih (i + 1) (xs.set i ⟨c, t⟩) (c + 1 + 1) (by simp; omega) (by simpa using hl) (by omega) (by omega)
    refine ⟨m, ys, ?_, by simpa using hy, hm0, by simpa using hm1, fun j hj => ?_, ?_⟩
    · refine Ev.step (fun k => by rw [laws_markEntryS.l0]) ?_
      rw [toNat_cast, e1, e2, wsucc (n := xs.length) hi (by omega)]
      refine ev_pos (by omega) (ev_pos (by omega) (Ev.bind (a := xs.set i ⟨c, (rd_T85 xs i).f1⟩) (Ev.now _) (Ev.bind ht ?_)))
      rw [set85_eq xs i _ hi, List.set_set]
      exact hm
    · rw [hk j (by omega), List.getElem?_set_ne (by omega)]
    · have hyl : ys.length = xs.length := by simpa using hy
      have hri : rd_T85 ys (i : Int) = ⟨c, t⟩ := by
        unfold rd_T85
        rw [toNat_cast, List.getD_eq_getElem?_getD, hk i (by omega), List.getElem?_set_self (by omega)]
        rfl
      refine Ev.step (fun k => by rw [laws_heldEntryS.l0]) ?_
      rw [hri, e1, e2, wsucc (n := ys.length) (by omega) (by omega)]
      exact ev_pos (by omega) (ev_pos (by omega) (ev_pos rfl (Ev.bind ht (ev_pos rfl hh))))
theorem markE_ev (xs : List S85) (hl : xs.length ≤ 1048576) : ∃ m ys, Ev (fun k => laws_markEntryS.f k xs 1) (m, ys) ∧ 0 ≤ m ∧ m ≤ 10000000 ∧ Ev (fun k => laws_heldEntryS.f k ys 1) m := by
  obtain ⟨m, ys, h1, _, h2, h3, _, h4⟩ := markE_l xs.length 0 xs 1 (by omega) hl (by omega) (by omega)
  exact ⟨m, ys, h1, h2, by omega, h4⟩
theorem markNode_ev (f0 f1 f2 f3 f4 f5 f6 : Int) (l : List S85) (v m : List Int) (hl : l.length ≤ 1048576) (hv : v.length ≤ 1048576) (hm : m.length ≤ 1048576) : ∃ r x y z, Ev (fun k => laws_markNode.f k f0 f1 f2 f3 f4 f5 f6 l v m 1) (r, x, y, z) ∧ 0 ≤ r ∧ Ev (fun k => laws_heldNode.f k f0 f1 f2 f3 f4 f5 f6 x y z 1) r := by
  obtain ⟨a, x, hx, a0, a1, kx⟩ := markE_ev l hl
  obtain ⟨y, hy, _, ky⟩ := markI_ev v hv a a0 (by omega)
  obtain ⟨z, hz, _, kz⟩ := markI_ev m hm (a + v.length) (by omega) (by omega)
  refine ⟨_, x, y, z, Ev.bind (a := (a, x)) (Ev.bind hx (Ev.now _)) (Ev.bind hy (Ev.bind hz (Ev.now _))), by omega, ?_⟩
  unfold laws_heldNode.f laws_heldRLog.f
  exact Ev.bind (a := a) (Ev.bind kx (ev_neg (by omega) (Ev.now _))) (ev_neg (by omega) (Ev.bind ky (ev_neg (by omega) (Ev.bind kz (ev_neg (by omega) (Ev.now _))))))

theorem count_l (f0 f1 f2 f3 f4 f6 : Int) (l : List S85) (v m : List Int) (i : Nat) (hm : m.length ≤ 5) (d : Nat) : ∀ (j many : Nat), m.length = j + d → many ≤ j → ∃ c : Nat, c ≤ 5 ∧ (∀ r, Ev (fun k => ((impl_RLog_term.f 0 f6 l i).bind fun t => (if t = f1 then (if (wrap64 (2 * (c : Int))) > (m.length : Int) then (some (i : Int)) else (impl_Node_commit.l0 k (wrap64 ((i : Int) - 1)) f1 f4 0 f6 l m)) else (impl_Node_commit.l0 k (wrap64 ((i : Int) - 1)) f1 f4 0 f6 l m)))) r → Ev (fun k => impl_Node_commit.l1 k i many j f1 f4 0 f6 l m) r) ∧ (∀ r, Ev (fun k => (if (wrap64 (2 * (c : Int))) > (m.length : Int) then ((spec_TermAt.f k 0 f6 l i).bind fun t255 => (if t255 = f1 then (some (f0, f1, f2, f3, (i : Int), 0, f6, l, v, m)) else (spec_l07Commit.l0 k (m.length : Int) (wrap64 ((i : Int) - 1)) f0 f1 f2 f3 f4 0 f6 l v m))) else (spec_l07Commit.l0 k (m.length : Int) (wrap64 ((i : Int) - 1)) f0 f1 f2 f3 f4 0 f6 l v m))) r → Ev (fun k => spec_l07Commit.l1 k (m.length : Int) i many j f0 f1 f2 f3 f4 0 f6 l v m) r) := by
  induction d with
  | zero =>
    intro j many hd hx
    refine ⟨many, by omega, fun r h => ?_, fun r h => ?_⟩
    · refine Ev.step (fun k => by rw [impl_Node_commit.l1]) ?_
      exact ev_neg (by omega) h
    · refine Ev.step (fun k => by rw [spec_l07Commit.l1]) ?_
      exact ev_neg (by omega) h
  | succ d ih =>
    intro j many hd hx
    have hj := wsucc (j := j) (n := m.length) (by omega) (by omega)
    have hy := wsucc (j := many) (n := m.length) (by omega) (by omega)
    by_cases e : (rd m j) ≥ (i : Int)
    · obtain ⟨c, c1, c2, c3⟩ := ih (j + 1) (many + 1) (by omega) (by omega)
      refine ⟨c, c1, fun r h => ?_, fun r h => ?_⟩
      · refine Ev.step (fun k => by rw [impl_Node_commit.l1]) ?_
        rw [hj, hy]
        exact ev_pos (by omega) (ev_pos (by omega) (ev_pos e (c2 r h)))
      · refine Ev.step (fun k => by rw [spec_l07Commit.l1]) ?_
        rw [hj, hy]
        exact ev_pos (by omega) (ev_pos (by omega) (ev_pos (by omega) (ev_pos e (c3 r h))))
    · obtain ⟨c, c1, c2, c3⟩ := ih (j + 1) many (by omega) (by omega)
      refine ⟨c, c1, fun r h => ?_, fun r h => ?_⟩
      · refine Ev.step (fun k => by rw [impl_Node_commit.l1]) ?_
        rw [hj]
        exact ev_pos (by omega) (ev_pos (by omega) (ev_neg e (c2 r h)))
      · refine Ev.step (fun k => by rw [spec_l07Commit.l1]) ?_
        rw [hj]
        exact ev_pos (by omega) (ev_pos (by omega) (ev_pos (by omega) (ev_neg e (c3 r h))))
theorem commit_l (f0 f1 f2 f3 f4 f6 : Int) (l : List S85) (v m : List Int) (h : rlB 0 f6 l = true) (h4 : 0 ≤ f4) (hm : m.length ≤ 5) (d : Nat) : ∀ i : Nat, (i : Int) = f4 + d → i ≤ l.length → ∃ r, Ev (fun k => impl_Node_commit.l0 k i f1 f4 0 f6 l m) r ∧ Ev (fun k => spec_l07Commit.l0 k (m.length : Int) i f0 f1 f2 f3 f4 0 f6 l v m) (f0, f1, f2, f3, r, 0, f6, l, v, m) := by
  obtain ⟨k1, k2, k3, k4, _⟩ := rl_facts h
  induction d with
  | zero =>
    intro i hd hl
    refine ⟨f4, ?_, ?_⟩
    · refine Ev.step (fun k => by rw [impl_Node_commit.l0]) ?_
      exact ev_neg (by omega) (Ev.now _)
    · refine Ev.step (fun k => by rw [spec_l07Commit.l0]) ?_
      exact ev_neg (by omega) (Ev.now _)
  | succ d ih =>
    intro i hd hl
    have t1 := termI_e h (i := (i : Int)) (by omega) (by omega)
    have t2 := termS_ev h (i := (i : Int)) (by omega) (by omega)
    have ew : wrap64 ((i : Int) - 1) = ((i - 1 : Nat) : Int) := by rw [w64 (by omega) (by omega)]; omega
    obtain ⟨r, r1, r2⟩ := ih (i - 1) (by omega) (by omega)
    obtain ⟨c, c1, c2, c3⟩ := count_l f0 f1 f2 f3 f4 f6 l v m i hm m.length 0 0 (by omega) (by omega)
    have ec : wrap64 (2 * (c : Int)) = 2 * (c : Int) := w64 (by omega) (by omega)
    rw [ew, ec] at c2 c3
    have fin : ∀ q, Ev (fun k => impl_Node_commit.l1 k i ((0 : Nat) : Int) ((0 : Nat) : Int) f1 f4 0 f6 l m) q → Ev (fun k => spec_l07Commit.l1 k (m.length : Int) i ((0 : Nat) : Int) ((0 : Nat) : Int) f0 f1 f2 f3 f4 0 f6 l v m) (f0, f1, f2, f3, q, 0, f6, l, v, m) → ∃ r, Ev (fun k => impl_Node_commit.l0 k i f1 f4 0 f6 l m) r ∧ Ev (fun k => spec_l07Commit.l0 k (m.length : Int) i f0 f1 f2 f3 f4 0 f6 l v m) (f0, f1, f2, f3, r, 0, f6, l, v, m) := fun q h1 h2 => by
      refine ⟨q, ?_, ?_⟩
      · refine Ev.step (fun k => by rw [impl_Node_commit.l0]) ?_
        exact ev_pos (by omega) h1
      · refine Ev.step (fun k => by rw [spec_l07Commit.l0]) ?_
        exact ev_pos (by omega) h2
    by_cases et : termM 0 f6 l i = f1
    · by_cases eb : 2 * (c : Int) > (m.length : Int)
      · exact fin i (c2 _ (Ev.bind (ev_const t1) (ev_pos et (ev_pos eb (Ev.now _))))) (c3 _ (ev_pos eb (Ev.bind t2 (ev_pos et (Ev.now _)))))
      · exact fin r (c2 _ (Ev.bind (ev_const t1) (ev_pos et (ev_neg eb r1)))) (c3 _ (ev_neg eb r2))
    · by_cases eb : 2 * (c : Int) > (m.length : Int)
      · exact fin r (c2 _ (Ev.bind (ev_const t1) (ev_neg et r1))) (c3 _ (ev_pos eb (Ev.bind t2 (ev_neg et r2))))
      · exact fin r (c2 _ (Ev.bind (ev_const t1) (ev_neg et r1))) (c3 _ (ev_neg eb r2))
theorem prop_ev (n : Int) (s : ByteArray) (f0 f1 f2 f3 f4 f5 f6 : Int) (l : List S85) (v m : List Int) (hl : l.length ≤ 1048576) (hv : v.length ≤ 1048576) (hm : m.length ≤ 1048576) : ∃ (g4 : Int) (l' : List S85) (m' : List Int) (b : Bool), l'.length ≤ 1048576 ∧ m'.length ≤ 1048576 ∧ Ev (fun k => impl_Propose.f k f0 f1 f2 f3 f4 f5 f6 l v m n s) (f0, f1, f2, f3, g4, f5, f6, l', v, m', b) ∧ Ev (fun k => spec_Propose.f k f0 f1 f2 f3 f4 f5 f6 l v m n s) (f0, f1, f2, f3, g4, f5, f6, l', v, m', b) := by
  obtain ⟨r, h1, h2, h3⟩ := node_ev n f0 f1 f2 f3 f4 f5 f6 l v m hl hv hm
  have hc := copyNode_e f0 f1 f2 f3 f4 f5 f6 l v m hl hv hm
  have hd := l07Copy_ev f0 f1 f2 f3 f4 f5 f6 l v m hl hv hm
  have i0 : ∀ x : Bool, x = true → Ev (fun k => impl_Propose.j0 k s x f0 f1 f2 f3 f4 f5 f6 l v m f0 f1 f2 f3 f4 f5 f6 l v m) (f0, f1, f2, f3, f4, f5, f6, l, v, m, false) := fun x hx => by
    refine Ev.step (fun k => by rw [impl_Propose.j0]) ?_
    exact ev_pos hx (Ev.now _)
  have s0 : ∀ x : Bool, x = true → Ev (fun k => spec_Propose.j0 k n s x f0 f1 f2 f3 f4 f5 f6 l v m f0 f1 f2 f3 f4 f5 f6 l v m) (f0, f1, f2, f3, f4, f5, f6, l, v, m, false) := fun x hx => by
    refine Ev.step (fun k => by rw [spec_Propose.j0]) ?_
    exact ev_pos hx (Ev.now _)
  unfold impl_Propose.f spec_Propose.f
  by_cases h : r = true
  rotate_left
  · exact ⟨f4, l, m, false, hl, hm, Ev.bind (ev_const hc) (Ev.bind h2 (ev_neg h (i0 _ rfl))), Ev.bind hd (Ev.bind h1 (ev_neg h (s0 _ rfl)))⟩
  by_cases h2' : f3 = 2
  rotate_left
  · have hb : (f3 != 2) = true := bne_iff_ne.mpr h2'
    exact ⟨f4, l, m, false, hl, hm, Ev.bind (ev_const hc) (Ev.bind h2 (ev_pos h (i0 _ hb))), Ev.bind hd (Ev.bind h1 (ev_pos h (s0 _ hb)))⟩
  have hb : (f3 != 2) = false := bne_eq_false_iff_eq.mpr h2'
  have P := h3.1 h
  have hbase : f5 = 0 := P.base
  subst hbase
  obtain ⟨q1, q2, q3⟩ := P.match_ h2'
  have hn := P.size
  have hid := P.id
  have h4 := P.commit
  obtain ⟨k1, k2, k3, k4, _⟩ := rl_facts P.log
  obtain ⟨y, hy⟩ : ∃ y : List S85, y = l ++ [⟨f1, s⟩] := ⟨_, rfl⟩
  have hyl : y.length = l.length + 1 := by rw [hy]; simp
  have hI := rlogI_ev 0 f6 y (by omega)
  have hS := rlogS_ev 0 f6 y (by omega)
  by_cases hg : rlB 0 f6 y = true
  rotate_left
  · refine ⟨f4, l, m, false, hl, hm, Ev.bind (ev_const hc) (Ev.bind h2 (ev_pos h ?_)), Ev.bind hd (Ev.bind h1 (ev_pos h ?_))⟩
    · show Ev (fun k => impl_Propose.j0 k s (f3 != 2) f0 f1 f2 f3 f4 0 f6 l v m f0 f1 f2 f3 f4 0 f6 l v m) _
      refine Ev.step (fun k => by rw [impl_Propose.j0]) ?_
      rw [← hy]
      exact ev_neg (by rw [hb]; simp) (ev_pos (by omega) (Ev.bind (a := y) (Ev.now _) (Ev.bind hI (ev_neg hg (Ev.bind (ev_const hc) (Ev.now _))))))
    · show Ev (fun k => spec_Propose.j0 k n s (f3 != 2) f0 f1 f2 f3 f4 0 f6 l v m f0 f1 f2 f3 f4 0 f6 l v m) _
      refine Ev.step (fun k => by rw [spec_Propose.j0]) ?_
      rw [← hy]
      exact ev_neg (by rw [hb]; simp) (ev_pos (by omega) (Ev.bind (a := y) (Ev.now _) (Ev.bind hS (ev_neg hg (Ev.bind hd (Ev.now _))))))
  have hla := lastS_ev 0 f6 y (by omega)
  rw [if_pos hg, Int.zero_add] at hla
  have hlI : impl_RLog_last.f 0 f6 y = some (y.length : Int) := by
    unfold impl_RLog_last.f
    rw [w64 (by omega) (by omega), Int.zero_add]
  obtain ⟨m', hm'⟩ : ∃ m' : List Int, m' = m.set f0.toNat (y.length : Int) := ⟨_, rfl⟩
  have hml : m'.length = m.length := by rw [hm']; simp
  obtain ⟨g4, g1, g2⟩ := commit_l f0 f1 f2 f3 f4 f6 y v m' hg (by omega) (by omega) (y.length - f4.toNat) y.length (by omega) (by omega)
  rw [show (m'.length : Int) = n by omega] at g2
  have hC : Ev (fun k => impl_Node_commit.f k f0 f1 f2 f3 f4 0 f6 y v m') g4 := by
    unfold impl_Node_commit.f
    exact Ev.bind (ev_const hlI) g1
  have hD : Ev (fun k => spec_l07Commit.f k f0 f1 f2 f3 f4 0 f6 y v m' n) (f0, f1, f2, f3, g4, 0, f6, y, v, m') := by
    unfold spec_l07Commit.f
    exact Ev.bind hla g2
  refine ⟨g4, y, m', true, by omega, by omega, Ev.bind (ev_const hc) (Ev.bind h2 (ev_pos h ?_)), Ev.bind hd (Ev.bind h1 (ev_pos h ?_))⟩
  · show Ev (fun k => impl_Propose.j0 k s (f3 != 2) f0 f1 f2 f3 f4 0 f6 l v m f0 f1 f2 f3 f4 0 f6 l v m) _
    refine Ev.step (fun k => by rw [impl_Propose.j0]) ?_
    rw [← hy]
    refine ev_neg (by rw [hb]; simp) (ev_pos (by omega) (Ev.bind (a := y) (Ev.now _) (Ev.bind hI (ev_pos hg (Ev.bind (ev_const hlI) (ev_pos (by omega) (ev_pos (by omega) ?_)))))))
    rw [← hm']
    exact Ev.bind (a := m') (Ev.now _) (Ev.bind hC (Ev.now _))
  · show Ev (fun k => spec_Propose.j0 k n s (f3 != 2) f0 f1 f2 f3 f4 0 f6 l v m f0 f1 f2 f3 f4 0 f6 l v m) _
    refine Ev.step (fun k => by rw [spec_Propose.j0]) ?_
    rw [← hy]
    refine ev_neg (by rw [hb]; simp) (ev_pos (by omega) (Ev.bind (a := y) (Ev.now _) (Ev.bind hS (ev_pos hg (Ev.bind hla (ev_pos (by omega) (ev_pos (by omega) ?_)))))))
    rw [← hm']
    exact Ev.bind hD (Ev.now _)

theorem FnExactPropose : Stated := by
  rintro ⟨f0, f1, f2, f3, f4, ⟨f5, f6, l0⟩, v, m⟩ n s ⟨_, _, _, _, _, ⟨_, _, wl, we⟩, ⟨wv, _⟩, ⟨wm, _⟩⟩ _ _
  refine Ev.rounds (?_ : Ev (fun k => laws_FnExactPropose.f k f0 f1 f2 f3 f4 f5 f6 l0 v m n s) true)
  obtain ⟨r, hr, r1⟩ := szNode_ev f0 f1 f2 f3 f4 f5 f6 l0 v m wl (fun x hx => (we x hx).2) wv wm
  unfold laws_FnExactPropose.f
  by_cases hs0 : (s.size : Int) > 1048576
  · exact ev_pos hs0 (Ev.now _)
  refine ev_neg hs0 ?_
  by_cases h0 : r < 0
  · exact Ev.bind hr (ev_pos h0 (Ev.now _))
  obtain ⟨hl0, hv, hm⟩ := r1 h0
  have hT := toNode_ev f0 f1 f2 f3 f4 f5 f6 l0 v m hl0 hv hm
  have hl' : (l0.map conv).length ≤ 1048576 := by simpa using hl0
  obtain ⟨l, hlE⟩ : ∃ l, l = l0.map conv := ⟨_, rfl⟩
  rw [← hlE] at hT hl'
  obtain ⟨g4, y, m', b, hy', hm', hi, hs⟩ := prop_ev n s f0 f1 f2 f3 f4 f5 f6 l v m hl' hv hm
  have hE := eqNode_ev f0 f1 f2 f3 g4 f5 f6 y v m' hy' hv hm'
  have hE0 := eqNode_ev f0 f1 f2 f3 f4 f5 f6 l v m hl' hv hm
  obtain ⟨a, _, _, _, hM, a0, _⟩ := markNode_ev f0 f1 f2 f3 f4 f5 f6 l v m hl' hv hm
  obtain ⟨c, x, yy, z, hM', c0, hH⟩ := markNode_ev f0 f1 f2 f3 g4 f5 f6 y v m' hy' hv hm'
  refine Ev.bind hr (ev_neg h0 (Ev.bind hT (Ev.bind hs (Ev.bind hT (Ev.bind hi (Ev.bind hE (ev_pos rfl (ev_neg (by simp) (Ev.bind hT (Ev.bind hE0 (ev_pos rfl (Ev.bind hM ?_))))))))))))
  refine ev_neg (by show ¬ a < 0; omega) (Ev.bind hE (ev_pos rfl (Ev.bind hM' (Ev.bind hH (ev_neg (by omega) (ev_pos rfl ?_))))))
  exact Ev.bind hT (Ev.bind hi (Ev.bind hE (ev_pos rfl (ev_neg (by simp) (Ev.bind hH (ev_neg (by omega) (ev_pos rfl (Ev.now _))))))))

end Go.Proofs.Ytkcadcoohmofcaa.Pure
