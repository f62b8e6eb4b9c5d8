/- The law FnExactElect answers true at every input. No condition. -/
import Derived.Test.YtkcadcoohmofcaaOpnFnExactElect
import Derived.Test.YtkcadcoohmofcaaBase
namespace Go.Proofs.Ytkcadcoohmofcaa.Pure
open Go.RowKit Go.Proofs.Ytkcadcoohmofcaa.QFnExactElect Go.Proofs.Ytkcadcoohmofcaa.OpnFnExactElect Go.Proofs.Ytkcadcoohmofcaa.Base Go.Proofs.YtkcadcoohmofcaaW.PrintWords Go.Proofs.YtkcadcoohmofcaaW.PrintLast
set_option linter.unusedVariables false
set_option linter.unusedSimpArgs false

theorem om {P : Prop} (h : P := by omega) : P := h
theorem nw {α : Type} {r : α} : Ev (fun _ => some r) r := Ev.now r
theorem ec {α : Type} {o : Option α} {r : α} (h : o = some r) : Ev (fun _ => o) r := ev_const h
theorem ep {α : Type} {c : Prop} [Decidable c] {f g : Nat → Option α} {r : α} (h : c) (k : Ev f r) : Ev (fun n => if c then f n else g n) r := ev_pos h k
theorem en {α : Type} {c : Prop} [Decidable c] {f g : Nat → Option α} {r : α} (h : ¬ c) (k : Ev g r) : Ev (fun n => if c then f n else g n) r := ev_neg h k
theorem eb {α β : Type} {g : Nat → Option α} {f : Nat → α → Option β} {a : α} {r : β} (h : Ev g a) (k : Ev (fun n => f n a) r) : Ev (fun n => (g n).bind (f n)) r := Ev.bind h k

theorem in_eq (x a b : Int) : spec_l01In.f x a b = some (decide (a ≤ x ∧ x ≤ b)) := by
 unfold spec_l01In.f
 by_cases h : a ≤ x
 ·rw [if_pos h]; congr 1; simp [h]
 ·rw [if_neg h, decide_eq_false (fun q => h q.1)]

def conv (e : S112) : S85 := ⟨e.f0, e.f1⟩
theorem szEnt_e (x : Int) (s : ByteArray) (hs : s.size ≤ 9223372036854775807) (a : Int) (h0 : 0 ≤ a) (h1 : a ≤ 1048576) : laws_szEntry.f x s a = some (if (s.size : Int) ≤ a then a - s.size else -1) := by
 unfold laws_szEntry.f
 rw [w64 (x := a - s.size) om om]
 by_cases h : (s.size : Int) ≤ a
 ·rw [if_neg om, if_pos h]
 ·rw [if_pos om, if_neg h]
theorem szEntS_l (l : List S112) (hl : l.length ≤ 1048576) (hw : ∀ x ∈ l, x.f1.size ≤ 9223372036854775807) (d : Nat) : ∀ (i : Nat) (a : Int), l.length = i + d → 0 ≤ a → a ≤ 1048576 → ∃ r, Ev (fun k => laws_szEntryS.l0 k l a i) r ∧ r ≤ 1048576 := by
 induction d with
 | zero =>
  intro i a hd h0 h1
  refine ⟨a, ?_, h1⟩
  refine Ev.step (fun k => by rw [laws_szEntryS.l0]) ?_
  exact en om nw
 | succ d ih =>
  intro i a hd h0 h1
  have hx : (rd_T112 l i).f1.size ≤ 9223372036854775807 := by
   unfold rd_T112
   rw [toNat_cast]
   exact hw _ (getD_mem l i _ om)
  have e := szEnt_e (rd_T112 l i).f0 (rd_T112 l i).f1 hx a h0 h1
  by_cases h : ((rd_T112 l i).f1.size : Int) ≤ a
  ·rw [if_pos h] at e
   obtain ⟨r, hr, hr1⟩ := ih (i + 1) (a - (rd_T112 l i).f1.size) om om om
   refine ⟨r, ?_, hr1⟩
   refine Ev.step (fun k => by rw [laws_szEntryS.l0]) ?_
   rw [wsucc (n := l.length) om om]
   exact ep om (ep om (eb (ec e) (en om hr)))
  ·rw [if_neg h] at e
   refine ⟨-1, ?_, by omega⟩
   refine Ev.step (fun k => by rw [laws_szEntryS.l0]) ?_
   exact ep om (ep om (eb (ec e) (ep om nw)))
theorem szEntS_ev (l : List S112) (hl : l.length ≤ 9223372036854775807) (hw : ∀ x ∈ l, x.f1.size ≤ 9223372036854775807) (a : Int) (h0 : 0 ≤ a) (h1 : a ≤ 1048576) : ∃ r, Ev (fun k => laws_szEntryS.f k l a) r ∧ r ≤ 1048576 ∧ (0 ≤ r → l.length ≤ 1048576) := by
 unfold laws_szEntryS.f
 rw [w64 (x := a - l.length) om om]
 by_cases h : (l.length : Int) ≤ a
 ·obtain ⟨r, hr, hr1⟩ := szEntS_l l om hw l.length 0 (a - l.length) om om om
  exact ⟨r, en om hr, hr1, fun _ => by omega⟩
 ·exact ⟨-1, ep om nw, by omega, fun q => by omega⟩
theorem toEntS_l (l : List S112) (hl : l.length ≤ 1048576) (d : Nat) : ∀ (i : Nat) (m : List S85), l.length = i + d → m.length = l.length → m.take i = (l.map conv).take i → Ev (fun k => laws_toEntryS.l0 k l m i) (l.map conv) := by
 induction d with
 | zero =>
  intro i m hd hm ht
  have : m = l.map conv := by
   rw [List.take_of_length_le om, List.take_of_length_le (by simp; omega)] at ht
   exact ht
  subst this
  refine Ev.step (fun k => by rw [laws_toEntryS.l0]) ?_
  exact en om nw
 | succ d ih =>
  intro i m hd hm ht
  refine Ev.step (fun k => by rw [laws_toEntryS.l0]) ?_
  refine ep om (ep om (eb (a := ((rd_T112 l i).f0, (rd_T112 l i).f1)) (ec rfl) (ep om ?_)))
  rw [wsucc (n := l.length) om om, toNat_cast]
  refine ih (i + 1) _ om (by simpa using hm) ?_
  rw [take_set_succ m i _ om, ht, List.take_succ_eq_append_getElem (show i < (l.map conv).length by simp; omega), List.getElem_map]
  congr 2
  unfold rd_T112
  rw [toNat_cast, getD_lt l i _ om]
  rfl
theorem toEntS_ev (l : List S112) (hl : l.length ≤ 1048576) : Ev (fun k => laws_toEntryS.f k l) (l.map conv) := by
 unfold laws_toEntryS.f
 refine ep om (ep (by rw [toNat_cast]; omega) ?_)
 exact toEntS_l l hl l.length 0 _ om (by simp) (by simp)
theorem eqEntS_l (l : List S85) (hl : l.length ≤ 1048576) (d : Nat) : ∀ (i : Nat), l.length = i + d → Ev (fun k => laws_eqEntryS.l0 k l l i) true := by
 induction d with
 | zero =>
  intro i hd
  refine Ev.step (fun k => by rw [laws_eqEntryS.l0]) ?_
  exact en om nw
 | succ d ih =>
  intro i hd
  refine Ev.step (fun k => by rw [laws_eqEntryS.l0]) ?_
  rw [wsucc (n := l.length) om om]
  exact ep om (ep om (ep om (eb (a := true) (ec (by unfold laws_eqEntry.f; rw [if_pos rfl, if_pos rfl])) (ep rfl (ih (i + 1) om)))))
theorem eqEntS_ev (l : List S85) (hl : l.length ≤ 1048576) : Ev (fun k => laws_eqEntryS.f k l l) true := by
 unfold laws_eqEntryS.f
 exact ep rfl (eqEntS_l l hl l.length 0 om)
theorem in_t {x a b : Int} (h : a ≤ x ∧ x ≤ b) : Ev (fun _ => spec_l01In.f x a b) true := ec (by rw [in_eq, decide_eq_true h])
theorem in_f {x a b : Int} (h : ¬ (a ≤ x ∧ x ≤ b)) : Ev (fun _ => spec_l01In.f x a b) false := ec (by rw [in_eq, decide_eq_false h])
theorem rd85 (l : List S85) (i : Nat) (hi : i < l.length) : l.drop i = rd_T85 l i :: l.drop (i + 1) := by
 rw [List.drop_eq_getElem_cons hi]
 unfold rd_T85
 rw [toNat_cast, getD_lt l i _ hi]

theorem eqIntS_l (l : List Int) (hl : l.length ≤ 1048576) (d : Nat) : ∀ (i : Nat), l.length = i + d → Ev (fun k => laws_eqIntS.l0 k l l i) true := by
 induction d with
 | zero =>
  intro i hd
  refine Ev.step (fun k => by rw [laws_eqIntS.l0]) ?_
  exact en om nw
 | succ d ih =>
  intro i hd
  refine Ev.step (fun k => by rw [laws_eqIntS.l0]) ?_
  refine ep om (ep om (ep om (ep rfl ?_)))
  rw [wsucc (n := l.length) om om]
  exact ih (i + 1) om
theorem eqIntS_ev (l : List Int) (hl : l.length ≤ 1048576) : Ev (fun k => laws_eqIntS.f k l l) true := by
 unfold laws_eqIntS.f
 exact ep rfl (eqIntS_l l hl l.length 0 om)

theorem set_take_next (l m : List Int) (i : Nat) (hi : i < l.length) (hm : m.length = l.length) (ht : m.take i = l.take i) : (m.set i (rd l (i : Int))).take (i + 1) = l.take (i + 1) := by
 rw [take_set_succ m i _ om, ht, take_succ_getD l i 0 hi]
 unfold rd
 rw [toNat_cast]
theorem toIntS_l (l : List Int) (hl : l.length ≤ 1048576) (d : Nat) : ∀ (i : Nat) (m : List Int), l.length = i + d → m.length = l.length → m.take i = l.take i → Ev (fun k => laws_toIntS.l0 k l m i) l := by
 induction d with
 | zero =>
  intro i m hd hm ht
  have : m = l := by
   rw [List.take_of_length_le om, List.take_of_length_le om] at ht
   exact ht
  subst this
  refine Ev.step (fun k => by rw [laws_toIntS.l0]) ?_
  exact en om nw
 | succ d ih =>
  intro i m hd hm ht
  refine Ev.step (fun k => by rw [laws_toIntS.l0]) ?_
  refine ep om (ep om (ep om ?_))
  rw [wsucc (n := l.length) om om, toNat_cast]
  exact ih (i + 1) _ om (by simpa using hm) (set_take_next l m i om hm ht)
theorem toIntS_ev (l : List Int) (hl : l.length ≤ 1048576) : Ev (fun k => laws_toIntS.f k l) l := by
 unfold laws_toIntS.f
 refine ep om (ep (by rw [toNat_cast]; omega) ?_)
 refine toIntS_l l hl l.length 0 _ om (by simp) (by simp)
theorem szIntS_e (l : List Int) (hl : l.length ≤ 9223372036854775807) (a : Int) (h0 : 0 ≤ a) (h1 : a ≤ 1048576) : laws_szIntS.f l a = some (if (l.length : Int) ≤ a then a - l.length else -1) := by
 unfold laws_szIntS.f
 rw [w64 (x := a - l.length) om om]
 by_cases h : (l.length : Int) ≤ a
 ·rw [if_neg om, if_pos h]
 ·rw [if_pos om, if_neg h]

theorem szNode_a (f0 f1 f2 f3 f4 f5 f6 : Int) (l : List S112) (v m : List Int) (hl : l.length ≤ 9223372036854775807) (hw : ∀ x ∈ l, x.f1.size ≤ 9223372036854775807) (hv : v.length ≤ 9223372036854775807) (hm : m.length ≤ 9223372036854775807) (a : Int) (a0 : 0 ≤ a) (a1 : a ≤ 1048576) : ∃ r, Ev (fun k => laws_szNode.f k f0 f1 f2 f3 f4 f5 f6 l v m a) r ∧ r ≤ 1048576 ∧ (¬ r < 0 → l.length ≤ 1048576 ∧ v.length ≤ 1048576 ∧ m.length ≤ 1048576) := by
 obtain ⟨r, h1, h2, h3⟩ := szEntS_ev l hl hw a a0 a1
 unfold laws_szNode.f laws_szRLog.f
 by_cases q1 : r < 0
 ·exact ⟨-1, eb (a := -1) (eb h1 (ep q1 nw)) (ep om nw), by omega, fun h => absurd (show (-1 : Int) < 0 by omega) h⟩
 have hr : Ev (fun k => (laws_szEntryS.f k l a).bind fun t120 => (if t120 < 0 then (some (-1)) else (some t120))) r := eb h1 (en q1 nw)
 have e2 := szIntS_e v hv r om om
 by_cases q2 : (v.length : Int) ≤ r
 rotate_left
 ·rw [if_neg q2] at e2
  exact ⟨-1, eb hr (en q1 (eb (ec e2) (ep om nw))), by omega, fun h => absurd (show (-1 : Int) < 0 by omega) h⟩
 rw [if_pos q2] at e2
 have e3 := szIntS_e m hm (r - v.length) om om
 by_cases q3 : (m.length : Int) ≤ r - v.length
 rotate_left
 ·rw [if_neg q3] at e3
  exact ⟨-1, eb hr (en q1 (eb (ec e2) (en om (eb (ec e3) (ep om nw))))), by omega, fun h => absurd (show (-1 : Int) < 0 by omega) h⟩
 rw [if_pos q3] at e3
 exact ⟨_, eb hr (en q1 (eb (ec e2) (en om (eb (ec e3) (en om nw))))), by omega, fun _ => ⟨h3 om, by omega, by omega⟩⟩
theorem szNode_ev (f0 f1 f2 f3 f4 f5 f6 : Int) (l : List S112) (v m : List Int) (hl : l.length ≤ 9223372036854775807) (hw : ∀ x ∈ l, x.f1.size ≤ 9223372036854775807) (hv : v.length ≤ 9223372036854775807) (hm : m.length ≤ 9223372036854775807) : ∃ r, Ev (fun k => laws_szNode.f k f0 f1 f2 f3 f4 f5 f6 l v m 1048576) r ∧ (¬ r < 0 → l.length ≤ 1048576 ∧ v.length ≤ 1048576 ∧ m.length ≤ 1048576) := by
 obtain ⟨r, h1, _, h2⟩ := szNode_a f0 f1 f2 f3 f4 f5 f6 l v m hl hw hv hm 1048576 om om
 exact ⟨r, h1, h2⟩
theorem toNode_ev (f0 f1 f2 f3 f4 f5 f6 : Int) (l : List S112) (v m : List Int) (hl : l.length ≤ 1048576) (hv : v.length ≤ 1048576) (hm : m.length ≤ 1048576) : Ev (fun k => laws_toNode.f k f0 f1 f2 f3 f4 f5 f6 l v m) (f0, f1, f2, f3, f4, f5, f6, l.map conv, v, m) := by
 refine eb (a := (f5, f6, l.map conv)) (eb (toEntS_ev l hl) nw) (eb (toIntS_ev v hv) (eb (toIntS_ev m hm) nw))
theorem eqNode_ev (f0 f1 f2 f3 f4 f5 f6 : Int) (l : List S85) (v m : List Int) (hl : l.length ≤ 1048576) (hv : v.length ≤ 1048576) (hm : m.length ≤ 1048576) : Ev (fun k => laws_eqNode.f k f0 f1 f2 f3 f4 f5 f6 l v m f0 f1 f2 f3 f4 f5 f6 l v m) true := by
 have h1 : Ev (fun k => laws_eqRLog.f k f5 f6 l f5 f6 l) true := by
  unfold laws_eqRLog.f
  exact ep rfl (ep rfl (eb (eqEntS_ev l hl) (ep rfl nw)))
 unfold laws_eqNode.f
 exact ep rfl (ep rfl (ep rfl (ep rfl (ep rfl (eb h1 (ep rfl (eb (eqIntS_ev v hv) (ep rfl (eb (eqIntS_ev m hm) (ep rfl nw))))))))))

def entB (y : S85) : Bool := decide (y.f0 > 0) && (decide (y.f0 ≤ 1000000) && decide ((y.f1.size : Int) ≤ 40))
theorem entI_e (y : S85) : impl_isEntry.f y.f0 y.f1 = some (entB y) := by
 unfold impl_isEntry.f entB
 by_cases h1 : y.f0 > 0
 ·by_cases h2 : y.f0 ≤ 1000000
  ·simp [h1, h2]
  ·simp [h1, h2]
 ·simp [h1]
theorem entS_e (y : S85) : spec_l05Entry.f y.f0 y.f1 = some (entB y) := by
 unfold spec_l05Entry.f entB
 rw [in_eq, Option.bind_some]
 by_cases h1 : y.f0 > 0
 ·by_cases h2 : y.f0 ≤ 1000000
  ·rw [if_pos (decide_eq_true om)]; simp [h1, h2]
  ·rw [if_neg (by rw [decide_eq_false om]; simp)]; simp [h1, h2]
 ·rw [if_neg (by rw [decide_eq_false om]; simp)]; simp [h1]
def lgB : Int → List S85 → Bool
 | _, [] => true
 | t, x :: xs => entB x && (!decide (x.f0 < t) && lgB x.f0 xs)
def rlB (b t : Int) (l : List S85) : Bool := decide (0 ≤ b ∧ b ≤ 1000000) && (decide (0 ≤ t ∧ t ≤ 1000000) && (decide (b = 0 ↔ t = 0) && (decide (l.length ≤ 60) && lgB t l)))
theorem lgS_l (b t0 : Int) (l : List S85) (hl : l.length ≤ 1048576) (d : Nat) : ∀ (i : Nat) (t : Int), l.length = i + d → Ev (fun k => spec_RLogOk.l0 k t i b t0 l) (lgB t (l.drop i)) := by
 induction d with
 | zero =>
  intro i t hd
  refine Ev.step (fun k => by rw [spec_RLogOk.l0]) ?_
  rw [List.drop_of_length_le om]
  exact en om nw
 | succ d ih =>
  intro i t hd
  refine Ev.step (fun k => by rw [spec_RLogOk.l0]) ?_
  rw [wsucc (n := l.length) om om, rd85 l i om]
  unfold lgB
  refine ep om (ep om (eb (ec (entS_e _)) ?_))
  cases h1 : entB (rd_T85 l i) with
  | false => exact en (by simp) nw
  | true =>
   refine ep rfl ?_
   by_cases h2 : (rd_T85 l i).f0 < t
   ·rw [decide_eq_true h2]; exact ep h2 nw
   ·rw [decide_eq_false h2, Bool.not_false, Bool.true_and, Bool.true_and]
    exact en h2 (ih (i + 1) _ om)
theorem lgI_l (l : List S85) (hl : l.length ≤ 1048576) (d : Nat) : ∀ (i : Nat) (t : Int), l.length = i + d → Ev (fun k => impl_isRLog.l0 k t l l.length i) (lgB t (l.drop i)) := by
 induction d with
 | zero =>
  intro i t hd
  refine Ev.step (fun k => by rw [impl_isRLog.l0]) ?_
  rw [List.drop_of_length_le om]
  exact en om nw
 | succ d ih =>
  intro i t hd
  refine Ev.step (fun k => by rw [impl_isRLog.l0]) ?_
  rw [wsucc (n := l.length) om om, rd85 l i om]
  unfold lgB
  refine ep om (ep om (ep om (eb (ec (entI_e _)) ?_)))
  cases h1 : entB (rd_T85 l i) with
  | false => exact en (by simp) nw
  | true =>
   refine ep rfl ?_
   by_cases h2 : (rd_T85 l i).f0 < t
   ·rw [decide_eq_true h2]; exact ep h2 nw
   ·rw [decide_eq_false h2, Bool.not_false, Bool.true_and, Bool.true_and]
    exact en h2 (ih (i + 1) _ om)
theorem zz_ne (b t : Int) : ((b == 0) != (t == 0)) = !decide (b = 0 ↔ t = 0) := by
 have e1 : (b == 0) = decide (b = 0) := by rw [Bool.eq_iff_iff]; simp
 have e2 : (t == 0) = decide (t = 0) := by rw [Bool.eq_iff_iff]; simp
 rw [e1, e2]
 by_cases h1 : b = 0 <;> by_cases h2 : t = 0 <;> simp [h1, h2]
theorem rlogS_ev (b t : Int) (l : List S85) (hl : l.length ≤ 1048576) : Ev (fun k => spec_RLogOk.f k b t l) (rlB b t l) := by
 have j0 : ∀ x : Bool, x = true → Ev (fun k => spec_RLogOk.j0 k x b t l) false := fun x h => by
  refine Ev.step (fun k => by rw [spec_RLogOk.j0]) ?_
  exact ep h nw
 unfold spec_RLogOk.f rlB
 by_cases h1 : 0 ≤ b ∧ b ≤ 1000000
 rotate_left
 ·rw [decide_eq_false h1]; exact eb (in_f h1) (en (by simp) (j0 _ rfl))
 rw [decide_eq_true h1, Bool.true_and]
 by_cases h2 : 0 ≤ t ∧ t ≤ 1000000
 rotate_left
 ·rw [decide_eq_false h2]; exact eb (in_t h1) (ep rfl (eb (in_f h2) (en (by simp) (j0 _ rfl))))
 rw [decide_eq_true h2, Bool.true_and]
 by_cases h3 : b = 0 ↔ t = 0
 rotate_left
 ·rw [decide_eq_false h3]; exact eb (in_t h1) (ep rfl (eb (in_t h2) (ep rfl (ep (by rw [zz_ne, decide_eq_false h3]; rfl) (j0 _ rfl)))))
 rw [decide_eq_true h3, Bool.true_and]
 refine eb (in_t h1) (ep rfl (eb (in_t h2) (ep rfl (en (by rw [zz_ne, decide_eq_true h3]; simp) ?_))))
 by_cases h4 : l.length ≤ 60
 rotate_left
 ·rw [decide_eq_false h4, decide_eq_true (show (l.length : Int) > 60 by omega)]; exact j0 _ rfl
 rw [decide_eq_true h4, Bool.true_and, decide_eq_false (show ¬ (l.length : Int) > 60 by omega)]
 refine Ev.step (fun k => by rw [spec_RLogOk.j0]) ?_
 exact en (by simp) (lgS_l b t l hl l.length 0 t om)
theorem rlogI_ev (b t : Int) (l : List S85) (hl : l.length ≤ 1048576) : Ev (fun k => impl_isRLog.f k b t l) (rlB b t l) := by
 have j0 : ∀ x : Bool, x = true → Ev (fun k => impl_isRLog.j0 k x b t l) false := fun x h => by
  refine Ev.step (fun k => by rw [impl_isRLog.j0]) ?_
  exact ep h nw
 unfold impl_isRLog.f rlB
 by_cases g1 : b < 0
 ·rw [decide_eq_false (show ¬ (0 ≤ b ∧ b ≤ 1000000) by omega)]; exact ep g1 (j0 _ rfl)
 by_cases g2 : b > 1000000
 ·rw [decide_eq_false (show ¬ (0 ≤ b ∧ b ≤ 1000000) by omega)]; exact en g1 (ep g2 (j0 _ rfl))
 rw [decide_eq_true (show 0 ≤ b ∧ b ≤ 1000000 by omega), Bool.true_and]
 by_cases g3 : t < 0
 ·rw [decide_eq_false (show ¬ (0 ≤ t ∧ t ≤ 1000000) by omega)]; exact en g1 (en g2 (ep g3 (j0 _ rfl)))
 by_cases g4 : t > 1000000
 ·rw [decide_eq_false (show ¬ (0 ≤ t ∧ t ≤ 1000000) by omega)]; exact en g1 (en g2 (en g3 (ep g4 (j0 _ rfl))))
 rw [decide_eq_true (show 0 ≤ t ∧ t ≤ 1000000 by omega), Bool.true_and]
 refine en g1 (en g2 (en g3 (en g4 ?_)))
 by_cases h3 : b = 0 ↔ t = 0
 rotate_left
 ·rw [decide_eq_false h3]; exact ep (by rw [zz_ne, decide_eq_false (fun q => h3 q.symm)]; rfl) (j0 _ rfl)
 rw [decide_eq_true h3, Bool.true_and]
 refine en (by rw [zz_ne, decide_eq_true h3.symm]; simp) ?_
 by_cases h4 : l.length ≤ 60
 rotate_left
 ·rw [decide_eq_false h4, decide_eq_true (show (l.length : Int) > 60 by omega)]; exact j0 _ rfl
 rw [decide_eq_true h4, Bool.true_and, decide_eq_false (show ¬ (l.length : Int) > 60 by omega)]
 refine Ev.step (fun k => by rw [impl_isRLog.j0]) ?_
 exact en (by simp) (lgI_l l hl l.length 0 t om)
theorem rl_facts {b t : Int} {l : List S85} (h : rlB b t l = true) : (0 ≤ b ∧ b ≤ 1000000) ∧ (0 ≤ t ∧ t ≤ 1000000) ∧ (b = 0 ↔ t = 0) ∧ l.length ≤ 60 ∧ lgB t l = true := by
 unfold rlB at h
 simp only [Bool.and_eq_true, decide_eq_true_iff] at h
 exact h
/-- The term at an index that a right log has. -/
def termM (b t : Int) (l : List S85) (i : Int) : Int := if i = b then t else (rd_T85 l (i - b - 1)).f0
theorem termI_e {b t : Int} {l : List S85} (h : rlB b t l = true) {i : Int} (h0 : b ≤ i) (h1 : i ≤ b + l.length) : impl_RLog_term.f b t l i = some (termM b t l i) := by
 obtain ⟨k1, k2, k3, k4, _⟩ := rl_facts h
 unfold impl_RLog_term.f termM
 by_cases e : i = b
 ·rw [if_pos e, if_pos e]
 ·rw [if_neg e, if_neg e, w64 (x := i - b) om om, w64 (x := i - b - 1) om om, if_pos om, if_pos om]
theorem termS_ev {b t : Int} {l : List S85} (h : rlB b t l = true) {i : Int} (h0 : b ≤ i) (h1 : i ≤ b + l.length) : Ev (fun k => spec_TermAt.f k b t l i) (termM b t l i) := by
 obtain ⟨k1, k2, k3, k4, _⟩ := rl_facts h
 have hr := rlogS_ev b t l om
 rw [h] at hr
 unfold spec_TermAt.f termM
 rw [w64 (x := b + l.length) om om]
 refine eb hr (ep rfl (eb (in_t ⟨h0, h1⟩) ?_))
 refine Ev.step (fun k => by rw [spec_TermAt.j0]) ?_
 refine en (by simp) ?_
 by_cases e : i = b
 ·rw [show (if i = b then t else (rd_T85 l (i - b - 1)).f0) = t from if_pos e]
  exact ep e nw
 ·rw [show (if i = b then t else (rd_T85 l (i - b - 1)).f0) = (rd_T85 l (i - b - 1)).f0 from if_neg e, w64 (x := i - b) om om, w64 (x := i - b - 1) om om]
  exact en e (ep om (ep om nw))
theorem lastS_ev (b t : Int) (l : List S85) (hl : l.length ≤ 1048576) : Ev (fun k => spec_LastIndex.f k b t l) (if rlB b t l = true then b + l.length else -1) := by
 have hr := rlogS_ev b t l hl
 unfold spec_LastIndex.f
 by_cases h : rlB b t l = true
 ·obtain ⟨k1, k2, k3, k4, _⟩ := rl_facts h
  rw [show (if rlB b t l = true then b + (l.length : Int) else -1) = b + l.length from if_pos h, w64 (x := b + l.length) om om]
  exact eb hr (ep h nw)
 ·rw [if_neg h]
  exact eb hr (en h nw)

def IdsP (l : List Int) : Prop := (∀ j : Nat, j < l.length → 0 ≤ rd l j ∧ rd l j ≤ 99 ∧ (0 < j → rd l (j - 1 : Nat) < rd l j)) ∧ l.length ≤ 7
theorem ids_l (l : List Int) (hl : l.length ≤ 1048576) (d : Nat) : ∀ i : Nat, l.length = i + d → ∃ b, Ev (fun k => impl_areIds.l0 k l l (l.length : Int) i) b ∧ Ev (fun k => spec_l06Ids.l0 k l i) b ∧ (b = true ↔ (∀ j : Nat, i ≤ j → j < l.length → 0 ≤ rd l j ∧ rd l j ≤ 99 ∧ (0 < j → rd l (j - 1 : Nat) < rd l j)) ∧ l.length ≤ 7) := by
 induction d with
 | zero =>
  intro i hd
  refine ⟨decide ((l.length : Int) ≤ 7), ?_, ?_, ?_⟩
  ·refine Ev.step (fun k => by rw [impl_areIds.l0]) ?_
   exact en om nw
  ·refine Ev.step (fun k => by rw [spec_l06Ids.l0]) ?_
   exact en om nw
  ·rw [decide_eq_true_iff]
   exact ⟨fun h => ⟨fun j h1 h2 => by omega, by omega⟩, fun h => by have := h.2; omega⟩
 | succ d ih =>
  intro i hd
  have hi := wsucc (j := i) (n := l.length) om om
  obtain ⟨b, hb1, hb2, hb⟩ := ih (i + 1) om
  have bad : (¬ (0 ≤ rd l i ∧ rd l i ≤ 99 ∧ (0 < i → rd l (i - 1 : Nat) < rd l i))) → (false = true ↔ (∀ j : Nat, i ≤ j → j < l.length → 0 ≤ rd l j ∧ rd l j ≤ 99 ∧ (0 < j → rd l (j - 1 : Nat) < rd l j)) ∧ l.length ≤ 7) := fun h => ⟨fun q => (by cases q), fun q => absurd (q.1 i (Nat.le_refl i) om) h⟩
  have good : (0 ≤ rd l i ∧ rd l i ≤ 99 ∧ (0 < i → rd l (i - 1 : Nat) < rd l i)) → (b = true ↔ (∀ j : Nat, i ≤ j → j < l.length → 0 ≤ rd l j ∧ rd l j ≤ 99 ∧ (0 < j → rd l (j - 1 : Nat) < rd l j)) ∧ l.length ≤ 7) := fun h => by
   rw [hb]
   refine ⟨fun q => ⟨fun j h1 h2 => ?_, q.2⟩, fun q => ⟨fun j h1 h2 => q.1 j om h2, q.2⟩⟩
   rcases Nat.eq_or_lt_of_le h1 with e | e
   ·subst e; exact h
   ·exact q.1 j e h2
  by_cases h1 : rd l i < 0
  ·refine ⟨false, ?_, ?_, bad om⟩
   ·refine Ev.step (fun k => by rw [impl_areIds.l0]) ?_
    exact ep om (ep om (ep om (ep h1 nw)))
   ·refine Ev.step (fun k => by rw [spec_l06Ids.l0]) ?_
    exact ep om (ep om (eb (ec (in_eq _ _ _)) (en (by simp; omega) nw)))
  by_cases h2 : rd l i > 99
  ·refine ⟨false, ?_, ?_, bad om⟩
   ·refine Ev.step (fun k => by rw [impl_areIds.l0]) ?_
    exact ep om (ep om (ep om (en h1 (ep h2 nw))))
   ·refine Ev.step (fun k => by rw [spec_l06Ids.l0]) ?_
    exact ep om (ep om (eb (ec (in_eq _ _ _)) (en (by simp; omega) nw)))
  have hin : decide (0 ≤ rd l i ∧ rd l i ≤ 99) = true := decide_eq_true ⟨by omega, by omega⟩
  by_cases h0 : i = 0
  ·subst h0
   refine ⟨b, ?_, ?_, good ⟨by omega, by omega, fun h => by omega⟩⟩
   ·refine Ev.step (fun k => by rw [impl_areIds.l0]) ?_
    refine ep om (ep om (ep om (en h1 (en h2 (en om ?_)))))
    rw [hi]; exact hb1
   ·refine Ev.step (fun k => by rw [spec_l06Ids.l0]) ?_
    refine ep om (ep om (eb (ec (in_eq _ _ _)) (ep hin (en om ?_))))
    rw [hi]; exact hb2
  have hp := wpred (j := i) om om
  by_cases h3 : rd l (i - 1 : Nat) ≥ rd l i
  ·refine ⟨false, ?_, ?_, bad (fun q => by have := q.2.2 om; omega)⟩
   ·refine Ev.step (fun k => by rw [impl_areIds.l0]) ?_
    refine ep om (ep om (ep om (en h1 (en h2 (ep om ?_)))))
    rw [hp]
    exact ep om (ep om (ep h3 nw))
   ·refine Ev.step (fun k => by rw [spec_l06Ids.l0]) ?_
    refine ep om (ep om (eb (ec (in_eq _ _ _)) (ep hin (ep om ?_))))
    rw [hp]
    exact ep om (ep om (ep h3 nw))
  ·refine ⟨b, ?_, ?_, good ⟨by omega, by omega, fun _ => by omega⟩⟩
   ·refine Ev.step (fun k => by rw [impl_areIds.l0]) ?_
    refine ep om (ep om (ep om (en h1 (en h2 (ep om ?_)))))
    rw [hp, hi]
    exact ep om (ep om (en h3 hb1))
   ·refine Ev.step (fun k => by rw [spec_l06Ids.l0]) ?_
    refine ep om (ep om (eb (ec (in_eq _ _ _)) (ep hin (ep om ?_))))
    rw [hp, hi]
    exact ep om (ep om (en h3 hb2))
theorem ids_ev (l : List Int) (hl : l.length ≤ 1048576) : ∃ b, Ev (fun k => impl_areIds.f k l) b ∧ Ev (fun k => spec_l06Ids.f k l) b ∧ (b = true ↔ IdsP l) := by
 obtain ⟨b, h1, h2, h3⟩ := ids_l l hl l.length 0 om
 exact ⟨b, h1, h2, h3.trans ⟨fun h => ⟨fun j hj => h.1 j om hj, h.2⟩, fun h => ⟨fun j _ hj => h.1 j hj, h.2⟩⟩⟩
theorem has_l (l : List Int) (hl : l.length ≤ 1048576) (x : Int) (d : Nat) : ∀ i : Nat, l.length = i + d → ∃ b, Ev (fun k => spec_l01Has.l0 k l x i) b ∧ (b = true ↔ ∃ j : Nat, i ≤ j ∧ j < l.length ∧ rd l j = x) := by
 induction d with
 | zero =>
  intro i hd
  refine ⟨false, ?_, ⟨fun q => (by cases q), fun ⟨j, h1, h2, _⟩ => by omega⟩⟩
  refine Ev.step (fun k => by rw [spec_l01Has.l0]) ?_
  exact en om nw
 | succ d ih =>
  intro i hd
  have hi := wsucc (j := i) (n := l.length) om om
  by_cases h : rd l i = x
  ·refine ⟨true, ?_, ⟨fun _ => ⟨i, Nat.le_refl i, by omega, h⟩, fun _ => rfl⟩⟩
   refine Ev.step (fun k => by rw [spec_l01Has.l0]) ?_
   exact ep om (ep om (ep h nw))
  ·obtain ⟨b, hb, h2⟩ := ih (i + 1) om
   refine ⟨b, ?_, h2.trans ⟨fun ⟨j, h3, h4, h5⟩ => ⟨j, by omega, h4, h5⟩, fun ⟨j, h3, h4, h5⟩ => ⟨j, ?_, h4, h5⟩⟩⟩
   ·refine Ev.step (fun k => by rw [spec_l01Has.l0]) ?_
    rw [hi]
    exact ep om (ep om (en h hb))
   ·rcases Nat.eq_or_lt_of_le h3 with e | e
    ·subst e; exact absurd h5 h
    ·exact e
theorem mem_rd (l : List Int) (x : Int) : x ∈ l ↔ ∃ j : Nat, j < l.length ∧ rd l j = x := by
 constructor
 ·intro h
  obtain ⟨j, hj, e⟩ := List.mem_iff_getElem.1 h
  refine ⟨j, hj, ?_⟩
  unfold rd
  rw [toNat_cast, getD_lt l j 0 hj]; exact e
 ·rintro ⟨j, hj, rfl⟩
  unfold rd
  rw [toNat_cast]
  exact getD_mem l j 0 hj
theorem has_ev (l : List Int) (hl : l.length ≤ 1048576) (x : Int) : Ev (fun k => spec_l01Has.f k l x) (decide (x ∈ l)) := by
 obtain ⟨b, h1, h2⟩ := has_l l hl x l.length 0 om
 have : b = decide (x ∈ l) := by
  rw [Bool.eq_iff_iff, h2, decide_eq_true_iff, mem_rd]
  exact ⟨fun ⟨j, _, h3, h4⟩ => ⟨j, h3, h4⟩, fun ⟨j, h3, h4⟩ => ⟨j, by omega, h3, h4⟩⟩
 rw [← this]; exact h1

theorem index_l (l : List Int) (hl : l.length ≤ 1048576) (a : Int) (d : Nat) : ∀ i : Nat, l.length = i + d → (∀ j : Nat, j < i → rd l j ≠ a) → ∃ r, Ev (fun k => slices_Index_int_int.l0 k l a (l.length : Int) i) r ∧ decide (r ≥ 0) = decide (a ∈ l) := by
 induction d with
 | zero =>
  intro i hd hb
  refine ⟨-1, ?_, ?_⟩
  ·refine Ev.step (fun k => by rw [slices_Index_int_int.l0]) ?_
   exact en om nw
  ·rw [decide_eq_false om, decide_eq_false]
   intro h
   obtain ⟨j, hj, e⟩ := (mem_rd l a).1 h
   exact hb j om e
 | succ d ih =>
  intro i hd hb
  have hi := wsucc (j := i) (n := l.length) om om
  by_cases h : a = rd l i
  ·refine ⟨i, ?_, ?_⟩
   ·refine Ev.step (fun k => by rw [slices_Index_int_int.l0]) ?_
    exact ep om (ep om (ep om (ep h nw)))
   ·rw [decide_eq_true om, decide_eq_true ((mem_rd l a).2 ⟨i, by omega, h.symm⟩)]
  ·obtain ⟨r, h1, h2⟩ := ih (i + 1) om (fun j hj => by
    by_cases e : j = i
    ·subst e; exact fun z => h z.symm
    ·exact hb j om)
   refine ⟨r, ?_, h2⟩
   refine Ev.step (fun k => by rw [slices_Index_int_int.l0]) ?_
   rw [hi]
   exact ep om (ep om (ep om (en h h1)))
theorem contains_ev (l : List Int) (hl : l.length ≤ 1048576) (a : Int) : Ev (fun k => slices_Contains_int_int.f k l a) (decide (a ∈ l)) := by
 obtain ⟨r, h1, h2⟩ := index_l l hl a l.length 0 om (fun j h => by omega)
 unfold slices_Contains_int_int.f slices_Index_int_int.f
 rw [← h2]
 exact eb h1 nw

def Asc (l : List Int) : Prop := ∀ i j : Nat, i < j → j < l.length → rd l i < rd l j
theorem asc_of {l : List Int} (h : IdsP l) : Asc l := by
 intro i j
 induction j with
 | zero => intro h1; omega
 | succ j ih =>
  intro hij hj
  have := (h.1 (j + 1) hj).2.2 om
  rw [Nat.add_sub_cancel] at this
  by_cases e : i = j
  ·subst e; exact this
  ·have := ih om om; omega
theorem asc_pw {l : List Int} (h : Asc l) : l.Pairwise (· < ·) := by
 rw [List.pairwise_iff_getElem]
 intro i j hi hj hij
 have := h i j hij hj
 unfold rd at this
 rwa [toNat_cast, toNat_cast, getD_lt l i 0 hi, getD_lt l j 0 hj] at this

theorem max_asc (l : List Int) (h : Asc l) : ∀ k : Nat, k < l.length → Lib.maxOf (l.take (k + 1)) = rd l k := by
 intro k
 induction k with
 | zero =>
  intro _
  rw [Lib.maxOf_one]; rfl
 | succ k ih =>
  intro hk
  rw [Lib.maxOf_step l (k + 1) om hk, ih om, show l.getD (k + 1) 0 = rd l ((k + 1 : Nat) : Int) by unfold rd; rw [toNat_cast]]
  have := h k (k + 1) om hk
  omega
theorem max_last (l : List Int) (h : Asc l) (h0 : 0 < l.length) : Lib.maxOf l = rd l (l.length - 1 : Nat) := by
 have := max_asc l h (l.length - 1) om
 rwa [show l.length - 1 + 1 = l.length by omega, List.take_of_length_le (Nat.le_refl _)] at this
theorem max_le (l : List Int) (m : Int) : ∀ k : Nat, k < l.length → (Lib.maxOf (l.take (k + 1)) ≤ m ↔ ∀ j : Nat, j ≤ k → rd l j ≤ m) := by
 intro k
 induction k with
 | zero =>
  intro _
  rw [Lib.maxOf_one, show l.getD 0 0 = rd l ((0 : Nat) : Int) from rfl]
  exact ⟨fun h j hj => (by obtain rfl : j = 0 := om; exact h), fun h => h 0 (Nat.le_refl _)⟩
 | succ k ih =>
  intro hk
  rw [Lib.maxOf_step l (k + 1) om hk, show l.getD (k + 1) 0 = rd l ((k + 1 : Nat) : Int) by unfold rd; rw [toNat_cast]]
  have h2 := ih om
  constructor
  ·intro h j hj
   by_cases e : j = k + 1
   ·subst e; omega
   ·exact (h2.1 om) j om
  ·intro h
   have a := h2.2 (fun j hj => h j om)
   have b := h (k + 1) (Nat.le_refl _)
   omega
theorem min_ge (l : List Int) (m : Int) : ∀ k : Nat, k < l.length → (Lib.minOf (l.take (k + 1)) ≥ m ↔ ∀ j : Nat, j ≤ k → rd l j ≥ m) := by
 intro k
 induction k with
 | zero =>
  intro _
  rw [Lib.minOf_one, show l.getD 0 0 = rd l ((0 : Nat) : Int) from rfl]
  exact ⟨fun h j hj => (by obtain rfl : j = 0 := om; exact h), fun h => h 0 (Nat.le_refl _)⟩
 | succ k ih =>
  intro hk
  rw [Lib.minOf_step l (k + 1) om hk, show l.getD (k + 1) 0 = rd l ((k + 1 : Nat) : Int) by unfold rd; rw [toNat_cast]]
  have h2 := ih om
  constructor
  ·intro h j hj
   by_cases e : j = k + 1
   ·subst e; omega
   ·exact (h2.1 om) j om
  ·intro h
   have a := h2.2 (fun j hj => h j om)
   have b := h (k + 1) (Nat.le_refl _)
   omega
theorem max_all (l : List Int) (m : Int) (h0 : 0 < l.length) : Lib.maxOf l ≤ m ↔ ∀ j : Nat, j < l.length → rd l j ≤ m := by
 have := max_le l m (l.length - 1) om
 rw [show l.length - 1 + 1 = l.length by omega, List.take_of_length_le (Nat.le_refl _)] at this
 exact this.trans ⟨fun h j hj => h j om, fun h j hj => h j om⟩
theorem min_all (l : List Int) (m : Int) (h0 : 0 < l.length) : Lib.minOf l ≥ m ↔ ∀ j : Nat, j < l.length → rd l j ≥ m := by
 have := min_ge l m (l.length - 1) om
 rw [show l.length - 1 + 1 = l.length by omega, List.take_of_length_le (Nat.le_refl _)] at this
 exact this.trans ⟨fun h j hj => h j om, fun h j hj => h j om⟩
/-- What a right node is. -/
structure NodeP (n f0 f1 f2 f3 f4 f5 f6 : Int) (l : List S85) (v m : List Int) : Prop where
 size : 1 ≤ n ∧ n ≤ 5
 id : 0 ≤ f0 ∧ f0 < n
 term : 0 ≤ f1 ∧ f1 ≤ 1000000
 vote : -1 ≤ f2 ∧ f2 < n
 role : 0 ≤ f3 ∧ f3 ≤ 2
 log : rlB f5 f6 l = true
 base : f5 = 0
 last : termM f5 f6 l l.length ≤ f1
 commit : 0 ≤ f4 ∧ f4 ≤ l.length
 asked : f3 ≠ 0 → f2 = f0 ∧ f1 ≠ 0
 votes : f3 = 1 → IdsP v ∧ f0 ∈ v ∧ ∀ x ∈ v, x < n
 novotes : f3 ≠ 1 → v = []
 nomatch_ : f3 ≠ 2 → m = []
 match_ : f3 = 2 → (m.length : Int) = n ∧ rd m f0 = l.length ∧ ∀ j : Nat, j < m.length → 0 ≤ rd m j ∧ rd m j ≤ l.length
theorem matchS_l (n last f0 f1 f2 f3 f4 f5 f6 : Int) (l : List S85) (v m : List Int) (hm : m.length ≤ 1048576) (h0 : 0 ≤ f0 ∧ f0 < n) (d : Nat) : ∀ i : Nat, m.length = i + d → ∃ r, Ev (fun k => spec_NodeOk.l0 k n last i f0 f1 f2 f3 f4 f5 f6 l v m) r ∧ (r = true ↔ (∀ j : Nat, i ≤ j → j < m.length → 0 ≤ rd m j ∧ rd m j ≤ last) ∧ (m.length : Int) = n ∧ rd m f0 = last) := by
 induction d with
 | zero =>
  intro i hd
  by_cases h : (m.length : Int) = n
  ·refine ⟨(rd m f0 == last), ?_, ?_⟩
   ·refine Ev.step (fun k => by rw [spec_NodeOk.l0]) ?_
    exact en om (ep h (ep om (ep om nw)))
   ·rw [beq_iff_eq]
    exact ⟨fun q => ⟨fun j h1 h2 => by omega, h, q⟩, fun q => q.2.2⟩
  ·refine ⟨false, ?_, ⟨fun q => (by cases q), fun q => absurd q.2.1 h⟩⟩
   refine Ev.step (fun k => by rw [spec_NodeOk.l0]) ?_
   exact en om (en h nw)
 | succ d ih =>
  intro i hd
  by_cases h : 0 ≤ rd m i ∧ rd m i ≤ last
  ·obtain ⟨r, h1, h2⟩ := ih (i + 1) om
   refine ⟨r, ?_, h2.trans ⟨fun q => ⟨fun j e1 e2 => ?_, q.2⟩, fun q => ⟨fun j e1 e2 => q.1 j om e2, q.2⟩⟩⟩
   ·refine Ev.step (fun k => by rw [spec_NodeOk.l0]) ?_
    rw [wsucc (n := m.length) om om]
    exact ep om (ep om (eb (in_t h) (ep rfl h1)))
   ·rcases Nat.eq_or_lt_of_le e1 with e | e
    ·subst e; exact h
    ·exact q.1 j e e2
  ·refine ⟨false, ?_, ⟨fun q => (by cases q), fun q => absurd (q.1 i (Nat.le_refl i) om) h⟩⟩
   refine Ev.step (fun k => by rw [spec_NodeOk.l0]) ?_
   exact ep om (ep om (eb (in_f h) (en (by simp) nw)))
/-- The last part: what a leader keeps of the others. -/
theorem node_j3 (n f0 f1 f2 f3 f4 f6 : Int) (l : List S85) (v m : List Int) (hl : l.length ≤ 60) (hm : m.length ≤ 1048576) (h0 : 0 ≤ f0 ∧ f0 < n) : ∃ r, Ev (fun k => spec_NodeOk.j3 k n l.length f0 f1 f2 f3 f4 0 f6 l v m) r ∧ Ev (fun k => impl_isNode.j3 k n f0 f1 f2 f3 f4 0 f6 l v m) r ∧ (r = true ↔ (f3 ≠ 2 → m = []) ∧ (f3 = 2 → (m.length : Int) = n ∧ rd m f0 = l.length ∧ ∀ j : Nat, j < m.length → 0 ≤ rd m j ∧ rd m j ≤ l.length)) := by
 by_cases h3 : f3 = 2
 rotate_left
 ·refine ⟨((m.length : Int) == 0), ?_, ?_, ?_⟩
  ·refine Ev.step (fun k => by rw [spec_NodeOk.j3]) ?_
   exact en h3 nw
  ·refine Ev.step (fun k => by rw [impl_isNode.j3]) ?_
   exact en h3 nw
  ·rw [beq_iff_eq]
   exact ⟨fun q => ⟨fun _ => List.eq_nil_of_length_eq_zero om, fun e => absurd e h3⟩, fun q => by rw [q.1 h3]; rfl⟩
 obtain ⟨r, r1, r2⟩ := matchS_l n l.length f0 f1 f2 f3 f4 0 f6 l v m hm h0 m.length 0 om
 have hlast : Ev (fun _ => impl_RLog_last.f 0 f6 l) (l.length : Int) := ec (by unfold impl_RLog_last.f; rw [w64 om om]; congr 1; omega)
 have j4t : ∀ x : Bool, x = true → Ev (fun k => impl_isNode.j4 k x f0 f1 f2 f3 f4 0 f6 l v m) false := fun x hx => by
  refine Ev.step (fun k => by rw [impl_isNode.j4]) ?_
  exact ep hx nw
 have hs : Ev (fun k => spec_NodeOk.j3 k n l.length f0 f1 f2 f3 f4 0 f6 l v m) r := by
  refine Ev.step (fun k => by rw [spec_NodeOk.j3]) ?_
  exact ep h3 r1
 refine ⟨r, hs, ?_, r2.trans ⟨fun q => ⟨fun e => absurd h3 e, fun _ => ⟨q.2.1, q.2.2, fun j hj => q.1 j om hj⟩⟩, fun q => ⟨fun j _ hj => (q.2 h3).2.2 j hj, (q.2 h3).1, (q.2 h3).2.1⟩⟩⟩
 refine Ev.step (fun k => by rw [impl_isNode.j3]) ?_
 refine ep h3 ?_
 have nf : ∀ {P : Prop}, (r = true ↔ P) → ¬ P → r = false := fun h hp => by
  cases r with
  | false => rfl
  | true => exact absurd (h.1 rfl) hp
 by_cases h4 : (m.length : Int) = n
 rotate_left
 ·rw [nf r2 (fun q => h4 q.2.1)]
  exact en h4 (j4t _ rfl)
 refine ep h4 (ep om (ep om (eb hlast ?_)))
 by_cases h5 : rd m f0 = l.length
 rotate_left
 ·rw [nf r2 (fun q => h5 q.2.2)]
  exact j4t _ (by simpa using h5)
 have hm0 : 0 < m.length := by omega
 refine Ev.step (fun k => by rw [impl_isNode.j4]) ?_
 refine en (by rw [h5]; simp) (eb (a := Lib.minOf m) (ec (by unfold slices_Min_int_int.f; rw [if_pos hm0])) ?_)
 by_cases h6 : Lib.minOf m ≥ 0
 rotate_left
 ·rw [nf r2 (fun q => h6 ((min_all m 0 hm0).2 fun j hj => (q.1 j om hj).1))]
  exact en h6 nw
 refine ep h6 (eb (a := Lib.maxOf m) (ec (by unfold slices_Max_int_int.f; rw [if_pos hm0])) (eb hlast ?_))
 by_cases h7 : Lib.maxOf m ≤ l.length
 ·have : r = true := r2.2 ⟨fun j _ hj => ⟨(min_all m 0 hm0).1 h6 j hj, (max_all m _ hm0).1 h7 j hj⟩, h4, h5⟩
  rw [this, decide_eq_true h7]; exact Ev.now _
 ·rw [nf r2 (fun q => h7 ((max_all m _ hm0).2 fun j hj => (q.1 j om hj).2)), decide_eq_false h7]
  exact Ev.now _
theorem node_ev (n f0 f1 f2 f3 f4 f5 f6 : Int) (l : List S85) (v m : List Int) (hl : l.length ≤ 1048576) (hv : v.length ≤ 1048576) (hm : m.length ≤ 1048576) : ∃ r, Ev (fun k => spec_NodeOk.f k f0 f1 f2 f3 f4 f5 f6 l v m n) r ∧ Ev (fun k => impl_isNode.f k f0 f1 f2 f3 f4 f5 f6 l v m n) r ∧ (r = true ↔ NodeP n f0 f1 f2 f3 f4 f5 f6 l v m) := by
 have i0 : ∀ x : Bool, x = true → Ev (fun k => impl_isNode.j0 k n x f0 f1 f2 f3 f4 f5 f6 l v m) false := fun x h => by
  refine Ev.step (fun k => by rw [impl_isNode.j0]) ?_
  exact ep h nw
 have i1 : ∀ x : Bool, x = true → Ev (fun k => impl_isNode.j1 k n x f0 f1 f2 f3 f4 f5 f6 l v m) false := fun x h => by
  refine Ev.step (fun k => by rw [impl_isNode.j1]) ?_
  exact ep h nw
 have i2 : ∀ x : Bool, x = true → Ev (fun k => impl_isNode.j2 k n x f0 f1 f2 f3 f4 f5 f6 l v m) false := fun x h => by
  refine Ev.step (fun k => by rw [impl_isNode.j2]) ?_
  exact ep h nw
 have s0 : ∀ x : Bool, x = true → Ev (fun k => spec_NodeOk.j0 k n x f0 f1 f2 f3 f4 f5 f6 l v m) false := fun x h => by
  refine Ev.step (fun k => by rw [spec_NodeOk.j0]) ?_
  exact ep h nw
 have s1 : ∀ (t : Int) (x : Bool), x = true → Ev (fun k => spec_NodeOk.j1 k n t x f0 f1 f2 f3 f4 f5 f6 l v m) false := fun t x h => by
  refine Ev.step (fun k => by rw [spec_NodeOk.j1]) ?_
  exact ep h nw
 have s2 : ∀ (t : Int) (x : Bool), x = true → Ev (fun k => spec_NodeOk.j2 k n t x f0 f1 f2 f3 f4 f5 f6 l v m) false := fun t x h => by
  refine Ev.step (fun k => by rw [spec_NodeOk.j2]) ?_
  exact ep h nw
 have z := i0 true rfl
 have y := s0 true rfl
 have nt : ¬ (false = true) := by simp
 have bad : ∀ {P : Prop}, ¬ P → (false = true ↔ P) := fun h => ⟨fun q => (by cases q), fun q => absurd q h⟩
 have sz_t : (1 ≤ n ∧ n ≤ 5) → Ev (fun _ => spec_l07Size.f n) true := fun h => by unfold spec_l07Size.f; exact eb (in_t h) nw
 have sz_f : ¬ (1 ≤ n ∧ n ≤ 5) → Ev (fun _ => spec_l07Size.f n) false := fun h => by unfold spec_l07Size.f; exact eb (in_f h) nw
 unfold spec_NodeOk.f impl_isNode.f
 by_cases h1 : n < 1
 ·exact ⟨false, eb (sz_f om) (en nt y), ep h1 z, bad fun q => by have := q.size; omega⟩
 by_cases h2 : n > 5
 ·exact ⟨false, eb (sz_f om) (en nt y), en h1 (ep h2 z), bad fun q => by have := q.size; omega⟩
 have hw : wrap64 (n - 1) = n - 1 := w64 om om
 rw [hw]
 by_cases h3 : f0 < 0
 ·exact ⟨false, eb (sz_t om) (ep rfl (eb (in_f om) (en nt y))), en h1 (en h2 (ep h3 z)), bad fun q => by have := q.id; omega⟩
 by_cases h4 : f0 ≥ n
 ·exact ⟨false, eb (sz_t om) (ep rfl (eb (in_f om) (en nt y))), en h1 (en h2 (en h3 (ep h4 z))), bad fun q => by have := q.id; omega⟩
 by_cases h5 : f1 < 0
 ·exact ⟨false, eb (sz_t om) (ep rfl (eb (in_t om) (ep rfl (eb (in_f om) (en nt y))))), en h1 (en h2 (en h3 (en h4 (ep h5 z)))), bad fun q => by have := q.term; omega⟩
 by_cases h6 : f1 > 1000000
 ·exact ⟨false, eb (sz_t om) (ep rfl (eb (in_t om) (ep rfl (eb (in_f om) (en nt y))))), en h1 (en h2 (en h3 (en h4 (en h5 (ep h6 z))))), bad fun q => by have := q.term; omega⟩
 by_cases h7 : f2 < -1
 ·exact ⟨false, eb (sz_t om) (ep rfl (eb (in_t om) (ep rfl (eb (in_t om) (ep rfl (eb (in_f om) (en nt y))))))), en h1 (en h2 (en h3 (en h4 (en h5 (en h6 (ep h7 z)))))), bad fun q => by have := q.vote; omega⟩
 by_cases h8 : f2 ≥ n
 ·exact ⟨false, eb (sz_t om) (ep rfl (eb (in_t om) (ep rfl (eb (in_t om) (ep rfl (eb (in_f om) (en nt y))))))), en h1 (en h2 (en h3 (en h4 (en h5 (en h6 (en h7 (ep h8 z))))))), bad fun q => by have := q.vote; omega⟩
 have pre : ∀ r : Bool, (0 ≤ f3 ∧ f3 ≤ 2) → Ev (fun k => spec_NodeOk.j0 k n false f0 f1 f2 f3 f4 f5 f6 l v m) r → Ev (fun k => impl_isNode.j0 k n false f0 f1 f2 f3 f4 f5 f6 l v m) r → (r = true ↔ NodeP n f0 f1 f2 f3 f4 f5 f6 l v m) → ∃ r, Ev (fun k => (spec_l07Size.f n).bind fun t148 => (if t148 = true then ((spec_l01In.f f0 0 (n - 1)).bind fun t149 => (if t149 = true then ((spec_l01In.f f1 0 1000000).bind fun t150 => (if t150 = true then ((spec_l01In.f f2 (-1) (n - 1)).bind fun t151 => (if t151 = true then ((spec_l01In.f f3 0 2).bind fun t152 => (spec_NodeOk.j0 k n (!t152) f0 f1 f2 f3 f4 f5 f6 l v m)) else (spec_NodeOk.j0 k n true f0 f1 f2 f3 f4 f5 f6 l v m))) else (spec_NodeOk.j0 k n true f0 f1 f2 f3 f4 f5 f6 l v m))) else (spec_NodeOk.j0 k n true f0 f1 f2 f3 f4 f5 f6 l v m))) else (spec_NodeOk.j0 k n true f0 f1 f2 f3 f4 f5 f6 l v m))) r ∧ Ev (fun k => if n < 1 then (impl_isNode.j0 k n true f0 f1 f2 f3 f4 f5 f6 l v m) else (if n > 5 then (impl_isNode.j0 k n true f0 f1 f2 f3 f4 f5 f6 l v m) else (if f0 < 0 then (impl_isNode.j0 k n true f0 f1 f2 f3 f4 f5 f6 l v m) else (if f0 ≥ n then (impl_isNode.j0 k n true f0 f1 f2 f3 f4 f5 f6 l v m) else (if f1 < 0 then (impl_isNode.j0 k n true f0 f1 f2 f3 f4 f5 f6 l v m) else (if f1 > 1000000 then (impl_isNode.j0 k n true f0 f1 f2 f3 f4 f5 f6 l v m) else (if f2 < (-1) then (impl_isNode.j0 k n true f0 f1 f2 f3 f4 f5 f6 l v m) else (if f2 ≥ n then (impl_isNode.j0 k n true f0 f1 f2 f3 f4 f5 f6 l v m) else (if f3 < 0 then (impl_isNode.j0 k n true f0 f1 f2 f3 f4 f5 f6 l v m) else (impl_isNode.j0 k n (decide (f3 > 2)) f0 f1 f2 f3 f4 f5 f6 l v m)))))))))) r ∧ (r = true ↔ NodeP n f0 f1 f2 f3 f4 f5 f6 l v m) := fun r h a b c => by
  refine ⟨r, eb (sz_t om) (ep rfl (eb (in_t om) (ep rfl (eb (in_t om) (ep rfl (eb (in_t om) (ep rfl (eb (in_t h) a)))))))), ?_, c⟩
  rw [decide_eq_false (show ¬ f3 > 2 by omega)]
  exact en h1 (en h2 (en h3 (en h4 (en h5 (en h6 (en h7 (en h8 (en om b))))))))
 by_cases h9 : 0 ≤ f3 ∧ f3 ≤ 2
 rotate_left
 ·refine ⟨false, eb (sz_t om) (ep rfl (eb (in_t om) (ep rfl (eb (in_t om) (ep rfl (eb (in_t om) (ep rfl (eb (in_f h9) y)))))))), ?_, bad fun q => by have := q.role; omega⟩
  refine en h1 (en h2 (en h3 (en h4 (en h5 (en h6 (en h7 (en h8 ?_)))))))
  by_cases g : f3 < 0
  ·exact ep g z
  ·exact en g (i0 _ (decide_eq_true om))
 -- the log
 have hRS := lastS_ev f5 f6 l hl
 have hRI := rlogI_ev f5 f6 l hl
 by_cases hr : rlB f5 f6 l = true
 rotate_left
 ·rw [if_neg hr] at hRS
  refine pre false h9 ?_ ?_ (bad fun q => hr q.log)
  ·refine Ev.step (fun k => by rw [spec_NodeOk.j0]) ?_
   exact en nt (eb hRS (ep om (s1 _ _ rfl)))
  ·refine Ev.step (fun k => by rw [impl_isNode.j0]) ?_
   exact en nt (eb hRI (en hr (i1 _ rfl)))
 rw [if_pos hr] at hRS
 obtain ⟨q1, q2, q3, q4, q5⟩ := rl_facts hr
 by_cases hb : f5 = 0
 rotate_left
 ·refine pre false h9 ?_ ?_ (bad fun q => hb q.base)
  ·refine Ev.step (fun k => by rw [spec_NodeOk.j0]) ?_
   exact en nt (eb hRS (en om (en hb (s1 _ _ rfl))))
  ·refine Ev.step (fun k => by rw [impl_isNode.j0]) ?_
   exact en nt (eb hRI (ep hr (en hb (i1 _ rfl))))
 subst hb
 rw [Int.zero_add] at hRS
 have hlast : Ev (fun _ => impl_RLog_last.f 0 f6 l) (l.length : Int) := ec (by unfold impl_RLog_last.f; rw [w64 om om]; congr 1; omega)
 have hTS := termS_ev hr (i := (l.length : Int)) om om
 have hTI := termI_e hr (i := (l.length : Int)) om om
 have sj0 : ∀ r : Bool, Ev (fun k => (spec_TermAt.f k 0 f6 l l.length).bind fun t154 => (if t154 > f1 then (spec_NodeOk.j1 k n l.length true f0 f1 f2 f3 f4 0 f6 l v m) else ((spec_l01In.f f4 0 l.length).bind fun t155 => (spec_NodeOk.j1 k n l.length (!t155) f0 f1 f2 f3 f4 0 f6 l v m)))) r → Ev (fun k => spec_NodeOk.j0 k n false f0 f1 f2 f3 f4 0 f6 l v m) r := fun r h => by
  refine Ev.step (fun k => by rw [spec_NodeOk.j0]) ?_
  exact en nt (eb hRS (en om (ep rfl h)))
 have ij0 : ∀ r : Bool, Ev (fun k => if termM 0 f6 l l.length > f1 then (impl_isNode.j1 k n true f0 f1 f2 f3 f4 0 f6 l v m) else (if f4 < 0 then (impl_isNode.j1 k n true f0 f1 f2 f3 f4 0 f6 l v m) else ((impl_RLog_last.f 0 f6 l).bind fun t213 => (impl_isNode.j1 k n (decide (f4 > t213)) f0 f1 f2 f3 f4 0 f6 l v m)))) r → Ev (fun k => impl_isNode.j0 k n false f0 f1 f2 f3 f4 0 f6 l v m) r := fun r h => by
  refine Ev.step (fun k => by rw [impl_isNode.j0]) ?_
  exact en nt (eb hRI (ep hr (ep rfl (eb hlast (eb (ec hTI) h)))))
 by_cases ht : termM 0 f6 l l.length > f1
 ·exact pre false h9 (sj0 _ (eb hTS (ep ht (s1 _ _ rfl)))) (ij0 _ (ep ht (i1 _ rfl))) (bad fun q => by have := q.last; omega)
 by_cases hc : 0 ≤ f4 ∧ f4 ≤ (l.length : Int)
 rotate_left
 ·refine pre false h9 (sj0 _ (eb hTS (en ht (eb (in_f hc) (s1 _ _ rfl))))) (ij0 _ (en ht ?_)) (bad fun q => hc q.commit)
  by_cases g : f4 < 0
  ·exact ep g (i1 _ rfl)
  ·exact en g (eb hlast (i1 _ (decide_eq_true om)))
 have pre1 : ∀ r : Bool, Ev (fun k => if f3 = 0 then (spec_NodeOk.j2 k n l.length false f0 f1 f2 f3 f4 0 f6 l v m) else (if f2 = f0 then (spec_NodeOk.j2 k n l.length (f1 == 0) f0 f1 f2 f3 f4 0 f6 l v m) else (spec_NodeOk.j2 k n l.length true f0 f1 f2 f3 f4 0 f6 l v m))) r → Ev (fun k => if f3 = 0 then (impl_isNode.j2 k n false f0 f1 f2 f3 f4 0 f6 l v m) else (if f2 = f0 then (impl_isNode.j2 k n (f1 == 0) f0 f1 f2 f3 f4 0 f6 l v m) else (impl_isNode.j2 k n true f0 f1 f2 f3 f4 0 f6 l v m))) r → (r = true ↔ NodeP n f0 f1 f2 f3 f4 0 f6 l v m) → _ := fun r a b c => pre r h9 (sj0 _ (eb hTS (en ht (eb (in_t hc) (by
  refine Ev.step (fun k => by rw [spec_NodeOk.j1]) ?_
  exact en (by simp) a))))) (ij0 _ (en ht (en om (eb hlast (by
  refine Ev.step (fun k => by rw [impl_isNode.j1]) ?_
  exact en (by simp; omega) b))))) c
 by_cases ha : f3 ≠ 0 → f2 = f0 ∧ f1 ≠ 0
 rotate_left
 ·have g3 : ¬ f3 = 0 := fun e => ha fun h => absurd e h
  by_cases g : f2 = f0
  ·have g1 : f1 = 0 := Classical.byContradiction fun e => ha fun _ => ⟨g, e⟩
   exact pre1 false (en g3 (ep g (s2 _ _ (by rw [g1]; rfl)))) (en g3 (ep g (i2 _ (by rw [g1]; rfl)))) (bad fun q => ha q.asked)
  ·exact pre1 false (en g3 (en g (s2 _ _ rfl))) (en g3 (en g (i2 _ rfl))) (bad fun q => ha q.asked)
 have pre2 : ∀ r : Bool, Ev (fun k => spec_NodeOk.j2 k n l.length false f0 f1 f2 f3 f4 0 f6 l v m) r → Ev (fun k => impl_isNode.j2 k n false f0 f1 f2 f3 f4 0 f6 l v m) r → (r = true ↔ NodeP n f0 f1 f2 f3 f4 0 f6 l v m) → _ := fun r a b c => by
  by_cases g3 : f3 = 0
  ·exact pre1 r (ep g3 a) (ep g3 b) c
  ·obtain ⟨g, g1⟩ := ha g3
   have e : (f1 == 0) = false := by simpa using g1
   exact pre1 r (en g3 (ep g (by rw [e]; exact a))) (en g3 (ep g (by rw [e]; exact b))) c
 obtain ⟨r, r1, r2, r3⟩ := node_j3 n f0 f1 f2 f3 f4 f6 l v m q4 hm ⟨by omega, by omega⟩
 have last : ∀ (hvv : f3 = 1 → IdsP v ∧ f0 ∈ v ∧ ∀ x ∈ v, x < n) (hnv : f3 ≠ 1 → v = []), (r = true ↔ NodeP n f0 f1 f2 f3 f4 0 f6 l v m) := fun hvv hnv => by
  rw [r3]
  exact ⟨fun q => ⟨⟨by omega, by omega⟩, ⟨by omega, by omega⟩, ⟨by omega, by omega⟩, ⟨by omega, by omega⟩, h9, hr, rfl, by omega, hc, ha, hvv, hnv, q.1, q.2⟩, fun q => ⟨q.nomatch_, q.match_⟩⟩
 by_cases h10 : f3 = 1
 rotate_left
 ·by_cases h11 : (v.length : Int) > 0
  ·refine pre2 false ?_ ?_ (bad fun q => by rw [q.novotes h10] at h11; simp at h11)
   ·refine Ev.step (fun k => by rw [spec_NodeOk.j2]) ?_
    exact en nt (en h10 (ep h11 nw))
   ·refine Ev.step (fun k => by rw [impl_isNode.j2]) ?_
    exact en nt (en h10 (ep h11 nw))
  ·refine pre2 r ?_ ?_ (last (fun e => absurd e h10) (fun _ => List.eq_nil_of_length_eq_zero om))
   ·refine Ev.step (fun k => by rw [spec_NodeOk.j2]) ?_
    exact en nt (en h10 (en h11 r1))
   ·refine Ev.step (fun k => by rw [impl_isNode.j2]) ?_
    exact en nt (en h10 (en h11 r2))
 obtain ⟨iv, iv1, iv2, iv3⟩ := ids_ev v hv
 have sj2 : ∀ r : Bool, Ev (fun k => (spec_l06Set.f k v).bind fun t156 => (if t156 = true then ((spec_l01Has.f k v f0).bind fun t157 => (if t157 = true then (if 0 ≤ (wrap64 ((v.length : Int) - 1)) then (if (wrap64 ((v.length : Int) - 1)) < (v.length : Int) then (if (rd v (wrap64 ((v.length : Int) - 1))) ≥ n then (some false) else (spec_NodeOk.j3 k n l.length f0 f1 f2 f3 f4 0 f6 l v m)) else (none)) else (none)) else (some false))) else (some false))) r → Ev (fun k => spec_NodeOk.j2 k n l.length false f0 f1 f2 f3 f4 0 f6 l v m) r := fun r h => by
  refine Ev.step (fun k => by rw [spec_NodeOk.j2]) ?_
  exact en nt (ep h10 h)
 have ij2 : ∀ r : Bool, Ev (fun k => (impl_areIds.f k v).bind fun t214 => (if t214 = true then ((slices_Contains_int_int.f k v f0).bind fun t215 => (if t215 = true then ((slices_Max_int_int.f v).bind fun t216 => (if t216 ≥ n then (some false) else (impl_isNode.j3 k n f0 f1 f2 f3 f4 0 f6 l v m))) else (some false))) else (some false))) r → Ev (fun k => impl_isNode.j2 k n false f0 f1 f2 f3 f4 0 f6 l v m) r := fun r h => by
  refine Ev.step (fun k => by rw [impl_isNode.j2]) ?_
  exact en nt (ep h10 h)
 by_cases hi : iv = true
 rotate_left
 ·refine pre2 false (sj2 _ (eb (a := false) ?_ (en nt nw))) (ij2 _ (eb iv1 (en hi nw))) (bad fun q => hi (iv3.2 (q.votes h10).1))
  unfold spec_l06Set.f
  exact eb iv2 (en hi nw)
 have hset : Ev (fun k => spec_l06Set.f k v) (decide ((v.length : Int) > 0)) := by
  unfold spec_l06Set.f
  exact eb iv2 (ep hi nw)
 have hIv := iv3.1 hi
 have hcn := contains_ev v hv f0
 have hhs := has_ev v hv f0
 by_cases hin : f0 ∈ v
 rotate_left
 ·rw [decide_eq_false hin] at hcn hhs
  refine pre2 false (sj2 _ (eb hset ?_)) (ij2 _ (eb iv1 (ep hi (eb hcn (en nt nw))))) (bad fun q => hin (q.votes h10).2.1)
  by_cases g : (v.length : Int) > 0
  ·exact ep (decide_eq_true g) (eb hhs (en nt nw))
  ·exact en (by rw [decide_eq_false g]; simp) nw
 rw [decide_eq_true hin] at hcn hhs
 have hv0 : 0 < v.length := List.length_pos_of_mem hin
 have hmx := max_last v (asc_of hIv) hv0
 have hwl : wrap64 ((v.length : Int) - 1) = ((v.length - 1 : Nat) : Int) := by rw [w64 om om]; omega
 rw [hwl] at sj2
 have hall : (rd v (v.length - 1 : Nat) < n) ↔ ∀ x ∈ v, x < n := by
  rw [← hmx]
  constructor
  ·intro h x hx
   obtain ⟨j, hj, rfl⟩ := (mem_rd v x).1 hx
   have := (max_all v (Lib.maxOf v) hv0).1 (Int.le_refl _) j hj
   omega
  ·intro h
   have := (max_all v (n - 1) hv0).2 (fun j hj => by have := h _ ((mem_rd v _).2 ⟨j, hj, rfl⟩); omega)
   omega
 have hMx : Ev (fun _ => slices_Max_int_int.f v) (rd v (v.length - 1 : Nat)) := ec (by unfold slices_Max_int_int.f; rw [if_pos hv0, hmx])
 by_cases hg : rd v (v.length - 1 : Nat) ≥ n
 ·exact pre2 false (sj2 _ (eb hset (ep (decide_eq_true om) (eb hhs (ep rfl (ep om (ep om (ep hg nw)))))))) (ij2 _ (eb iv1 (ep hi (eb hcn (ep rfl (eb hMx (ep hg nw))))))) (bad fun q => by have := hall.2 (q.votes h10).2.2; omega)
 ·exact pre2 r (sj2 _ (eb hset (ep (decide_eq_true om) (eb hhs (ep rfl (ep om (ep om (en hg r1)))))))) (ij2 _ (eb iv1 (ep hi (eb hcn (ep rfl (eb hMx (en hg r2))))))) (last (fun _ => ⟨hIv, hin, hall.1 om⟩) (fun e => absurd h10 e))

theorem l01Copy_l (l : List Int) (hl : l.length ≤ 1048576) (d : Nat) : ∀ i : Nat, l.length = i + d → Ev (fun k => spec_l01Copy.l0 k l (l.take i) i) l := by
 induction d with
 | zero =>
  intro i hd
  refine Ev.step (fun k => by rw [spec_l01Copy.l0]) ?_
  rw [List.take_of_length_le om]
  exact en om nw
 | succ d ih =>
  intro i hd
  have hi := wsucc (j := i) (n := l.length) om om
  refine Ev.step (fun k => by rw [spec_l01Copy.l0]) ?_
  rw [hi]
  refine ep om (ep om (ep (by rw [List.length_take]; omega) ?_))
  have e : l.take i ++ [rd l (i : Int)] = l.take (i + 1) := by
   rw [take_succ_getD l i 0 om]
   unfold rd
   rw [toNat_cast]
  rw [e]
  exact ih (i + 1) om
theorem l01Copy_ev (l : List Int) (hl : l.length ≤ 1048576) : Ev (fun k => spec_l01Copy.f k l) l := l01Copy_l l hl l.length 0 om
theorem l05Copy_l (b t : Int) (l : List S85) (hl : l.length ≤ 1048576) (d : Nat) : ∀ i : Nat, l.length = i + d → Ev (fun k => spec_l05Copy.l0 k i b t l b t (l.take i)) (b, t, l) := by
 induction d with
 | zero =>
  intro i hd
  refine Ev.step (fun k => by rw [spec_l05Copy.l0]) ?_
  rw [List.take_of_length_le om]
  exact en om nw
 | succ d ih =>
  intro i hd
  have hi := wsucc (j := i) (n := l.length) om om
  refine Ev.step (fun k => by rw [spec_l05Copy.l0]) ?_
  rw [hi]
  refine ep om (ep om (ep (by rw [List.length_take]; omega) ?_))
  have e : l.take i ++ [(⟨(rd_T85 l i).f0, (rd_T85 l i).f1⟩ : S85)] = l.take (i + 1) := by
   rw [take_succ_getD l i z85 om]
   unfold rd_T85
   rw [toNat_cast]
  rw [e]
  exact ih (i + 1) om
theorem l05Copy_ev (b t : Int) (l : List S85) (hl : l.length ≤ 1048576) : Ev (fun k => spec_l05Copy.f k b t l) (b, t, l) := l05Copy_l b t l hl l.length 0 om
theorem l07Copy_ev (f0 f1 f2 f3 f4 f5 f6 : Int) (l : List S85) (v m : List Int) (hl : l.length ≤ 1048576) (hv : v.length ≤ 1048576) (hm : m.length ≤ 1048576) : Ev (fun k => spec_l07Copy.f k f0 f1 f2 f3 f4 f5 f6 l v m) (f0, f1, f2, f3, f4, f5, f6, l, v, m) :=
 eb (l05Copy_ev f5 f6 l hl) (eb (l01Copy_ev v hv) (eb (l01Copy_ev m hm) nw))
theorem copyNode_e (f0 f1 f2 f3 f4 f5 f6 : Int) (l : List S85) (v m : List Int) (hl : l.length ≤ 1048576) (hv : v.length ≤ 1048576) (hm : m.length ≤ 1048576) : impl_copyNode.f f0 f1 f2 f3 f4 f5 f6 l v m = some (f0, f1, f2, f3, f4, f5, f6, l, v, m) := by
 unfold impl_copyNode.f impl_copyRLog.f
 simp only [Option.bind_some, List.length_nil, List.nil_append]
 rw [if_pos om, Option.bind_some, if_pos om, if_pos om]

theorem strOf_size (l : List Int) : (strOfNums l).size = l.length := by
 unfold strOfNums
 simp [ByteArray.size]
theorem markText_l (n : Nat) : ∀ (x : Int) (s : ByteArray), 0 ≤ x → x ≤ 9223372036854775807 → x < 10 ^ n → s.size + n ≤ 1000 → ∃ r, Ev (fun k => laws_markText.l0 k x s) r := by
 induction n with
 | zero =>
  intro x s h0 hb h1 h2
  have hx : x = 0 := by simp at h1; omega
  refine ⟨(⟨#[109]⟩ : ByteArray) ++ s, ?_⟩
  refine Ev.step (fun k => by rw [laws_markText.l0]) ?_
  exact en om (ep om nw)
 | succ n ih =>
  intro x s h0 hb h1 h2
  by_cases hx : x > 0
  ·have hd : Int.tdiv x 10 = x / 10 := Int.tdiv_eq_ediv_of_nonneg h0
   have h1' : x < 10 ^ n * 10 := by rw [← Int.pow_succ]; exact h1
   have hq : x / 10 < 10 ^ n := Int.ediv_lt_of_lt_mul (by decide) h1'
   have hw : wrap64 (x / 10) = x / 10 := w64 om om
   obtain ⟨r, hr⟩ := ih (x / 10) ((strOfNums [(wrap64 (48 + (Int.tmod x 10))) % 256]) ++ s) om om hq (by rw [ByteArray.size_append, strOf_size]; simp; omega)
   refine ⟨r, ?_⟩
   refine Ev.step (fun k => by rw [laws_markText.l0]) ?_
   rw [hd, hw]
   exact ep hx (eb nw (ep (by rw [strOf_size]; simp; omega) hr))
  ·refine ⟨(⟨#[109]⟩ : ByteArray) ++ s, ?_⟩
   refine Ev.step (fun k => by rw [laws_markText.l0]) ?_
   exact en hx (ep om nw)
theorem markText_ev (a : Int) (h1 : a ≤ 1000000000) : ∃ r, Ev (fun k => laws_markText.f k a) r := by
 unfold laws_markText.f
 by_cases h : a ≤ 0
 ·exact ⟨_, ep h nw⟩
 ·obtain ⟨r, hr⟩ := markText_l 10 a ⟨#[]⟩ om om om (by show 0 + 10 ≤ 1000; omega)
  exact ⟨r, en h hr⟩

/-- A slice of ints marked from c on, and held. -/
theorem markI_l (d : Nat) : ∀ (i : Nat) (xs : List Int) (c : Int), xs.length = i + d → xs.length ≤ 1048576 → 0 ≤ c → c + d ≤ 4611686018427387904 →
  ∃ ys, Ev (fun k => laws_markIntS.l0 k xs c i) (c + d, ys) ∧ ys.length = xs.length ∧ (∀ j, j < i → ys[j]? = xs[j]?) ∧ Ev (fun k => laws_heldIntS.l0 k ys c i) (c + d) := by
 induction d with
 | zero =>
  intro i xs c hd hl h0 h1
  refine ⟨xs, ?_, rfl, fun _ _ => rfl, ?_⟩
  ·refine Ev.step (fun k => by rw [laws_markIntS.l0]) ?_
   refine en om ?_
   rw [show c + ((0 : Nat) : Int) = c by omega]
   exact Ev.now _
  ·refine Ev.step (fun k => by rw [laws_heldIntS.l0]) ?_
   refine en om ?_
   rw [show c + ((0 : Nat) : Int) = c by omega]
   exact Ev.now _
 | succ d ih =>
  intro i xs c hd hl h0 h1
  have e1 : wrap64 (c + 1) = c + 1 := w64 om om
  obtain ⟨ys, hm, hy, hk, hh⟩ := ih (i + 1) (xs.set i c) (c + 1) (by simp; omega) (by simpa using hl) om om
  have e2 : c + 1 + (d : Int) = c + ((d + 1 : Nat) : Int) := by omega
  rw [e2] at hm hh
  refine ⟨ys, ?_, by simpa using hy, fun j hj => ?_, ?_⟩
  ·refine Ev.step (fun k => by rw [laws_markIntS.l0]) ?_
   refine ep om (ep om ?_)
   rw [toNat_cast, e1, wsucc (n := xs.length) om om]
   exact hm
  ·rw [hk j om, List.getElem?_set_ne om]
  ·have hi : rd ys (i : Int) = c := by
    unfold rd
    rw [toNat_cast, List.getD_eq_getElem?_getD, hk i om, List.getElem?_set_self om]
    rfl
   have hyl : ys.length = xs.length := by simpa using hy
   refine Ev.step (fun k => by rw [laws_heldIntS.l0]) ?_
   refine ep om (ep om (ep hi ?_))
   rw [e1, wsucc (n := ys.length) om om]
   exact hh
theorem markI_ev (xs : List Int) (hl : xs.length ≤ 1048576) (c : Int) (h0 : 0 ≤ c) (h1 : c ≤ 4611686018426339328) : ∃ ys, Ev (fun k => laws_markIntS.f k xs c) (c + xs.length, ys) ∧ ys.length = xs.length ∧ Ev (fun k => laws_heldIntS.f k ys c) (c + xs.length) := by
 obtain ⟨ys, h2, h3, _, h4⟩ := markI_l xs.length 0 xs c om hl h0 om
 exact ⟨ys, h2, h3, h4⟩

theorem set85_eq (l : List S85) (i : Nat) (x : S85) (h : i < l.length) : rd_T85 (l.set i x) (i : Int) = x := by
 unfold rd_T85
 rw [toNat_cast, getD_lt _ _ _ (by simpa using h), List.getElem_set_self]
theorem markI0_l (d : Nat) : ∀ (i : Nat) (xs : List Int) (c : Int), xs.length = i + d → xs.length ≤ 1048576 → 0 ≤ c → c + d ≤ 4611686018427387904 → ∃ ys, Ev (fun k => laws_markIntS.l0 k xs c i) (c + d, ys) := by
 induction d with
 | zero =>
  intro i xs c hd hl h0 h1
  refine ⟨xs, ?_⟩
  refine Ev.step (fun k => by rw [laws_markIntS.l0]) ?_
  refine en om ?_
  rw [show c + ((0 : Nat) : Int) = c by omega]
  exact Ev.now _
 | succ d ih =>
  intro i xs c hd hl h0 h1
  have e1 : wrap64 (c + 1) = c + 1 := w64 om om
  obtain ⟨ys, hm⟩ := ih (i + 1) (xs.set i c) (c + 1) (by simp; omega) (by simpa using hl) om om
  have e2 : c + 1 + (d : Int) = c + ((d + 1 : Nat) : Int) := by omega
  rw [e2] at hm
  refine ⟨ys, ?_⟩
  refine Ev.step (fun k => by rw [laws_markIntS.l0]) ?_
  refine ep om (ep om ?_)
  rw [toNat_cast, e1, wsucc (n := xs.length) om om]
  exact hm
theorem markI0_ev (xs : List Int) (hl : xs.length ≤ 1048576) (c : Int) (h0 : 0 ≤ c) (h1 : c ≤ 4611686018426339328) : ∃ ys, Ev (fun k => laws_markIntS.f k xs c) (c + xs.length, ys) := markI0_l xs.length 0 xs c om hl h0 om
theorem markE2_l (d : Nat) : ∀ (i : Nat) (xs : List S85) (c : Int), xs.length = i + d → xs.length ≤ 1048576 → 0 ≤ c → c ≤ 100000000 + 2 * (i : Int) →
  ∃ m ys, Ev (fun k => laws_markEntryS.l0 k xs c i) (m, ys) ∧ ys.length = xs.length ∧ 0 ≤ m ∧ m ≤ c + 2 * (d : Int) ∧ (∀ j, j < i → ys[j]? = xs[j]?) ∧ Ev (fun k => laws_heldEntryS.l0 k ys c i) m := by
 induction d with
 | zero =>
  intro i xs c hd hl h0 h1
  refine ⟨c, xs, ?_, rfl, h0, by omega, fun _ _ => rfl, ?_⟩
  ·refine Ev.step (fun k => by rw [laws_markEntryS.l0]) ?_
   exact en om nw
  ·refine Ev.step (fun k => by rw [laws_heldEntryS.l0]) ?_
   exact en om nw
 | succ d ih =>
  intro i xs c hd hl h0 h1
  have e1 : wrap64 (c + 1) = c + 1 := w64 om om
  have e2 : wrap64 (c + 1 + 1) = c + 1 + 1 := w64 om om
  have hi : i < xs.length := by omega
  obtain ⟨t, ht⟩ := markText_ev (c + 1) om
  obtain ⟨m, ys, hm, hy, hm0, hm1, hk, hh⟩ := ih (i + 1) (xs.set i ⟨c, t⟩) (c + 1 + 1) (by simp; omega) (by simpa using hl) om om
  refine ⟨m, ys, ?_, by simpa using hy, hm0, by omega, fun j hj => ?_, ?_⟩
  ·refine Ev.step (fun k => by rw [laws_markEntryS.l0]) ?_
   rw [toNat_cast, e1, e2, wsucc (n := xs.length) hi om]
   refine ep om (ep om (eb (a := xs.set i ⟨c, (rd_T85 xs i).f1⟩) nw (eb ht ?_)))
   rw [set85_eq xs i _ hi, List.set_set]
   exact hm
  ·rw [hk j om, List.getElem?_set_ne om]
  ·have hyl : ys.length = xs.length := by simpa using hy
   have hri : rd_T85 ys (i : Int) = ⟨c, t⟩ := by
    unfold rd_T85
    rw [toNat_cast, List.getD_eq_getElem?_getD, hk i om, List.getElem?_set_self om]
    rfl
   refine Ev.step (fun k => by rw [laws_heldEntryS.l0]) ?_
   rw [hri, e1, e2, wsucc (n := ys.length) om om]
   exact ep om (ep om (ep rfl (eb ht (ep rfl hh))))
theorem markE2_ev (xs : List S85) (hl : xs.length ≤ 60) (c : Int) (h0 : 0 ≤ c) (h1 : c ≤ 100000000) : ∃ m ys, Ev (fun k => laws_markEntryS.f k xs c) (m, ys) ∧ ys.length = xs.length ∧ 0 ≤ m ∧ m ≤ c + 120 ∧ Ev (fun k => laws_heldEntryS.f k ys c) m := by
 obtain ⟨m, ys, h1, h2, h3, h4, _, h5⟩ := markE2_l xs.length 0 xs c om om h0 om
 exact ⟨m, ys, h1, h2, h3, by omega, h5⟩
theorem rdM_self (xs : List S29) (i : Nat) (v : S29) (h : i < xs.length) : rd_T29 (xs.set i v) (i : Int) = v := by
 unfold rd_T29
 rw [toNat_cast, getD_lt _ _ _ (by simpa using h), List.getElem_set_self]
theorem markM_l (d : Nat) : ∀ (i : Nat) (xs : List S29) (c : Int), xs.length = i + d → xs.length ≤ 5 → (∀ x ∈ xs, x.f8 = []) → 0 ≤ c → c ≤ 20000000 + 200 * (i : Int) →
  ∃ m ys, Ev (fun k => laws_markMsgS.l0 k xs c i) (m, ys) ∧ ys.length = xs.length ∧ 0 ≤ m ∧ (∀ j, j < i → ys[j]? = xs[j]?) ∧ Ev (fun k => laws_heldMsgS.l0 k ys c i) m := by
 induction d with
 | zero =>
  intro i xs c hd hl ho h0 h1
  refine ⟨c, xs, ?_, rfl, h0, fun _ _ => rfl, ?_⟩
  ·refine Ev.step (fun k => by rw [laws_markMsgS.l0]) ?_
   exact en om nw
  ·refine Ev.step (fun k => by rw [laws_heldMsgS.l0]) ?_
   exact en om nw
 | succ d ih =>
  intro i xs c hd hl ho h0 h1
  have hi : i < xs.length := by omega
  have e1 : wrap64 (c + 1) = c + 1 := w64 om om
  have e2 : wrap64 (c + 1 + 1) = c + 2 := by rw [w64 om om]; omega
  have e3 : wrap64 (c + 2 + 1) = c + 3 := by rw [w64 om om]; omega
  have e4 : wrap64 (c + 3 + 1) = c + 4 := by rw [w64 om om]; omega
  have e5 : wrap64 (c + 4 + 1) = c + 5 := by rw [w64 om om]; omega
  have e6 : wrap64 (c + 5 + 1) = c + 6 := by rw [w64 om om]; omega
  have e7 : wrap64 (c + 6 + 1) = c + 7 := by rw [w64 om om]; omega
  have e8 : wrap64 (c + 7 + 1) = c + 8 := by rw [w64 om om]; omega
  have hx : (rd_T29 xs i).f8 = [] := by
   unfold rd_T29
   rw [toNat_cast]
   exact ho _ (getD_mem xs i _ hi)
  have g1 : Ev (fun _ => laws_markEntry0.f [] (c + 8)) (c + 8) := ec (by simp [laws_markEntry0.f])
  have g5 : Ev (fun k => laws_heldEntryS.f k [] (c + 8)) (c + 8) := by
   unfold laws_heldEntryS.f
   refine Ev.step (fun k => by rw [laws_heldEntryS.l0]) ?_
   exact en (by simp) nw
  obtain ⟨w, hw⟩ : ∃ w : S29, w = ⟨c, c + 1, c + 2, c + 3, c + 4, c + 5, c + 6, (Int.tmod (c + 7) 3 == 0), []⟩ := ⟨_, rfl⟩
  obtain ⟨m, ys, hm, hy, hm0, hk, hh⟩ := ih (i + 1) (xs.set i w) (c + 8) (by simp; omega) (by simpa using hl) (fun x hx' => by
   rcases List.mem_or_eq_of_mem_set hx' with q | q
   ·exact ho x q
   ·rw [q, hw]) om om
  refine ⟨m, ys, ?_, by simpa using hy, hm0, fun j hj => ?_, ?_⟩
  ·refine Ev.step (fun k => by rw [laws_markMsgS.l0]) ?_
   refine ep om (ep om ?_)
   rw [toNat_cast]
   simp only [e1, e2, e3, e4, e5, e6, e7, e8, hx]
   have rs : ∀ v : S29, rd_T29 (xs.set i v) (i : Int) = v := fun v => rdM_self xs i v hi
   refine eb nw ?_
   simp only [rs, List.set_set]
   refine eb nw ?_
   simp only [rs, List.set_set]
   refine eb nw ?_
   simp only [rs, List.set_set]
   refine eb nw ?_
   simp only [rs, List.set_set]
   refine eb nw ?_
   simp only [rs, List.set_set]
   refine eb nw ?_
   simp only [rs, List.set_set]
   refine eb nw ?_
   simp only [rs, List.set_set]
   refine eb nw ?_
   simp only [rs, List.set_set]
   refine eb g1 ?_
   rw [wsucc (n := xs.length) hi om, ← hw]
   exact hm
  ·rw [hk j om, List.getElem?_set_ne om]
  ·have hyl : ys.length = xs.length := by simpa using hy
   have hri : rd_T29 ys (i : Int) = w := by
    unfold rd_T29
    rw [toNat_cast, List.getD_eq_getElem?_getD, hk i om, List.getElem?_set_self om]
    rfl
   refine Ev.step (fun k => by rw [laws_heldMsgS.l0]) ?_
   simp only [hri, e1, e2, e3, e4, e5, e6, e7, e8, wsucc (j := i) (n := ys.length) om om]
   rw [hw]
   exact ep om (ep om (ep rfl (ep rfl (ep rfl (ep rfl (ep rfl (ep rfl (ep rfl (en (by simp) (eb g5 (en om hh)))))))))))
theorem markM_ev (xs : List S29) (hl : xs.length ≤ 5) (ho : ∀ x ∈ xs, x.f8 = []) (c : Int) (h0 : 0 ≤ c) (h1 : c ≤ 20000000) : ∃ m ys, Ev (fun k => laws_markMsgS.f k xs c) (m, ys) ∧ 0 ≤ m ∧ Ev (fun k => laws_heldMsgS.f k ys c) m := by
 obtain ⟨m, ys, h1, _, h2, _, h3⟩ := markM_l xs.length 0 xs c om hl ho h0 om
 exact ⟨m, ys, h1, h2, h3⟩
theorem eqMs_l (l : List S29) (hl : l.length ≤ 5) (ho : ∀ x ∈ l, x.f8 = []) (d : Nat) : ∀ (i : Nat), l.length = i + d → Ev (fun k => laws_eqMsgS.l0 k l l i) true := by
 induction d with
 | zero =>
  intro i hd
  refine Ev.step (fun k => by rw [laws_eqMsgS.l0]) ?_
  exact en om nw
 | succ d ih =>
  intro i hd
  have hx : (rd_T29 l i).f8.length ≤ 60 := by
   unfold rd_T29
   rw [toNat_cast, ho _ (getD_mem l i _ om)]
   simp
  have he : Ev (fun k => laws_eqMsg.f k (rd_T29 l i).f0 (rd_T29 l i).f1 (rd_T29 l i).f2 (rd_T29 l i).f3 (rd_T29 l i).f4 (rd_T29 l i).f5 (rd_T29 l i).f6 (rd_T29 l i).f7 (rd_T29 l i).f8 (rd_T29 l i).f0 (rd_T29 l i).f1 (rd_T29 l i).f2 (rd_T29 l i).f3 (rd_T29 l i).f4 (rd_T29 l i).f5 (rd_T29 l i).f6 (rd_T29 l i).f7 (rd_T29 l i).f8) true := by
   unfold laws_eqMsg.f
   exact ep rfl (ep rfl (ep rfl (ep rfl (ep rfl (ep rfl (ep rfl (en (by simp) (eb (eqEntS_ev _ om) (ep rfl nw)))))))))
  refine Ev.step (fun k => by rw [laws_eqMsgS.l0]) ?_
  rw [wsucc (n := l.length) om om]
  exact ep om (ep om (ep om (eb he (ep rfl (ih (i + 1) om)))))
theorem eqMs_ev (l : List S29) (hl : l.length ≤ 5) (ho : ∀ x ∈ l, x.f8 = []) : Ev (fun k => laws_eqMsgS.f k l l) true := by
 unfold laws_eqMsgS.f
 exact ep rfl (eqMs_l l hl ho l.length 0 om)
theorem markNode1_ev (f0 f1 f2 f3 f4 f5 f6 : Int) (l : List S85) (v m : List Int) (hl : l.length ≤ 1048576) (hv : v.length ≤ 1048576) (hm : m.length ≤ 1048576) : ∃ r x y z, Ev (fun k => laws_markNode.f k f0 f1 f2 f3 f4 f5 f6 l v m 1) (r, x, y, z) ∧ 0 ≤ r ∧ r ≤ 20000000 ∧ Ev (fun k => laws_heldNode.f k f0 f1 f2 f3 f4 f5 f6 x y z 1) r := by
 obtain ⟨a, x, hx, _, a0, a1, _, kx⟩ := markE2_l l.length 0 l 1 om hl om om
 obtain ⟨y, hy, _, ky⟩ := markI_ev v hv a a0 om
 obtain ⟨z, hz, _, kz⟩ := markI_ev m hm (a + v.length) om om
 refine ⟨_, x, y, z, eb (a := (a, x)) (eb (a := (a, x)) hx nw) (eb hy (eb hz nw)), by omega, by omega, ?_⟩
 unfold laws_heldNode.f laws_heldRLog.f
 exact eb (a := a) (eb (a := a) kx (en om nw)) (en om (eb ky (en om (eb kz (en om nw)))))

theorem elect_l (N : Nat) (f0 f1 f2 f3 f4 f6 g : Int) (l : List S85) (v m : List Int) (h : rlB 0 f6 l = true) (hn : N ≤ 5) (d : Nat) : ∀ (i : Nat) (xs : List S29), N = i + d → xs.length ≤ i → (∀ x ∈ xs, x.f8 = []) → ∃ ys : List S29, ys.length ≤ 5 ∧ (∀ x ∈ ys, x.f8 = []) ∧ Ev (fun k => impl_Elect.l0 k (l.length : Int) xs (N : Int) i f0 f1 f2 f3 f4 0 f6 l v m f0 g f0 1 f4 0 f6 l [f0] m) (f0, g, f0, 1, f4, 0, f6, l, [f0], m, ys) ∧ Ev (fun k => spec_Elect.l0 k (N : Int) xs i f0 f1 f2 f3 f4 0 f6 l v m f0 g f0 1 f4 0 f6 l [f0] m) (f0, g, f0, 1, f4, 0, f6, l, [f0], m, ys) := by
 obtain ⟨k1, k2, k3, k4, _⟩ := rl_facts h
 have hla := lastS_ev 0 f6 l om
 rw [if_pos h, Int.zero_add] at hla
 have t1 := termI_e h (i := (l.length : Int)) om om
 have t2 := termS_ev h (i := (l.length : Int)) om om
 induction d with
 | zero =>
  intro i xs hd hx ho
  refine ⟨xs, by omega, ho, ?_, ?_⟩
  ·refine Ev.step (fun k => by rw [impl_Elect.l0]) ?_
   exact en om nw
  ·refine Ev.step (fun k => by rw [spec_Elect.l0]) ?_
   exact en om nw
 | succ d ih =>
  intro i xs hd hx ho
  have hi := wsucc (j := i) (n := N) om om
  by_cases e : (i : Int) = f0
  ·obtain ⟨ys, y1, y2, y3, y4⟩ := ih (i + 1) xs om om ho
   refine ⟨ys, y1, y2, ?_, ?_⟩
   ·refine Ev.step (fun k => by rw [impl_Elect.l0]) ?_
    rw [hi]
    exact ep om (ep e y3)
   ·refine Ev.step (fun k => by rw [spec_Elect.l0]) ?_
    rw [hi]
    exact ep om (ep e y4)
  obtain ⟨ys, y1, y2, y3, y4⟩ := ih (i + 1) (xs ++ [⟨0, f0, i, g, l.length, termM 0 f6 l l.length, 0, false, []⟩]) om (by simp; omega) (fun z hz => by
   rcases List.mem_append.1 hz with q | q
   ·exact ho z q
   ·rw [List.mem_singleton] at q; rw [q])
  refine ⟨ys, y1, y2, ?_, ?_⟩
  ·refine Ev.step (fun k => by rw [impl_Elect.l0]) ?_
   rw [hi]
   exact ep om (en e (eb (ec t1) (ep om y3)))
  ·refine Ev.step (fun k => by rw [spec_Elect.l0]) ?_
   rw [hi]
   exact ep om (en e (eb hla (eb hla (eb t2 (ep om y4)))))
theorem elect_ev (n f0 f1 f2 f3 f4 f5 f6 : Int) (l : List S85) (v m : List Int) (hl : l.length ≤ 1048576) (hv : v.length ≤ 1048576) (hm : m.length ≤ 1048576) : ∃ (g1 g2 g3 : Int) (v' m' : List Int) (ys : List S29), v'.length ≤ 1048576 ∧ m'.length ≤ 1048576 ∧ ys.length ≤ 5 ∧ (∀ x ∈ ys, x.f8 = []) ∧ Ev (fun k => impl_Elect.f k f0 f1 f2 f3 f4 f5 f6 l v m n) (f0, g1, g2, g3, f4, f5, f6, l, v', m', ys) ∧ Ev (fun k => spec_Elect.f k f0 f1 f2 f3 f4 f5 f6 l v m n) (f0, g1, g2, g3, f4, f5, f6, l, v', m', ys) := by
 obtain ⟨r, h1, h2, h3⟩ := node_ev n f0 f1 f2 f3 f4 f5 f6 l v m hl hv hm
 have hc := copyNode_e f0 f1 f2 f3 f4 f5 f6 l v m hl hv hm
 have hd := l07Copy_ev f0 f1 f2 f3 f4 f5 f6 l v m hl hv hm
 have i0 : ∀ x : Bool, x = true → Ev (fun k => impl_Elect.j0 k n x f0 f1 f2 f3 f4 f5 f6 l v m f0 f1 f2 f3 f4 f5 f6 l v m) (f0, f1, f2, f3, f4, f5, f6, l, v, m, []) := fun x hx => by
  refine Ev.step (fun k => by rw [impl_Elect.j0]) ?_
  exact ep hx nw
 have s0 : ∀ x : Bool, x = true → Ev (fun k => spec_Elect.j0 k n x f0 f1 f2 f3 f4 f5 f6 l v m f0 f1 f2 f3 f4 f5 f6 l v m) (f0, f1, f2, f3, f4, f5, f6, l, v, m, []) := fun x hx => by
  refine Ev.step (fun k => by rw [spec_Elect.j0]) ?_
  exact ep hx nw
 unfold impl_Elect.f spec_Elect.f
 by_cases h : r = true
 rotate_left
 ·exact ⟨f1, f2, f3, v, m, [], hv, hm, by simp, by simp, eb (ec hc) (eb h2 (en h (i0 _ rfl))), eb hd (eb h1 (en h (s0 _ rfl)))⟩
 by_cases h2' : f3 = 2
 ·exact ⟨f1, f2, f3, v, m, [], hv, hm, by simp, by simp, eb (ec hc) (eb h2 (ep h (ep h2' (i0 _ rfl)))), eb hd (eb h1 (ep h (ep h2' (s0 _ rfl))))⟩
 by_cases h5 : f1 = 1000000
 ·have hb : (f1 == 1000000) = true := beq_iff_eq.mpr h5
  exact ⟨f1, f2, f3, v, m, [], hv, hm, by simp, by simp, eb (ec hc) (eb h2 (ep h (en h2' (i0 _ hb)))), eb hd (eb h1 (ep h (en h2' (s0 _ hb))))⟩
 have hb : (f1 == 1000000) = false := beq_eq_false_iff_ne.mpr h5
 have P := h3.1 h
 have hbase : f5 = 0 := P.base
 subst hbase
 have hn := P.size
 have hid := P.id
 obtain ⟨k1, k2, k3, k4, _⟩ := rl_facts P.log
 have hlI : impl_RLog_last.f 0 f6 l = some (l.length : Int) := by
  unfold impl_RLog_last.f
  rw [w64 om om, Int.zero_add]
 by_cases e : n = 1
 ·subst e
  have hf : f0 = 0 := by omega
  subst hf
  have hla := lastS_ev 0 f6 l om
  rw [if_pos P.log, Int.zero_add] at hla
  have hL : Ev (fun k => spec_l07Lead.f k 0 (wrap64 (f1 + 1)) 0 f3 f4 0 f6 l v m 1) (0, wrap64 (f1 + 1), 0, 2, f4, 0, f6, l, [], [(l.length : Int)]) := by
   unfold spec_l07Lead.f
   exact ep om (ep (by decide) (eb (a := [0]) nw (eb hla (ep om (ep (by simp) nw)))))
  have hM : impl_Node_lead.f 0 (wrap64 (f1 + 1)) 0 1 f4 0 f6 l [0] m 1 = some [(l.length : Int)] := by
   unfold impl_Node_lead.f
   rw [if_pos om, if_pos (by decide), if_pos om, if_pos (by decide), w64 om om, Int.zero_add]
   rfl
  refine ⟨wrap64 (f1 + 1), 0, 2, [], [(l.length : Int)], [], by simp, by simp, by simp, by simp, eb (ec hc) (eb h2 (ep h (en h2' ?_))), eb hd (eb h1 (ep h (en h2' ?_)))⟩
  ·refine Ev.step (fun k => by rw [impl_Elect.j0]) ?_
   exact en (by rw [hb]; simp) (eb (a := [0]) nw (ep rfl (eb (ec hM) nw)))
  ·refine Ev.step (fun k => by rw [spec_Elect.j0]) ?_
   exact en (by rw [hb]; simp) (ep rfl (eb hL nw))
 obtain ⟨N, hN⟩ : ∃ N : Nat, n = (N : Int) := ⟨n.toNat, by omega⟩
 subst hN
 obtain ⟨ys, y1, y2, y3, y4⟩ := elect_l N f0 f1 f2 f3 f4 f6 (wrap64 (f1 + 1)) l v m P.log om N 0 [] om (by simp) (by simp)
 refine ⟨wrap64 (f1 + 1), f0, 1, [f0], m, ys, by simp, hm, y1, y2, eb (ec hc) (eb h2 (ep h (en h2' ?_))), eb hd (eb h1 (ep h (en h2' ?_)))⟩
 ·refine Ev.step (fun k => by rw [impl_Elect.j0]) ?_
  exact en (by rw [hb]; simp) (eb (a := [f0]) nw (en e (eb (ec hlI) y3)))
 ·refine Ev.step (fun k => by rw [spec_Elect.j0]) ?_
  exact en (by rw [hb]; simp) (en e y4)

theorem FnExactElect : Stated := by
 rintro ⟨f0, f1, f2, f3, f4, ⟨f5, f6, l0⟩, v, m⟩ n ⟨_, _, _, _, _, ⟨_, _, wl, we⟩, ⟨wv, _⟩, ⟨wm, _⟩⟩ _
 refine Ev.rounds (?_ : Ev (fun k => laws_FnExactElect.f k f0 f1 f2 f3 f4 f5 f6 l0 v m n) true)
 obtain ⟨r, hr, r1⟩ := szNode_ev f0 f1 f2 f3 f4 f5 f6 l0 v m wl (fun x hx => (we x hx).2) wv wm
 unfold laws_FnExactElect.f
 by_cases h0 : r < 0
 ·exact eb hr (ep h0 nw)
 obtain ⟨hl0, hv, hm⟩ := r1 h0
 have hT := toNode_ev f0 f1 f2 f3 f4 f5 f6 l0 v m hl0 hv hm
 have hl' : (l0.map conv).length ≤ 1048576 := by simpa using hl0
 obtain ⟨l, hlE⟩ : ∃ l, l = l0.map conv := ⟨_, rfl⟩
 rw [← hlE] at hT hl'
 obtain ⟨g1, g2, g3, v', m', ys, hv', hm', y1, y2, hi, hs⟩ := elect_ev n f0 f1 f2 f3 f4 f5 f6 l v m hl' hv hm
 have hE := eqNode_ev f0 g1 g2 g3 f4 f5 f6 l v' m' hl' hv' hm'
 have hE0 := eqNode_ev f0 f1 f2 f3 f4 f5 f6 l v m hl' hv hm
 have hY := eqMs_ev ys y1 y2
 obtain ⟨a, _, _, _, hM, a0, _, _⟩ := markNode1_ev f0 f1 f2 f3 f4 f5 f6 l v m hl' hv hm
 obtain ⟨b, x, y, z, hM', b0, b1, hH⟩ := markNode1_ev f0 g1 g2 g3 f4 f5 f6 l v' m' hl' hv' hm'
 obtain ⟨c, zs, hN', c0, hK⟩ := markM_ev ys y1 y2 b b0 b1
 refine eb hr (en h0 (eb hT (eb hs (eb hT (eb hi (eb hE (ep rfl (eb hY (ep rfl (eb hT (eb hE0 (ep rfl (eb hM ?_)))))))))))))
 refine en (by show ¬ a < 0; omega) (eb hE (ep rfl (eb hY (ep rfl (eb hM' (eb hN' (eb hH (en om (eb hK (en om (ep rfl ?_)))))))))))
 exact eb hT (eb hi (eb hE (ep rfl (eb hY (ep rfl (eb hH (en om (eb hK (en om (ep rfl nw))))))))))

end Go.Proofs.Ytkcadcoohmofcaa.Pure
