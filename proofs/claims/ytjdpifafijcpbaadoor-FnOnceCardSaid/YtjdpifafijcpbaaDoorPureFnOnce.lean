/- The law FnOnce answers true at every input. No condition. -/
import Derived.Test.YtjdpifafijcpbaaDoorOpnFnOnce
import Derived.Test.YtjdpifafijcpbaaDoorBase
namespace Go.Proofs.YtjdpifafijcpbaaDoor.Pure
open Go.RowKit Go.Proofs.YtjdpifafijcpbaaDoor.QFnOnce Go.Proofs.YtjdpifafijcpbaaDoor.OpnFnOnce Go.Proofs.YtjdpifafijcpbaaDoor.Base Go.Proofs.YtjdpifafijcpbaaDoorW.PrintWords Go.Proofs.YtjdpifafijcpbaaDoorW.PrintLast
set_option linter.unusedVariables false
set_option linter.unusedSimpArgs false

def wfS (x : S54) : Prop := (-9223372036854775808 ≤ x.f0 ∧ x.f0 ≤ 9223372036854775807) ∧ (-9223372036854775808 ≤ x.f1 ∧ x.f1 ≤ 9223372036854775807) ∧ (-9223372036854775808 ≤ x.f2 ∧ x.f2 ≤ 9223372036854775807)
theorem wf_at {l : List S54} (h : ∀ x ∈ l, wfS x) (j : Nat) (hj : j < l.length) : wfS (rd_T54 l j) := by
  unfold rd_T54
  rw [toNat_cast]
  exact h _ (getD_mem l j z54 hj)
theorem in_eq (x a b : Int) : spec_l01In.f x a b = some (decide (a ≤ x ∧ x ≤ b)) := by
  unfold spec_l01In.f
  by_cases h : a ≤ x <;> simp [h]
/-- What is asked of session j. -/
def SP (now : Int) (l : List S54) (j : Nat) : Prop :=
  (1 ≤ (rd_T54 l j).f0 ∧ (rd_T54 l j).f0 ≤ 999) ∧ (1 ≤ (rd_T54 l j).f1 ∧ (rd_T54 l j).f1 ≤ 1000000) ∧ (1 ≤ (rd_T54 l j).f2 ∧ (rd_T54 l j).f2 ≤ now) ∧ (rd_T54 l j).f3.size ≤ 40 ∧ (0 < j → (rd_T54 l (j - 1 : Nat)).f0 < (rd_T54 l j).f0) ∧ (∀ i : Nat, i < j → (rd_T54 l i).f2 ≠ (rd_T54 l j).f2)
/-- Sessions as they should be. -/
def SessP (cap now : Int) (l : List S54) : Prop := (1 ≤ cap ∧ cap ≤ 12) ∧ (0 ≤ now ∧ now ≤ 1000000) ∧ (l.length : Int) ≤ cap ∧ ∀ j, j < l.length → SP now l j

abbrev pc (c : Int) (y : S54) : Bool := y.f0 == c
/-- The session of a client, a blank one if it has none. -/
def lastOf (l : List S54) (c : Int) : S54 := (l.find? (pc c)).getD z54
def tup (y : S54) : Int × Int × Int × ByteArray := (y.f0, y.f1, y.f2, y.f3)
theorem l09Find_l (cap now c : Int) (l : List S54) (hl : l.length ≤ 1048576) (d : Nat) : ∀ i : Nat, l.length = i + d → Ev (fun k => spec_l09Find.l0 k c i cap now l) (tup (((l.drop i).find? (pc c)).getD z54)) := by
  induction d with
  | zero =>
    intro i hd
    refine Ev.step (fun k => by rw [spec_l09Find.l0]) ?_
    refine ev_neg (by omega) ?_
    rw [List.drop_of_length_le (by omega)]
    exact Ev.now _
  | succ d ih =>
    intro i hd
    have hi : i < l.length := by omega
    refine Ev.step (fun k => by rw [spec_l09Find.l0]) ?_
    rw [List.drop_eq_getElem_cons hi, List.find?_cons]
    have e : rd_T54 l i = l[i] := by
      unfold rd_T54
      rw [toNat_cast, getD_lt _ _ _ hi]
    rw [e, wsucc (n := l.length) (by omega) (by omega)]
    by_cases h : l[i].f0 = c
    · rw [show pc c l[i] = true by simp [pc, h]]
      exact ev_pos (by omega) (ev_pos (by omega) (ev_pos h (Ev.now _)))
    · rw [show pc c l[i] = false by simp [pc, h]]
      exact ev_pos (by omega) (ev_pos (by omega) (ev_neg h (ih (i + 1) (by omega))))
theorem l09Find_ev (cap now c : Int) (l : List S54) (hl : l.length ≤ 1048576) : Ev (fun k => spec_l09Find.f k cap now l c) (tup (lastOf l c)) := l09Find_l cap now c l hl l.length 0 (by omega)
theorem idx_cases (l : List S54) (c : Int) : (∃ i : Nat, i < l.length ∧ Go.Proofs.YtjdpifafijcpbaaDoor.Slc.idxB (pc c) l = (i : Int) ∧ (rd_T54 l i).f0 = c ∧ lastOf l c = rd_T54 l i ∧ ∀ j : Nat, j < i → (rd_T54 l j).f0 ≠ c) ∨ (Go.Proofs.YtjdpifafijcpbaaDoor.Slc.idxB (pc c) l = -1 ∧ lastOf l c = z54 ∧ ∀ j : Nat, j < l.length → (rd_T54 l j).f0 ≠ c) := by
  have rdE : ∀ j : Nat, (h : j < l.length) → rd_T54 l j = l[j] := fun j h => by
    unfold rd_T54
    rw [toNat_cast, getD_lt _ _ _ h]
  unfold Go.Proofs.YtjdpifafijcpbaaDoor.Slc.idxB lastOf
  cases h : l.findIdx? (pc c) with
  | none =>
    right
    rw [List.findIdx?_eq_none_iff] at h
    refine ⟨rfl, ?_, fun j hj => ?_⟩
    · rw [List.find?_eq_none.2 (fun x hx => by rw [h x hx]; decide)]
      rfl
    · rw [rdE j hj]
      have := h _ (List.getElem_mem hj)
      simpa [pc] using this
  | some i =>
    left
    obtain ⟨hi, h1, h2⟩ := List.findIdx?_eq_some_iff_getElem.1 h
    have hp : l[i].f0 = c := by simpa [pc] using h1
    refine ⟨i, hi, rfl, by rw [rdE i hi]; exact hp, ?_, fun j hj => ?_⟩
    · rw [List.find?_eq_some_iff_getElem.2 ⟨h1, i, hi, rfl, fun j hj => by simpa using h2 j hj⟩, rdE i hi]
      rfl
    · rw [rdE j (by omega)]
      have := h2 j hj
      simpa [pc] using this

theorem sorted {now cap : Int} {l : List S54} (h : SessP cap now l) : ∀ d i, i + d + 1 < l.length → (rd_T54 l i).f0 < (rd_T54 l (i + d + 1 : Nat)).f0 := by
  intro d
  induction d with
  | zero =>
    intro i hi
    exact (h.2.2.2 (i + 1) hi).2.2.2.2.1 (by omega)
  | succ d ih =>
    intro i hi
    have h1 := ih i (by omega)
    have h2 := (h.2.2.2 (i + d + 2) (by omega)).2.2.2.2.1 (by omega)
    have e : i + d + 2 - 1 = i + d + 1 := by omega
    rw [e] at h2
    have e2 : i + (d + 1) + 1 = i + d + 2 := by omega
    rw [e2]
    omega
theorem sorted_lt {now cap : Int} {l : List S54} (h : SessP cap now l) {i j : Nat} (hij : i < j) (hj : j < l.length) : (rd_T54 l i).f0 < (rd_T54 l j).f0 := by
  have := sorted h (j - i - 1) i (by omega)
  have e : i + (j - i - 1) + 1 = j := by omega
  rwa [e] at this
theorem rdE (l : List S54) (j : Nat) (h : j < l.length) : rd_T54 l j = l[j] := by
  unfold rd_T54
  rw [toNat_cast, getD_lt _ _ _ h]
abbrev ne (c : Int) (y : S54) : Bool := !(y.f0 == c)
/-- The rest of a put, once what was to be put has been. -/
theorem put_true (cap now : Int) (l : List S54) (hl : l.length ≤ 1048576) (x c0 c1 c2 : Int) (c3 : ByteArray) (oc on_ : Int) (d : Nat) : ∀ (i : Nat) (acc : List S54), l.length = i + d → acc.length ≤ 1048576 + i → Ev (fun k => spec_l09Put.l0 k x true i cap now l c0 c1 c2 c3 oc on_ acc) (oc, on_, acc ++ (l.drop i).filter (ne x)) := by
  induction d with
  | zero =>
    intro i acc hd ha
    refine Ev.step (fun k => by rw [spec_l09Put.l0]) ?_
    refine ev_neg (by omega) (ev_pos rfl ?_)
    rw [List.drop_of_length_le (by omega), List.filter_nil, List.append_nil]
    exact Ev.now _
  | succ d ih =>
    intro i acc hd ha
    have hi : i < l.length := by omega
    refine Ev.step (fun k => by rw [spec_l09Put.l0]) ?_
    refine ev_pos (by omega) (ev_pos rfl ?_)
    refine Ev.step (fun k => by rw [spec_l09Put.j1]) ?_
    rw [wsucc (n := l.length) (by omega) (by omega), List.drop_eq_getElem_cons hi, List.filter_cons]
    refine ev_neg (by simp) (ev_pos (by omega) (ev_pos (by omega) ?_))
    by_cases h : (rd_T54 l i).f0 = x
    · rw [if_neg (by rw [← rdE l i hi]; simp [ne, h])]
      exact ev_pos h (ih (i + 1) acc (by omega) (by omega))
    · rw [if_pos (by rw [← rdE l i hi]; simp [ne, h])]
      refine ev_neg h (ev_pos (by omega) ?_)
      have := ih (i + 1) (acc ++ [rd_T54 l i]) (by omega) (by simp; omega)
      rw [List.append_assoc, List.singleton_append, rdE l i hi] at this
      rw [rdE l i hi]
      exact this
/-- A put of a session at its place. -/
theorem put_false (cap now : Int) (l : List S54) (hl : l.length ≤ 1048576) (x : Int) (s : S54) (oc on_ : Int) (p : Nat) (hp : p ≤ l.length) (hlo : ∀ j : Nat, j < p → (rd_T54 l j).f0 ≤ s.f0) (hhi : p < l.length → s.f0 < (rd_T54 l p).f0) (d : Nat) : ∀ (i : Nat) (acc : List S54), i + d = p → acc.length ≤ i → Ev (fun k => spec_l09Put.l0 k x false i cap now l s.f0 s.f1 s.f2 s.f3 oc on_ acc) (oc, on_, acc ++ ((l.take p).drop i).filter (ne x) ++ s :: (l.drop p).filter (ne x)) := by
  induction d with
  | zero =>
    intro i acc hd ha
    obtain rfl : i = p := by omega
    refine Ev.step (fun k => by rw [spec_l09Put.l0]) ?_
    rw [List.drop_of_length_le (l := l.take i) (by rw [List.length_take]; omega), List.filter_nil, List.append_nil]
    by_cases hn : i < l.length
    · refine ev_pos (by omega) (ev_neg (by simp) (ev_pos (by omega) ?_))
      refine Ev.step (fun k => by rw [spec_l09Put.j1]) ?_
      have hh := hhi hn
      refine ev_pos (decide_eq_true (by omega)) (ev_pos (by omega) (Ev.bind (Ev.now _) (ev_pos (by omega) (ev_pos (by omega) ?_))))
      rw [wsucc (n := l.length) (by omega) (by omega), List.drop_eq_getElem_cons hn, List.filter_cons]
      have pt := fun acc' ha' => put_true cap now l hl x s.f0 s.f1 s.f2 s.f3 oc on_ (l.length - (i + 1)) (i + 1) acc' (by omega) ha'
      by_cases h : (rd_T54 l i).f0 = x
      · rw [if_neg (by rw [← rdE l i hn]; simp [ne, h])]
        refine ev_pos h ?_
        have := pt (acc ++ [s]) (by simp; omega)
        rw [List.append_assoc, List.singleton_append] at this
        exact this
      · rw [if_pos (by rw [← rdE l i hn]; simp [ne, h])]
        refine ev_neg h (ev_pos (by simp; omega) ?_)
        have := pt (acc ++ [s] ++ [rd_T54 l i]) (by simp; omega)
        have e : acc ++ [s] ++ [rd_T54 l i] ++ (l.drop (i + 1)).filter (ne x) = acc ++ s :: l[i] :: (l.drop (i + 1)).filter (ne x) := by rw [rdE l i hn]; simp
        rw [e] at this
        exact this
    · refine ev_neg (by omega) (ev_neg (by simp) (ev_pos (by omega) ?_))
      rw [List.drop_of_length_le (by omega), List.filter_nil]
      exact Ev.now _
  | succ d ih =>
    intro i acc hd ha
    have hi : i < l.length := by omega
    have hh := hlo i (by omega)
    refine Ev.step (fun k => by rw [spec_l09Put.l0]) ?_
    refine ev_pos (by omega) (ev_neg (by simp) (ev_pos (by omega) ?_))
    refine Ev.step (fun k => by rw [spec_l09Put.j1]) ?_
    rw [wsucc (n := l.length) (by omega) (by omega)]
    have ht : i < (l.take p).length := by rw [List.length_take]; omega
    rw [List.drop_eq_getElem_cons ht, List.filter_cons, List.getElem_take]
    refine ev_neg (by simp; omega) (ev_pos (by omega) (ev_pos (by omega) ?_))
    by_cases h : (rd_T54 l i).f0 = x
    · rw [if_neg (by rw [← rdE l i hi]; simp [ne, h])]
      exact ev_pos h (ih (i + 1) acc (by omega) (by omega))
    · rw [if_pos (by rw [← rdE l i hi]; simp [ne, h])]
      refine ev_neg h (ev_pos (by omega) ?_)
      have := ih (i + 1) (acc ++ [rd_T54 l i]) (by omega) (by simp; omega)
      rw [List.append_assoc acc, List.singleton_append, rdE l i hi] at this
      rw [rdE l i hi]
      exact this
theorem copy_l (cap now : Int) (l : List S54) (hl : l.length ≤ 1048576) (oc on_ : Int) (d : Nat) : ∀ i : Nat, l.length = i + d → Ev (fun k => spec_l09Copy.l0 k i cap now l oc on_ (l.take i)) (oc, on_, l) := by
  induction d with
  | zero =>
    intro i hd
    refine Ev.step (fun k => by rw [spec_l09Copy.l0]) ?_
    refine ev_neg (by omega) ?_
    rw [List.take_of_length_le (by omega)]
    exact Ev.now _
  | succ d ih =>
    intro i hd
    refine Ev.step (fun k => by rw [spec_l09Copy.l0]) ?_
    have h1 := List.length_take_le i l
    refine ev_pos (by omega) (ev_pos (by omega) (ev_pos (by omega) ?_))
    rw [wsucc (n := l.length) (by omega) (by omega)]
    have := ih (i + 1) (by omega)
    rw [take_succ_getD l i z54 (by omega)] at this
    unfold rd_T54
    rw [toNat_cast]
    exact this
theorem l09Copy_ev (cap now : Int) (l : List S54) (hl : l.length ≤ 1048576) : Ev (fun k => spec_l09Copy.f k cap now l) (cap, now, l) := copy_l cap now l hl cap now l.length 0 (by omega)
theorem copyS_ev (cap now : Int) (l : List S54) (hl : l.length ≤ 1048576) : impl_copySessions.f cap now l = some (cap, now, l) := by
  unfold impl_copySessions.f
  show (if ([] : List S54).length + l.length < 3518437208883 then some (cap, now, [] ++ l) else none) = _
  rw [if_pos (by simp; omega), List.nil_append]
/-- All but the one of a client. -/
theorem filter_erase {cap now : Int} {l : List S54} (h : SessP cap now l) {j : Nat} (hj : j < l.length) : l.filter (ne (rd_T54 l j).f0) = l.eraseIdx j := by
  have hk : ∀ q : Nat, (hq : q < l.length) → q ≠ j → ne (rd_T54 l j).f0 l[q] = true := fun q hq hn => by
    have : (rd_T54 l q).f0 ≠ (rd_T54 l j).f0 := fun e => by
      rcases Nat.lt_or_gt_of_ne hn with h1 | h1
      · have := sorted_lt h h1 hj; omega
      · have := sorted_lt h h1 hq; omega
    rw [rdE l q hq] at this
    simp [ne, this]
  obtain ⟨u, hu⟩ : ∃ u, u = (rd_T54 l j).f0 := ⟨_, rfl⟩
  have huj : ¬ ne u l[j] = true := by rw [hu, rdE l j hj]; simp [ne]
  rw [← hu] at hk ⊢
  clear hu
  rw [List.eraseIdx_eq_take_drop_succ]
  conv => lhs; rw [← List.take_append_drop j l, List.drop_eq_getElem_cons hj, List.filter_append, List.filter_cons]
  rw [if_neg huj]
  congr 1
  · rw [List.filter_eq_self]
    intro x hx
    obtain ⟨q, hq, rfl⟩ := List.mem_iff_getElem.1 hx
    have hq' : q < j := by have := hq; rw [List.length_take] at this; omega
    rw [List.getElem_take]
    exact hk q (by omega) (by omega)
  · rw [List.filter_eq_self]
    intro x hx
    obtain ⟨q, hq, rfl⟩ := List.mem_iff_getElem.1 hx
    have hq' : j + 1 + q < l.length := by have := hq; rw [List.length_drop] at this; omega
    rw [List.getElem_drop]
    exact hk _ hq' (by omega)

theorem specS_1 (cap now : Int) (l : List S54) (hl : l.length ≤ 1048576) (j : Nat) (hj : j < l.length) (a b u : Int) (t : ByteArray) (d : Nat) : ∀ i : Nat, i + d = j →
    ((∀ q : Nat, i ≤ q → q < j → (rd_T54 l q).f2 ≠ u) → ∀ r, Ev (fun k => spec_SessionsOk.l0 k ((j + 1 : Nat) : Int) cap now l) r → Ev (fun k => spec_SessionsOk.l1 k j i cap now l a b u t) r) ∧
    ((∃ q : Nat, i ≤ q ∧ q < j ∧ (rd_T54 l q).f2 = u) → Ev (fun k => spec_SessionsOk.l1 k j i cap now l a b u t) false) := by
  have hwj : wrap64 ((j : Int) + 1) = ((j + 1 : Nat) : Int) := wsucc (n := l.length) (by omega) (by omega)
  induction d with
  | zero =>
    intro i hd
    refine ⟨fun _ r hr => ?_, fun ⟨q, h1, h2, _⟩ => by omega⟩
    refine Ev.step (fun k => by rw [spec_SessionsOk.l1]) ?_
    rw [hwj]
    exact ev_neg (by omega) hr
  | succ d ih =>
    intro i hd
    obtain ⟨i1, i2⟩ := ih (i + 1) (by omega)
    have hwi : wrap64 ((i : Int) + 1) = ((i + 1 : Nat) : Int) := wsucc (n := l.length) (by omega) (by omega)
    refine ⟨fun h r hr => ?_, fun h => ?_⟩
    · refine Ev.step (fun k => by rw [spec_SessionsOk.l1]) ?_
      rw [hwi]
      exact ev_pos (by omega) (ev_pos (by omega) (ev_pos (by omega) (ev_neg (h i (by omega) (by omega)) (i1 (fun q h1 h2 => h q (by omega) h2) r hr))))
    · refine Ev.step (fun k => by rw [spec_SessionsOk.l1]) ?_
      rw [hwi]
      by_cases e : (rd_T54 l i).f2 = u
      · exact ev_pos (by omega) (ev_pos (by omega) (ev_pos (by omega) (ev_pos e (Ev.now _))))
      · refine ev_pos (by omega) (ev_pos (by omega) (ev_pos (by omega) (ev_neg e (i2 ?_))))
        obtain ⟨q, h1, h2, h3⟩ := h
        refine ⟨q, ?_, h2, h3⟩
        by_cases e2 : q = i
        · subst e2; exact absurd h3 e
        · omega
theorem specS_0 (cap now : Int) (l : List S54) (hl : l.length ≤ 1048576) (d : Nat) : ∀ j : Nat, l.length = j + d → ∃ b, Ev (fun k => spec_SessionsOk.l0 k j cap now l) b ∧ (b = true ↔ ∀ i : Nat, j ≤ i → i < l.length → SP now l i) := by
  induction d with
  | zero =>
    intro j hd
    refine ⟨true, ?_, ⟨fun _ i h1 h2 => by omega, fun _ => rfl⟩⟩
    refine Ev.step (fun k => by rw [spec_SessionsOk.l0]) ?_
    exact ev_neg (by omega) (Ev.now _)
  | succ d ih =>
    intro j hd
    obtain ⟨b, hb, hi⟩ := ih (j + 1) (by omega)
    have hj : j < l.length := by omega
    have bad : ∀ (b0 : Bool) (a0 a1 a2 : Int) (a3 : ByteArray), b0 = true → Ev (fun k => spec_SessionsOk.j2 k j b0 cap now l a0 a1 a2 a3) false := fun b0 a0 a1 a2 a3 h => by
      refine Ev.step (fun k => by rw [spec_SessionsOk.j2]) ?_
      exact ev_pos h (Ev.now _)
    have hf : ∀ {p : Prop}, ¬ p → (SP now l j → p) → (false = true ↔ ∀ i : Nat, j ≤ i → i < l.length → SP now l i) := fun hn hp => ⟨fun h => by simp at h, fun h => absurd (hp (h j (Nat.le_refl _) hj)) hn⟩
    have hstep : ∀ r, Ev (fun k => if (j : Int) < (l.length : Int) then (if 0 ≤ (j : Int) then (if (1 ≤ (rd_T54 l j).f0 ∧ (rd_T54 l j).f0 ≤ 999) then (if (1 ≤ (rd_T54 l j).f1 ∧ (rd_T54 l j).f1 ≤ 1000000) then (if (1 ≤ (rd_T54 l j).f2 ∧ (rd_T54 l j).f2 ≤ now) then (if ((rd_T54 l j).f3.size : Int) > 40 then (spec_SessionsOk.j2 k j true cap now l ((rd_T54 l j).f0) ((rd_T54 l j).f1) ((rd_T54 l j).f2) ((rd_T54 l j).f3)) else (if (j : Int) > 0 then (if 0 ≤ (wrap64 ((j : Int) - 1)) then (if (wrap64 ((j : Int) - 1)) < (l.length : Int) then (spec_SessionsOk.j2 k j (decide (((rd_T54 l (wrap64 ((j : Int) - 1))).f0) ≥ ((rd_T54 l j).f0))) cap now l ((rd_T54 l j).f0) ((rd_T54 l j).f1) ((rd_T54 l j).f2) ((rd_T54 l j).f3)) else (none)) else (none)) else (spec_SessionsOk.j2 k j false cap now l ((rd_T54 l j).f0) ((rd_T54 l j).f1) ((rd_T54 l j).f2) ((rd_T54 l j).f3)))) else (spec_SessionsOk.j2 k j true cap now l ((rd_T54 l j).f0) ((rd_T54 l j).f1) ((rd_T54 l j).f2) ((rd_T54 l j).f3))) else (spec_SessionsOk.j2 k j true cap now l ((rd_T54 l j).f0) ((rd_T54 l j).f1) ((rd_T54 l j).f2) ((rd_T54 l j).f3))) else (spec_SessionsOk.j2 k j true cap now l ((rd_T54 l j).f0) ((rd_T54 l j).f1) ((rd_T54 l j).f2) ((rd_T54 l j).f3))) else none) else some true) r → Ev (fun k => spec_SessionsOk.l0 k j cap now l) r := fun r h => by
      refine Ev.step (fun k => by rw [spec_SessionsOk.l0]) ?_
      simp only [in_eq, Option.bind_some, decide_eq_true_eq]
      exact h
    by_cases h1 : 1 ≤ (rd_T54 l j).f0 ∧ (rd_T54 l j).f0 ≤ 999
    rotate_left
    · exact ⟨false, hstep _ (ev_pos (by omega) (ev_pos (by omega) (ev_neg h1 (bad _ _ _ _ _ rfl)))), hf h1 fun h => h.1⟩
    by_cases h2 : 1 ≤ (rd_T54 l j).f1 ∧ (rd_T54 l j).f1 ≤ 1000000
    rotate_left
    · exact ⟨false, hstep _ (ev_pos (by omega) (ev_pos (by omega) (ev_pos h1 (ev_neg h2 (bad _ _ _ _ _ rfl))))), hf h2 fun h => h.2.1⟩
    by_cases h3 : 1 ≤ (rd_T54 l j).f2 ∧ (rd_T54 l j).f2 ≤ now
    rotate_left
    · exact ⟨false, hstep _ (ev_pos (by omega) (ev_pos (by omega) (ev_pos h1 (ev_pos h2 (ev_neg h3 (bad _ _ _ _ _ rfl)))))), hf h3 fun h => h.2.2.1⟩
    by_cases h4 : ((rd_T54 l j).f3.size : Int) > 40
    · exact ⟨false, hstep _ (ev_pos (by omega) (ev_pos (by omega) (ev_pos h1 (ev_pos h2 (ev_pos h3 (ev_pos h4 (bad _ _ _ _ _ rfl))))))), hf (p := (rd_T54 l j).f3.size ≤ 40) (by omega) fun h => h.2.2.2.1⟩
    have pre : ∀ (b0 : Bool) r, (0 < j → b0 = decide ((rd_T54 l (j - 1 : Nat)).f0 ≥ (rd_T54 l j).f0)) → (j = 0 → b0 = false) → Ev (fun k => spec_SessionsOk.j2 k j b0 cap now l ((rd_T54 l j).f0) ((rd_T54 l j).f1) ((rd_T54 l j).f2) ((rd_T54 l j).f3)) r → Ev (fun k => spec_SessionsOk.l0 k j cap now l) r := fun b0 r hb1 hb2 h => by
      refine hstep _ (ev_pos (by omega) (ev_pos (by omega) (ev_pos h1 (ev_pos h2 (ev_pos h3 (ev_neg h4 ?_))))))
      by_cases h0 : j = 0
      · rw [hb2 h0] at h
        exact ev_neg (by omega) h
      · rw [wpred (by omega) (by omega), ← hb1 (by omega)]
        exact ev_pos (by omega) (ev_pos (by omega) (ev_pos (by omega) h))
    by_cases h5 : 0 < j → (rd_T54 l (j - 1 : Nat)).f0 < (rd_T54 l j).f0
    rotate_left
    · have h0 : 0 < j := by
        apply Classical.byContradiction
        intro hn; exact h5 fun h => absurd h hn
      have h6 : ¬ (rd_T54 l (j - 1 : Nat)).f0 < (rd_T54 l j).f0 := fun h => h5 fun _ => h
      exact ⟨false, pre true _ (fun h => (decide_eq_true (by omega)).symm) (fun h => by omega) (bad _ _ _ _ _ rfl), hf h5 fun h => h.2.2.2.2.1⟩
    have hpre := fun r => pre false r (fun h => (decide_eq_false (by have := h5 h; omega)).symm) (fun _ => rfl)
    have hgo : ∀ r, Ev (fun k => spec_SessionsOk.l1 k j ((0 : Nat) : Int) cap now l ((rd_T54 l j).f0) ((rd_T54 l j).f1) ((rd_T54 l j).f2) ((rd_T54 l j).f3)) r → Ev (fun k => spec_SessionsOk.l0 k j cap now l) r := fun r h => hpre r (by
      refine Ev.step (fun k => by rw [spec_SessionsOk.j2]) ?_
      exact ev_neg (by simp) h)
    obtain ⟨g1, g2⟩ := specS_1 cap now l hl j hj ((rd_T54 l j).f0) ((rd_T54 l j).f1) ((rd_T54 l j).f2) ((rd_T54 l j).f3) j 0 (by omega)
    by_cases h6 : ∀ q : Nat, q < j → (rd_T54 l q).f2 ≠ (rd_T54 l j).f2
    · refine ⟨b, hgo _ (g1 (fun q _ hq => h6 q hq) b hb), ?_⟩
      rw [hi]
      constructor
      · intro h i h7 h8
        by_cases e : i = j
        · subst e; exact ⟨h1, h2, h3, by omega, h5, h6⟩
        · exact h i (by omega) h8
      · intro h i h7 h8; exact h i (by omega) h8
    · refine ⟨false, hgo _ (g2 ?_), hf h6 fun h => h.2.2.2.2.2⟩
      apply Classical.byContradiction
      intro hn
      exact h6 fun q hq e => hn ⟨q, by omega, hq, e⟩
theorem specSess_ev (cap now : Int) (l : List S54) (hl : l.length ≤ 1048576) : ∃ b, Ev (fun k => spec_SessionsOk.f k cap now l) b ∧ (b = true ↔ SessP cap now l) := by
  have bad : ∀ b0 : Bool, b0 = true → Ev (fun k => spec_SessionsOk.j0 k b0 cap now l) false := fun b0 h => by
    refine Ev.step (fun k => by rw [spec_SessionsOk.j0]) ?_
    exact ev_pos h (Ev.now _)
  unfold spec_SessionsOk.f
  simp only [in_eq, Option.bind_some, decide_eq_true_eq]
  by_cases h1 : 1 ≤ cap ∧ cap ≤ 12
  rotate_left
  · exact ⟨false, ev_neg h1 (bad _ rfl), ⟨fun h => by simp at h, fun h => absurd h.1 h1⟩⟩
  by_cases h2 : 0 ≤ now ∧ now ≤ 1000000
  rotate_left
  · exact ⟨false, ev_pos h1 (ev_neg h2 (bad _ rfl)), ⟨fun h => by simp at h, fun h => absurd h.2.1 h2⟩⟩
  by_cases h3 : (l.length : Int) > cap
  · exact ⟨false, ev_pos h1 (ev_pos h2 (bad _ (decide_eq_true h3))), ⟨fun h => by simp at h, fun h => absurd h.2.2.1 (by omega)⟩⟩
  obtain ⟨b, hb, hi⟩ := specS_0 cap now l hl l.length 0 (by omega)
  refine ⟨b, ev_pos h1 (ev_pos h2 ?_), ?_⟩
  · refine Ev.step (fun k => by rw [spec_SessionsOk.j0]) ?_
    exact ev_neg (by simpa using h3) hb
  · rw [hi]
    exact ⟨fun h => ⟨h1, h2, by omega, fun j hj => h j (by omega) hj⟩, fun h i _ hi => h.2.2.2 i hi⟩

theorem any_take (l : List S54) (j : Nat) (hj : j ≤ l.length) (a b u : Int) (t : ByteArray) : impl_Session_54.f (l.take j) a b u t = some (decide (∃ q : Nat, q < j ∧ (rd_T54 l q).f2 = u)) := by
  unfold impl_Session_54.f
  congr 1
  rw [Bool.eq_iff_iff, List.any_eq_true, decide_eq_true_iff]
  constructor
  · rintro ⟨x, hx, h⟩
    obtain ⟨q, hq, rfl⟩ := List.mem_iff_getElem.1 hx
    have hq' : q < j := by have := List.length_take_le j l; omega
    refine ⟨q, hq', ?_⟩
    unfold rd_T54
    rw [toNat_cast, getD_lt _ _ _ (by omega)]
    simpa [impl_Session_54.p] using h
  · rintro ⟨q, hq, h⟩
    unfold rd_T54 at h
    rw [toNat_cast, getD_lt _ _ _ (by omega)] at h
    refine ⟨l[q], List.mem_take_iff_getElem.2 ⟨q, by omega, rfl⟩, ?_⟩
    simpa [impl_Session_54.p] using h
theorem implS_0 (cap now : Int) (l : List S54) (hl : l.length ≤ 1048576) (d : Nat) : ∀ j : Nat, l.length = j + d → ∃ b, Ev (fun k => impl_areSessions.l0 k l l.length j cap now l) b ∧ (b = true ↔ ∀ i : Nat, j ≤ i → i < l.length → SP now l i) := by
  induction d with
  | zero =>
    intro j hd
    refine ⟨true, ?_, ⟨fun _ i h1 h2 => by omega, fun _ => rfl⟩⟩
    refine Ev.step (fun k => by rw [impl_areSessions.l0]) ?_
    exact ev_neg (by omega) (Ev.now _)
  | succ d ih =>
    intro j hd
    obtain ⟨b, hb, hi⟩ := ih (j + 1) (by omega)
    have hj : j < l.length := by omega
    have hwj : wrap64 ((j : Int) + 1) = ((j + 1 : Nat) : Int) := wsucc (n := l.length) (by omega) (by omega)
    have bad : ∀ (b0 : Bool) (a0 a1 a2 : Int) (a3 : ByteArray), b0 = true → Ev (fun k => impl_areSessions.j2 k j l l.length j b0 cap now l a0 a1 a2 a3) false := fun b0 a0 a1 a2 a3 h => by
      refine Ev.step (fun k => by rw [impl_areSessions.j2]) ?_
      exact ev_pos h (Ev.now _)
    have hf : ∀ {p : Prop}, ¬ p → (SP now l j → p) → (false = true ↔ ∀ i : Nat, j ≤ i → i < l.length → SP now l i) := fun hn hp => ⟨fun h => by simp at h, fun h => absurd (hp (h j (Nat.le_refl _) hj)) hn⟩
    have st : ∀ {f : Nat → Option Bool} {r : Bool}, (∀ k, impl_areSessions.l0 (k + 1) l l.length j cap now l = f k) → Ev f r → Ev (fun k => impl_areSessions.l0 k l l.length j cap now l) r := fun h e => Ev.step h e
    by_cases h1 : 1 ≤ (rd_T54 l j).f0 ∧ (rd_T54 l j).f0 ≤ 999
    rotate_left
    · refine ⟨false, st (fun k => by rw [impl_areSessions.l0]) (ev_pos (by omega) (ev_pos (by omega) (ev_pos (by omega) ?_))), hf h1 fun h => h.1⟩
      by_cases q : (rd_T54 l j).f0 < 1
      · exact ev_pos q (bad _ _ _ _ _ rfl)
      · exact ev_neg q (ev_pos (by omega) (bad _ _ _ _ _ rfl))
    by_cases h2 : 1 ≤ (rd_T54 l j).f1 ∧ (rd_T54 l j).f1 ≤ 1000000
    rotate_left
    · refine ⟨false, st (fun k => by rw [impl_areSessions.l0]) (ev_pos (by omega) (ev_pos (by omega) (ev_pos (by omega) (ev_neg (by omega) (ev_neg (by omega) ?_))))), hf h2 fun h => h.2.1⟩
      by_cases q : (rd_T54 l j).f1 < 1
      · exact ev_pos q (bad _ _ _ _ _ rfl)
      · exact ev_neg q (ev_pos (by omega) (bad _ _ _ _ _ rfl))
    by_cases h3 : 1 ≤ (rd_T54 l j).f2 ∧ (rd_T54 l j).f2 ≤ now
    rotate_left
    · refine ⟨false, st (fun k => by rw [impl_areSessions.l0]) (ev_pos (by omega) (ev_pos (by omega) (ev_pos (by omega) (ev_neg (by omega) (ev_neg (by omega) (ev_neg (by omega) (ev_neg (by omega) ?_))))))), hf h3 fun h => h.2.2.1⟩
      by_cases q : (rd_T54 l j).f2 < 1
      · exact ev_pos q (bad _ _ _ _ _ rfl)
      · exact ev_neg q (ev_pos (by omega) (bad _ _ _ _ _ rfl))
    have pre : ∀ r, Ev (fun k => impl_areSessions.j2 k j l l.length j (decide (((rd_T54 l j).f3.size : Int) > 40)) cap now l ((rd_T54 l j).f0) ((rd_T54 l j).f1) ((rd_T54 l j).f2) ((rd_T54 l j).f3)) r → Ev (fun k => impl_areSessions.l0 k l l.length j cap now l) r := fun r h =>
      st (fun k => by rw [impl_areSessions.l0]) (ev_pos (by omega) (ev_pos (by omega) (ev_pos (by omega) (ev_neg (by omega) (ev_neg (by omega) (ev_neg (by omega) (ev_neg (by omega) (ev_neg (by omega) (ev_neg (by omega) h)))))))))
    by_cases h4 : ((rd_T54 l j).f3.size : Int) > 40
    · exact ⟨false, pre _ (bad _ _ _ _ _ (decide_eq_true h4)), hf (p := (rd_T54 l j).f3.size ≤ 40) (by omega) fun h => h.2.2.2.1⟩
    rw [decide_eq_false h4] at pre
    have tail : ∀ r, Ev (fun k => if 0 ≤ (j : Int) then (if (j : Int) ≤ (l.length : Int) then ((impl_Session_54.f (l.take (j : Int).toNat) ((rd_T54 l j).f0) ((rd_T54 l j).f1) ((rd_T54 l j).f2) ((rd_T54 l j).f3)).bind fun t147 => (if t147 = true then (some false) else (impl_areSessions.l0 k l (l.length : Int) (wrap64 ((j : Int) + 1)) cap now l))) else (none)) else (none)) r → (0 < j → (rd_T54 l (j - 1 : Nat)).f0 < (rd_T54 l j).f0) → Ev (fun k => impl_areSessions.l0 k l l.length j cap now l) r := fun r h h5 => by
      refine pre r ?_
      refine Ev.step (fun k => by rw [impl_areSessions.j2]) ?_
      refine ev_neg (by simp) ?_
      by_cases h0 : j = 0
      · exact ev_neg (by omega) h
      · have := h5 (by omega)
        rw [wpred (by omega) (by omega)]
        exact ev_pos (by omega) (ev_pos (by omega) (ev_pos (by omega) (ev_neg (by omega) h)))
    by_cases h5 : 0 < j → (rd_T54 l (j - 1 : Nat)).f0 < (rd_T54 l j).f0
    rotate_left
    · have h0 : 0 < j := by
        apply Classical.byContradiction
        intro hn; exact h5 fun h => absurd h hn
      have h6 : ¬ (rd_T54 l (j - 1 : Nat)).f0 < (rd_T54 l j).f0 := fun h => h5 fun _ => h
      refine ⟨false, pre _ ?_, hf h5 fun h => h.2.2.2.2.1⟩
      refine Ev.step (fun k => by rw [impl_areSessions.j2]) ?_
      rw [wpred (by omega) (by omega)]
      exact ev_neg (by simp) (ev_pos (by omega) (ev_pos (by omega) (ev_pos (by omega) (ev_pos (by omega) (Ev.now _)))))
    rw [toNat_cast, any_take l j (by omega), hwj] at tail
    by_cases h6 : ∀ q : Nat, q < j → (rd_T54 l q).f2 ≠ (rd_T54 l j).f2
    · refine ⟨b, tail _ (ev_pos (by omega) (ev_pos (by omega) (Ev.bind (Ev.now _) (ev_neg ?_ hb)))) h5, ?_⟩
      · rw [decide_eq_true_iff]
        rintro ⟨q, hq, e⟩
        exact h6 q hq e
      · rw [hi]
        constructor
        · intro h i h7 h8
          by_cases e : i = j
          · subst e; exact ⟨h1, h2, h3, by omega, h5, h6⟩
          · exact h i (by omega) h8
        · intro h i h7 h8; exact h i (by omega) h8
    · refine ⟨false, tail _ (ev_pos (by omega) (ev_pos (by omega) (Ev.bind (Ev.now _) (ev_pos ?_ (Ev.now _))))) h5, hf h6 fun h => h.2.2.2.2.2⟩
      rw [decide_eq_true_iff]
      apply Classical.byContradiction
      intro hn
      exact h6 fun q hq e => hn ⟨q, hq, e⟩
theorem implSess_ev (cap now : Int) (l : List S54) (hl : l.length ≤ 1048576) : ∃ b, Ev (fun k => impl_areSessions.f k cap now l) b ∧ (b = true ↔ SessP cap now l) := by
  have bad : ∀ b0 : Bool, b0 = true → Ev (fun k => impl_areSessions.j0 k b0 cap now l) false := fun b0 h => by
    refine Ev.step (fun k => by rw [impl_areSessions.j0]) ?_
    exact ev_pos h (Ev.now _)
  have no : ∀ {p : Prop}, ¬ p → (SessP cap now l → p) → (false = true ↔ SessP cap now l) := fun hn hp => ⟨fun h => by simp at h, fun h => absurd (hp h) hn⟩
  unfold impl_areSessions.f
  by_cases h1 : cap < 1
  · exact ⟨false, ev_pos h1 (bad _ rfl), no (p := 1 ≤ cap) (by omega) fun h => h.1.1⟩
  by_cases h2 : cap > 12
  · exact ⟨false, ev_neg h1 (ev_pos h2 (bad _ rfl)), no (p := cap ≤ 12) (by omega) fun h => h.1.2⟩
  by_cases h3 : now < 0
  · exact ⟨false, ev_neg h1 (ev_neg h2 (ev_pos h3 (bad _ rfl))), no (p := 0 ≤ now) (by omega) fun h => h.2.1.1⟩
  by_cases h4 : now > 1000000
  · exact ⟨false, ev_neg h1 (ev_neg h2 (ev_neg h3 (ev_pos h4 (bad _ rfl)))), no (p := now ≤ 1000000) (by omega) fun h => h.2.1.2⟩
  by_cases h5 : (l.length : Int) > cap
  · exact ⟨false, ev_neg h1 (ev_neg h2 (ev_neg h3 (ev_neg h4 (bad _ (decide_eq_true h5))))), no (p := (l.length : Int) ≤ cap) (by omega) fun h => h.2.2.1⟩
  obtain ⟨b, hb, hi⟩ := implS_0 cap now l hl l.length 0 (by omega)
  refine ⟨b, ev_neg h1 (ev_neg h2 (ev_neg h3 (ev_neg h4 ?_))), ?_⟩
  · refine Ev.step (fun k => by rw [impl_areSessions.j0]) ?_
    exact ev_neg (by simpa using h5) hb
  · rw [hi]
    exact ⟨fun h => ⟨⟨by omega, by omega⟩, ⟨by omega, by omega⟩, by omega, fun j hj => h j (by omega) hj⟩, fun h i _ hi => h.2.2.2 i hi⟩

abbrev noS : ByteArray := ⟨#[]⟩
noncomputable instance (p : Prop) : Decidable p := Classical.propDecidable p
def lookY (y : S54) (s : Int) : Int × ByteArray := if s = wrap64 (y.f1 + 1) then (0, noS) else if s = y.f1 then (1, y.f3) else if s < y.f1 then (2, noS) else (3, noS)
/-- What a call of a client is. -/
noncomputable def lookM (cap now : Int) (l : List S54) (c s : Int) : Int × ByteArray := if SessP cap now l ∧ (1 ≤ c ∧ c ≤ 999) ∧ (1 ≤ s ∧ s ≤ 1000000) then lookY (lastOf l c) s else (4, noS)
theorem lookY_ev (y : S54) (s : Int) : Ev (fun _ => if s = wrap64 (y.f1 + 1) then (some (0, noS)) else (if s = y.f1 then (some (1, y.f3)) else (if s < y.f1 then (some (2, noS)) else (some (3, noS))))) (lookY y s) := by
  refine ev_const ?_
  unfold lookY
  by_cases h1 : s = wrap64 (y.f1 + 1)
  · rw [if_pos h1, if_pos h1]
  · rw [if_neg h1, if_neg h1]
    by_cases h2 : s = y.f1
    · rw [if_pos h2, if_pos h2]
    · rw [if_neg h2, if_neg h2]
      by_cases h3 : s < y.f1
      · rw [if_pos h3, if_pos h3]
      · rw [if_neg h3, if_neg h3]
theorem specLook_ev (cap now : Int) (l : List S54) (hl : l.length ≤ 1048576) (c s : Int) : Ev (fun k => spec_Look.f k cap now l c s) (lookM cap now l c s) := by
  obtain ⟨b, hb, hi⟩ := specSess_ev cap now l hl
  have bad : ∀ b0 : Bool, b0 = true → Ev (fun k => spec_Look.j0 k c s b0 cap now l) (4, noS) := fun b0 h => by
    refine Ev.step (fun k => by rw [spec_Look.j0]) ?_
    exact ev_pos h (Ev.now _)
  unfold spec_Look.f lookM
  simp only [in_eq, Option.bind_some, decide_eq_true_eq]
  by_cases h1 : b = true
  rotate_left
  · rw [if_neg (fun h => h1 (hi.2 h.1))]
    exact Ev.bind hb (ev_neg h1 (bad _ rfl))
  by_cases h2 : 1 ≤ c ∧ c ≤ 999
  rotate_left
  · rw [if_neg (fun h => h2 h.2.1)]
    exact Ev.bind hb (ev_pos h1 (ev_neg h2 (bad _ rfl)))
  by_cases h3 : 1 ≤ s ∧ s ≤ 1000000
  rotate_left
  · rw [if_neg (fun h => h3 h.2.2)]
    exact Ev.bind hb (ev_pos h1 (ev_pos h2 (bad _ (by rw [decide_eq_false h3]; rfl))))
  rw [if_pos ⟨hi.1 h1, h2, h3⟩]
  refine Ev.bind hb (ev_pos h1 (ev_pos h2 ?_))
  refine Ev.step (fun k => by rw [spec_Look.j0]) ?_
  exact ev_neg (by rw [decide_eq_true h3]; decide) (Ev.bind (l09Find_ev cap now c l hl) (lookY_ev (lastOf l c) s))
theorem implLook_ev (cap now : Int) (l : List S54) (hl : l.length ≤ 1048576) (c s : Int) : Ev (fun k => impl_look.f k cap now l c s) (lookM cap now l c s) := by
  obtain ⟨b, hb, hi⟩ := implSess_ev cap now l hl
  have bad : ∀ b0 : Bool, b0 = true → Ev (fun k => impl_look.j0 k c s b0 cap now l) (4, noS) := fun b0 h => by
    refine Ev.step (fun k => by rw [impl_look.j0]) ?_
    exact ev_pos h (Ev.now _)
  unfold impl_look.f lookM
  by_cases h1 : b = true
  rotate_left
  · rw [if_neg (fun h => h1 (hi.2 h.1))]
    exact Ev.bind hb (ev_neg h1 (bad _ rfl))
  by_cases h2 : c < 1
  · rw [if_neg (fun h => by have := h.2.1; omega)]
    exact Ev.bind hb (ev_pos h1 (ev_pos h2 (bad _ rfl)))
  by_cases h3 : c > 999
  · rw [if_neg (fun h => by have := h.2.1; omega)]
    exact Ev.bind hb (ev_pos h1 (ev_neg h2 (ev_pos h3 (bad _ rfl))))
  by_cases h4 : s < 1
  · rw [if_neg (fun h => by have := h.2.2; omega)]
    exact Ev.bind hb (ev_pos h1 (ev_neg h2 (ev_neg h3 (ev_pos h4 (bad _ rfl)))))
  by_cases h5 : s > 1000000
  · rw [if_neg (fun h => by have := h.2.2; omega)]
    exact Ev.bind hb (ev_pos h1 (ev_neg h2 (ev_neg h3 (ev_neg h4 (bad _ (decide_eq_true h5))))))
  rw [if_pos ⟨hi.1 h1, by omega, by omega⟩]
  have j1 : ∀ y : S54, Ev (fun k => impl_look.j1 k s y.f0 y.f1 y.f2 y.f3) (lookY y s) := fun y => by
    refine Ev.step (fun k => by rw [impl_look.j1]) ?_
    exact lookY_ev y s
  refine Ev.bind hb (ev_pos h1 (ev_neg h2 (ev_neg h3 (ev_neg h4 ?_))))
  refine Ev.step (fun k => by rw [impl_look.j0]) ?_
  refine ev_neg (by simpa using h5) ?_
  rcases idx_cases l c with ⟨i, hi', e, _, e2, _⟩ | ⟨e, e2, _⟩
  · refine Ev.bind (a := (i : Int)) (ev_const (by unfold impl_sessionOf.f; exact congrArg some e)) ?_
    rw [e2]
    exact ev_pos (by omega) (ev_pos (by omega) (ev_pos (by omega) (j1 _)))
  · refine Ev.bind (a := (-1 : Int)) (ev_const (by unfold impl_sessionOf.f; exact congrArg some e)) ?_
    rw [e2]
    exact ev_neg (by omega) (j1 z54)

/-- What is asked of a session by itself. -/
def OKs (now : Int) (x : S54) : Prop := (1 ≤ x.f0 ∧ x.f0 ≤ 999) ∧ (1 ≤ x.f1 ∧ x.f1 ≤ 1000000) ∧ (1 ≤ x.f2 ∧ x.f2 ≤ now) ∧ x.f3.size ≤ 40
def RR (x y : S54) : Prop := x.f0 < y.f0 ∧ x.f2 ≠ y.f2
def LS (now : Int) (l : List S54) : Prop := (∀ x ∈ l, OKs now x) ∧ l.Pairwise RR
theorem ls_of {cap now : Int} {l : List S54} (h : SessP cap now l) : LS now l := by
  refine ⟨fun x hx => ?_, ?_⟩
  · obtain ⟨q, hq, rfl⟩ := List.mem_iff_getElem.1 hx
    have := h.2.2.2 q hq
    unfold SP at this
    rw [rdE l q hq] at this
    exact ⟨this.1, this.2.1, this.2.2.1, this.2.2.2.1⟩
  · rw [List.pairwise_iff_getElem]
    intro i j hi hj hij
    have h1 := sorted_lt h hij hj
    have h2 := (h.2.2.2 j hj).2.2.2.2.2 i hij
    rw [rdE l i hi, rdE l j hj] at h1 h2
    exact ⟨h1, h2⟩
theorem of_ls {cap now : Int} {l : List S54} (hc : 1 ≤ cap ∧ cap ≤ 12) (hn : 0 ≤ now ∧ now ≤ 1000000) (hl : (l.length : Int) ≤ cap) (h : LS now l) : SessP cap now l := by
  refine ⟨hc, hn, hl, fun j hj => ?_⟩
  have h1 := h.1 l[j] (List.getElem_mem hj)
  have h2 := List.pairwise_iff_getElem.1 h.2
  unfold SP
  rw [rdE l j hj]
  refine ⟨h1.1, h1.2.1, h1.2.2.1, h1.2.2.2, fun h0 => ?_, fun i hi => ?_⟩
  · rw [rdE l (j - 1) (by omega)]
    exact (h2 (j - 1) j (by omega) hj (by omega)).1
  · rw [rdE l i (by omega)]
    exact (h2 i j (by omega) hj hi).2
theorem ls_sub {now : Int} {l l' : List S54} (h : LS now l) (hs : l'.Sublist l) : LS now l' := ⟨fun x hx => h.1 x (hs.subset hx), h.2.sublist hs⟩
theorem ls_ins {now : Int} {a b : List S54} (h : LS now (a ++ b)) {y : S54} (hy : OKs (now + 1) y) (hu : y.f2 = now + 1) (ha : ∀ x ∈ a, x.f0 < y.f0) (hb : ∀ x ∈ b, y.f0 < x.f0) : LS (now + 1) (a ++ y :: b) := by
  obtain ⟨p1, p2, p3⟩ := List.pairwise_append.1 h.2
  have up : ∀ x ∈ a ++ b, OKs (now + 1) x ∧ x.f2 ≤ now := fun x hx => by
    have := h.1 x hx
    refine ⟨⟨this.1, this.2.1, ⟨this.2.2.1.1, ?_⟩, this.2.2.2⟩, this.2.2.1.2⟩
    have := this.2.2.1.2
    omega
  refine ⟨fun x hx => ?_, ?_⟩
  · rw [List.mem_append, List.mem_cons] at hx
    rcases hx with hx | rfl | hx
    · exact (up x (List.mem_append_left _ hx)).1
    · exact hy
    · exact (up x (List.mem_append_right _ hx)).1
  · rw [List.pairwise_append, List.pairwise_cons]
    refine ⟨p1, ⟨fun x hx => ⟨hb x hx, ?_⟩, p2⟩, fun x hx z hz => ?_⟩
    · have := (up x (List.mem_append_right _ hx)).2; omega
    · rw [List.mem_cons] at hz
      rcases hz with rfl | hz
      · have := (up x (List.mem_append_left _ hx)).2
        exact ⟨ha x hx, by omega⟩
      · exact p3 x hx z hz
theorem mem_take_rd {l : List S54} {p : Nat} {x : S54} (h : x ∈ l.take p) : ∃ j : Nat, j < p ∧ j < l.length ∧ rd_T54 l j = x := by
  obtain ⟨q, hq, rfl⟩ := List.mem_iff_getElem.1 h
  rw [List.length_take] at hq
  exact ⟨q, by omega, by omega, by rw [rdE l q (by omega), List.getElem_take]⟩
theorem mem_drop_rd {l : List S54} {p : Nat} {x : S54} (h : x ∈ l.drop p) : ∃ j : Nat, p ≤ j ∧ j < l.length ∧ rd_T54 l j = x := by
  obtain ⟨q, hq, rfl⟩ := List.mem_iff_getElem.1 h
  rw [List.length_drop] at hq
  exact ⟨p + q, by omega, by omega, by rw [rdE l (p + q) (by omega), List.getElem_drop]⟩
/-- A session that is set anew. -/
theorem sess_set {cap now : Int} {l : List S54} (h : SessP cap now l) (hn : now < 1000000) {y : S54} (hy : OKs (now + 1) y) (hu : y.f2 = now + 1) {i : Nat} (hi : i < l.length) (he : (rd_T54 l i).f0 = y.f0) : SessP cap (now + 1) (l.set i y) := by
  obtain ⟨h1, h2, h3, _⟩ := id h
  refine of_ls h1 ⟨by omega, by omega⟩ (by simpa using h3) ?_
  rw [List.set_eq_take_append_cons_drop, if_pos hi]
  have hs : LS now (l.take i ++ l.drop (i + 1)) := by
    rw [← List.eraseIdx_eq_take_drop_succ]
    exact ls_sub (ls_of h) (List.eraseIdx_sublist _ _)
  refine ls_ins hs hy hu (fun x hx => ?_) (fun x hx => ?_)
  · obtain ⟨j, hj, hl, rfl⟩ := mem_take_rd hx
    have := sorted_lt h hj hi
    omega
  · obtain ⟨j, hj, hl, rfl⟩ := mem_drop_rd hx
    have := sorted_lt h (show i < j by omega) hl
    omega
/-- A session that comes in at its place. -/
theorem sess_ins {cap now : Int} {l : List S54} (h : SessP cap now l) (hn : now < 1000000) (hl : (l.length : Int) < cap) {y : S54} (hy : OKs (now + 1) y) (hu : y.f2 = now + 1) {p : Nat} (hp : p ≤ l.length) (hlo : ∀ j : Nat, j < p → (rd_T54 l j).f0 < y.f0) (hhi : p < l.length → ¬ (rd_T54 l p).f0 < y.f0) (hno : ∀ j : Nat, j < l.length → (rd_T54 l j).f0 ≠ y.f0) : SessP cap (now + 1) (l.take p ++ y :: l.drop p) := by
  obtain ⟨h1, h2, h3, _⟩ := id h
  refine of_ls h1 ⟨by omega, by omega⟩ (by simp; omega) ?_
  refine ls_ins (by rw [List.take_append_drop]; exact ls_of h) hy hu (fun x hx => ?_) (fun x hx => ?_)
  · obtain ⟨j, hj, hl, rfl⟩ := mem_take_rd hx
    exact hlo j hj
  · obtain ⟨j, hj, hl, rfl⟩ := mem_drop_rd hx
    have a1 := hhi (by omega)
    have a2 := hno p (by omega)
    by_cases e : j = p
    · subst e; omega
    · have := sorted_lt h (show p < j by omega) hl
      omega
theorem sess_erase {cap now : Int} {l : List S54} (h : SessP cap now l) (q : Nat) : SessP cap now (l.eraseIdx q) := by
  obtain ⟨h1, h2, h3, _⟩ := id h
  have := List.length_eraseIdx_le l q
  exact of_ls h1 h2 (by omega) (ls_sub (ls_of h) (List.eraseIdx_sublist _ _))

theorem filter_all (l : List S54) (c : Int) (h : ∀ j : Nat, j < l.length → (rd_T54 l j).f0 ≠ c) : l.filter (ne c) = l := by
  rw [List.filter_eq_self]
  intro x hx
  obtain ⟨q, hq, rfl⟩ := List.mem_iff_getElem.1 hx
  have := h q hq
  rw [rdE l q hq] at this
  simp [ne, this]
theorem rd_take (l : List S54) (p j : Nat) (hj : j < p) : rd_T54 (l.take p) j = rd_T54 l j := by
  unfold rd_T54
  rw [toNat_cast, List.getD_eq_getElem?_getD, List.getD_eq_getElem?_getD, List.getElem?_take_of_lt hj]
theorem rd_drop (l : List S54) (p j : Nat) : rd_T54 (l.drop p) j = rd_T54 l (p + j : Nat) := by
  unfold rd_T54
  rw [toNat_cast, toNat_cast, List.getD_eq_getElem?_getD, List.getD_eq_getElem?_getD, List.getElem?_drop]
theorem rd_erase (l : List S54) (o j : Nat) : rd_T54 (l.eraseIdx o) j = if j < o then rd_T54 l j else rd_T54 l (j + 1 : Nat) := by
  unfold rd_T54
  rw [toNat_cast, toNat_cast, List.getD_eq_getElem?_getD, List.getD_eq_getElem?_getD, List.getElem?_eraseIdx]
  by_cases h : j < o
  · rw [if_pos h, if_pos h]
  · rw [if_neg h, if_neg h, List.getD_eq_getElem?_getD]
/-- The place for a client that has no session. -/
theorem place_l (l : List S54) (c : Int) (d : Nat) : ∀ i : Nat, l.length = i + d → (∀ j : Nat, j < i → (rd_T54 l j).f0 < c) → ∃ p : Nat, i ≤ p ∧ p ≤ l.length ∧ (∀ j : Nat, j < p → (rd_T54 l j).f0 < c) ∧ (p < l.length → ¬ (rd_T54 l p).f0 < c) := by
  induction d with
  | zero => intro i hd hb; exact ⟨i, Nat.le_refl _, by omega, hb, fun h => by omega⟩
  | succ d ih =>
    intro i hd hb
    by_cases h : (rd_T54 l i).f0 < c
    · obtain ⟨p, h1, h2, h3, h4⟩ := ih (i + 1) (by omega) (fun j hj => by
        by_cases e : j = i
        · rw [e]; exact h
        · exact hb j (by omega))
      exact ⟨p, by omega, h2, h3, h4⟩
    · exact ⟨i, Nat.le_refl _, by omega, hb, fun _ => h⟩
theorem ins_l (cap now c : Int) (l : List S54) (hl : l.length ≤ 100000) (y : S54) (p : Nat) (hp : p ≤ l.length) (hlo : ∀ j : Nat, j < p → (rd_T54 l j).f0 < c) (hhi : p < l.length → ¬ (rd_T54 l p).f0 < c) (d : Nat) : ∀ i : Nat, i + d = p → Ev (fun k => impl_keep.l1 k c i cap now l y.f0 y.f1 y.f2 y.f3) (cap, now, l.take p ++ y :: l.drop p, true) := by
  have hins : impl_Session_56.f l (p : Int) [y] = some (l.take p ++ y :: l.drop p) := by
    unfold impl_Session_56.f
    rw [toNat_cast, if_pos ⟨by omega, by omega, rfl, by omega⟩]
    simp
  induction d with
  | zero =>
    intro i hd
    obtain rfl : i = p := by omega
    refine Ev.step (fun k => by rw [impl_keep.l1]) ?_
    by_cases hn : i < l.length
    · exact ev_pos (by omega) (ev_pos (by omega) (ev_neg (hhi hn) (Ev.bind (ev_const hins) (Ev.now _))))
    · exact ev_neg (by omega) (Ev.bind (ev_const hins) (Ev.now _))
  | succ d ih =>
    intro i hd
    refine Ev.step (fun k => by rw [impl_keep.l1]) ?_
    rw [wsucc (n := l.length) (by omega) (by omega)]
    exact ev_pos (by omega) (ev_pos (by omega) (ev_pos (hlo i (by omega)) (ih (i + 1) (by omega))))
/-- Where the one that was used longest ago stands: both look for it alike. -/
theorem old_l (cap now c s : Int) (t : ByteArray) (l : List S54) (hl : l.length ≤ 100000) (y : S54) (now' : Int) (d : Nat) : ∀ (i o : Nat), l.length = i + d → o < l.length → ∃ q : Nat, q < l.length ∧
    (∀ r, Ev (fun k => (spec_l09Put.f k cap now l (rd_T54 l q).f0 0 0 0 (⟨#[]⟩ : ByteArray)).bind fun bt224 => ((spec_l09Put.f k bt224.1 (wrap64 (bt224.2.1 + 1)) bt224.2.2 c c s (wrap64 (bt224.2.1 + 1)) t).bind fun bt229 => (some (bt229.1, bt229.2.1, bt229.2.2, true)))) r → Ev (fun k => spec_Keep.l0 k c s t i cap now l cap now l (rd_T54 l o).f0 (rd_T54 l o).f1 (rd_T54 l o).f2 (rd_T54 l o).f3) r) ∧
    (∀ r, Ev (fun k => (impl_Session_48.f l (q : Int) (wrap64 ((q : Int) + 1))).bind fun t282 => (impl_keep.j2 k c cap now' t282 y.f0 y.f1 y.f2 y.f3)) r → Ev (fun k => impl_keep.l0 k c o l l.length i cap now' l y.f0 y.f1 y.f2 y.f3) r) := by
  induction d with
  | zero =>
    intro i o hd ho
    refine ⟨o, ho, fun r hr => ?_, fun r hr => ?_⟩
    · refine Ev.step (fun k => by rw [spec_Keep.l0]) ?_
      exact ev_neg (by omega) hr
    · refine Ev.step (fun k => by rw [impl_keep.l0]) ?_
      exact ev_neg (by omega) hr
  | succ d ih =>
    intro i o hd ho
    by_cases h : (rd_T54 l i).f2 < (rd_T54 l o).f2
    · obtain ⟨q, hq, h1, h2⟩ := ih (i + 1) i (by omega) (by omega)
      refine ⟨q, hq, fun r hr => ?_, fun r hr => ?_⟩
      · refine Ev.step (fun k => by rw [spec_Keep.l0]) ?_
        rw [wsucc (n := l.length) (by omega) (by omega)]
        exact ev_pos (by omega) (ev_pos (by omega) (ev_pos h (h1 r hr)))
      · refine Ev.step (fun k => by rw [impl_keep.l0]) ?_
        rw [wsucc (n := l.length) (by omega) (by omega)]
        exact ev_pos (by omega) (ev_pos (by omega) (ev_pos (by omega) (ev_pos (by omega) (ev_pos (by omega) (ev_pos h (h2 r hr))))))
    · obtain ⟨q, hq, h1, h2⟩ := ih (i + 1) o (by omega) ho
      refine ⟨q, hq, fun r hr => ?_, fun r hr => ?_⟩
      · refine Ev.step (fun k => by rw [spec_Keep.l0]) ?_
        rw [wsucc (n := l.length) (by omega) (by omega)]
        exact ev_pos (by omega) (ev_pos (by omega) (ev_neg h (h1 r hr)))
      · refine Ev.step (fun k => by rw [impl_keep.l0]) ?_
        rw [wsucc (n := l.length) (by omega) (by omega)]
        exact ev_pos (by omega) (ev_pos (by omega) (ev_pos (by omega) (ev_pos (by omega) (ev_pos (by omega) (ev_neg h (h2 r hr))))))
/-- Behind the forgetting: a new session at its place, alike for both. -/
theorem both_ins (cap now c : Int) (l : List S54) (hl : l.length ≤ 100000) (y : S54) (hy : y.f0 = c) (hc : c ≠ 0) (hno : ∀ j : Nat, j < l.length → (rd_T54 l j).f0 ≠ c) : ∃ p : Nat, p ≤ l.length ∧ (∀ j : Nat, j < p → (rd_T54 l j).f0 < c) ∧ (p < l.length → ¬ (rd_T54 l p).f0 < c) ∧
    Ev (fun k => spec_l09Put.f k cap now l c y.f0 y.f1 y.f2 y.f3) (cap, now, l.take p ++ y :: l.drop p) ∧ Ev (fun k => impl_keep.j2 k c cap now l y.f0 y.f1 y.f2 y.f3) (cap, now, l.take p ++ y :: l.drop p, true) := by
  obtain ⟨p, _, hp, hlo, hhi⟩ := place_l l c l.length 0 (by omega) (fun j h => by omega)
  refine ⟨p, hp, hlo, hhi, ?_, ?_⟩
  · have := put_false cap now l (by omega) c y cap now p hp (fun j hj => by have := hlo j hj; omega) (fun h => by have := hhi h; have := hno p h; omega) p 0 [] (by omega) (by simp)
    rw [List.drop_zero, filter_all (l.take p) c (fun j hj => by rw [List.length_take] at hj; rw [rd_take l p j (by omega)]; exact hno j (by omega)), filter_all (l.drop p) c (fun j hj => by rw [List.length_drop] at hj; rw [rd_drop]; exact hno _ (by omega)), List.nil_append] at this
    unfold spec_l09Put.f
    rw [show (y.f0 == 0) = false by simp; omega]
    exact this
  · refine Ev.step (fun k => by rw [impl_keep.j2]) ?_
    exact ins_l cap now c l hl y p hp hlo hhi p 0 (by omega)
theorem put_found (cap now c : Int) (l : List S54) {now0 cap0 : Int} (hS : SessP cap0 now0 l) (hl : l.length ≤ 100000) (y : S54) (hy : y.f0 = c) (hc : c ≠ 0) (i : Nat) (hi : i < l.length) (he : (rd_T54 l i).f0 = c) : Ev (fun k => spec_l09Put.f k cap now l c y.f0 y.f1 y.f2 y.f3) (cap, now, l.set i y) := by
  have := put_false cap now l (by omega) c y cap now (i + 1) (by omega) (fun j hj => by
    by_cases e : j = i
    · subst e; omega
    · have := sorted_lt hS (show j < i by omega) hi; omega) (fun h => by have := sorted_lt hS (show i < i + 1 by omega) h; omega) (i + 1) 0 [] (by omega) (by simp)
  rw [List.drop_zero, List.take_succ_eq_append_getElem hi, List.filter_append, filter_all (l.take i) c (fun j hj => by
      rw [List.length_take] at hj; rw [rd_take l i j (by omega)]
      have := sorted_lt hS (show j < i by omega) hi; omega), List.filter_cons, if_neg (by rw [← rdE l i hi]; simp [ne, he]), List.filter_nil, List.append_nil, filter_all (l.drop (i + 1)) c (fun j hj => by
      rw [List.length_drop] at hj; rw [rd_drop]
      have := sorted_lt hS (show i < i + 1 + j by omega) (by omega); omega), List.nil_append] at this
  unfold spec_l09Put.f
  rw [show (y.f0 == 0) = false by simp; omega, List.set_eq_take_append_cons_drop, if_pos hi]
  exact this
def KeepX (cap now : Int) (l : List S54) (c s : Int) (t : ByteArray) (r : Int × Int × List S54 × Bool) : Prop := ((lookM cap now l c s).1 ≠ 0 → r = (cap, now, l, false)) ∧ ((lookM cap now l c s).1 = 0 → t.size ≤ 40 → now < 1000000 → r.2.2.2 = true ∧ (⟨c, s, now + 1, t⟩ : S54) ∈ r.2.2.1) ∧ r.2.1 ≤ now + 1
theorem keep_ev (cap now : Int) (l : List S54) (hl : l.length ≤ 1048576) (c s : Int) (t : ByteArray) : ∃ r : Int × Int × List S54 × Bool, r.2.2.1.length ≤ l.length + 1 ∧ (r.2.2.1.length = l.length + 1 → l.length ≤ 12) ∧ (SessP cap now l → SessP cap r.2.1 r.2.2.1 ∧ r.1 = cap) ∧ (∀ P : Int → Prop, P c → (∀ x ∈ l, P x.f0) → ∀ x ∈ r.2.2.1, P x.f0) ∧ KeepX cap now l c s t r ∧ Ev (fun k => spec_Keep.f k cap now l c s t) r ∧ Ev (fun k => impl_keep.f k cap now l c s t) r := by
  have hsl := specLook_ev cap now l hl c s
  have hil := implLook_ev cap now l hl c s
  have hcp := l09Copy_ev cap now l hl
  have sb : ∀ b0 : Bool, b0 = true → Ev (fun k => spec_Keep.j0 k c s t b0 cap now l) (cap, now, l, false) := fun b0 h => by
    refine Ev.step (fun k => by rw [spec_Keep.j0]) ?_
    exact ev_pos h (Ev.bind hcp (Ev.now _))
  have ib : ∀ b0 : Bool, b0 = true → Ev (fun k => impl_keep.j0 k c s t b0 cap now l) (cap, now, l, false) := fun b0 h => by
    refine Ev.step (fun k => by rw [impl_keep.j0]) ?_
    exact ev_pos h (Ev.now _)
  unfold spec_Keep.f impl_keep.f
  have hcs := ev_const (copyS_ev cap now l hl)
  by_cases h1 : (lookM cap now l c s).1 = 0
  rotate_left
  · exact ⟨(cap, now, l, false), by simp, by simp, fun h => ⟨h, rfl⟩, fun _ _ h => h, ⟨fun _ => rfl, fun h => absurd h h1, by show now ≤ now + 1; omega⟩, Ev.bind hsl (ev_neg h1 (sb _ rfl)), Ev.bind hcs (Ev.bind hil (ev_neg h1 (ib _ rfl)))⟩
  by_cases h2 : (t.size : Int) > 40
  · exact ⟨(cap, now, l, false), by simp, by simp, fun h => ⟨h, rfl⟩, fun _ _ h => h, ⟨fun h => absurd h1 h, fun _ h => absurd h (by omega), by show now ≤ now + 1; omega⟩, Ev.bind hsl (ev_pos h1 (ev_pos h2 (sb _ rfl))), Ev.bind hcs (Ev.bind hil (ev_pos h1 (ev_pos h2 (ib _ rfl))))⟩
  have hS : SessP cap now l ∧ (1 ≤ c ∧ c ≤ 999) ∧ (1 ≤ s ∧ s ≤ 1000000) := by
    unfold lookM at h1
    by_cases h : SessP cap now l ∧ (1 ≤ c ∧ c ≤ 999) ∧ (1 ≤ s ∧ s ≤ 1000000)
    · exact h
    · rw [if_neg h] at h1; simp at h1
  obtain ⟨hS, ⟨hc1, hc2⟩, hs1, hs2⟩ := hS
  obtain ⟨⟨k1, k2⟩, ⟨k3, k4⟩, k5, _⟩ := And.left ⟨hS, trivial⟩
  by_cases h3 : now = 1000000
  · exact ⟨(cap, now, l, false), by simp, by simp, fun h => ⟨h, rfl⟩, fun _ _ h => h, ⟨fun h => absurd h1 h, fun _ _ h => absurd h (by omega), by show now ≤ now + 1; omega⟩, Ev.bind hsl (ev_pos h1 (ev_neg h2 (sb _ (decide_eq_true (by omega))))), Ev.bind hcs (Ev.bind hil (ev_pos h1 (ev_neg h2 (ib _ (by simpa using h3)))))⟩
  have hw : wrap64 (now + 1) = now + 1 := w64 (by omega) (by omega)
  have sj : ∀ r, Ev (fun k => (spec_l09Find.f k cap now l c).bind fun bt216 => (if bt216.1 = 0 then (spec_Keep.j1 k c s t ((l.length : Int) == cap) cap now l cap now l) else (spec_Keep.j1 k c s t false cap now l cap now l))) r → Ev (fun k => (spec_Look.f k cap now l c s).bind fun bt203 => (if bt203.1 = 0 then (if (t.size : Int) > 40 then (spec_Keep.j0 k c s t true cap now l) else (spec_Keep.j0 k c s t (decide (now ≥ 1000000)) cap now l)) else (spec_Keep.j0 k c s t true cap now l))) r := fun r hr => by
    refine Ev.bind hsl (ev_pos h1 (ev_neg h2 ?_))
    refine Ev.step (fun k => by rw [spec_Keep.j0]) ?_
    exact ev_neg (by simp; omega) (Ev.bind hcp hr)
  have ij : ∀ r, Ev (fun k => (impl_sessionOf.f cap (now + 1) l c).bind fun t277 => (if t277 ≥ 0 then (if 0 ≤ t277 then (if t277 < (l.length : Int) then (some (cap, now + 1, (l.set (t277 : Int).toNat (⟨c, s, now + 1, t⟩ : S54)), true)) else (none)) else (none)) else (if (l.length : Int) = cap then (impl_keep.l0 k c 0 l (l.length : Int) 0 cap (now + 1) l c s (now + 1) t) else (impl_keep.j2 k c cap (now + 1) l c s (now + 1) t)))) r → Ev (fun k => (impl_copySessions.f cap now l).bind fun bt268 => ((impl_look.f k cap now l c s).bind fun bt274 => (if bt274.1 = 0 then (if (t.size : Int) > 40 then (impl_keep.j0 k c s t true bt268.1 bt268.2.1 bt268.2.2) else (impl_keep.j0 k c s t (now == 1000000) bt268.1 bt268.2.1 bt268.2.2)) else (impl_keep.j0 k c s t true bt268.1 bt268.2.1 bt268.2.2)))) r := fun r hr => by
    refine Ev.bind hcs (Ev.bind hil (ev_pos h1 (ev_neg h2 ?_)))
    refine Ev.step (fun k => by rw [impl_keep.j0]) ?_
    rw [hw]
    exact ev_neg (by simpa using h3) hr
  obtain ⟨y, hy⟩ : ∃ y : S54, y = ⟨c, s, now + 1, t⟩ := ⟨_, rfl⟩
  have hok : OKs (now + 1) y := by
    rw [hy]
    refine ⟨⟨hc1, hc2⟩, ⟨hs1, hs2⟩, ⟨?_, ?_⟩, ?_⟩
    · show 1 ≤ now + 1; omega
    · show now + 1 ≤ now + 1; omega
    · show t.size ≤ 40; omega
  have hyu : y.f2 = now + 1 := by rw [hy]
  have hyc : y.f0 = c := by rw [hy]
  have hnow : now < 1000000 := by omega
  have hix : ∀ x, Go.Proofs.YtjdpifafijcpbaaDoor.Slc.idxB (pc c) l = x → impl_sessionOf.f cap (now + 1) l c = some x := fun x h => by
    unfold impl_sessionOf.f
    exact congrArg some h
  have hf := l09Find_ev cap now c l hl
  have hl12 : l.length ≤ 12 := by omega
  rcases idx_cases l c with ⟨i, hi, hx, e1, e2, _⟩ | ⟨hx, e2, hno⟩
  · refine ⟨(cap, now + 1, l.set i y, true), by simp, by simp, fun _ => ⟨sess_set hS hnow hok hyu hi (by rw [e1, hyc]), rfl⟩, fun P h0 hP x hx => (List.mem_or_eq_of_mem_set hx).elim (hP x) (fun e => by rw [e, hyc]; exact h0), ⟨fun h => absurd h1 h, fun _ _ _ => ⟨rfl, by rw [← hy]; exact List.mem_set hi y⟩, by show now + 1 ≤ now + 1; omega⟩, sj _ (Ev.bind hf (ev_neg ?_ ?_)), ij _ (Ev.bind (ev_const (hix _ hx)) (ev_pos (by omega) (ev_pos (by omega) (ev_pos (by omega) ?_))))⟩
    · show ¬ (lastOf l c).f0 = 0
      rw [e2, e1]; omega
    · refine Ev.step (fun k => by rw [spec_Keep.j1]) ?_
      rw [hw]
      have := put_found cap (now + 1) c l hS (by omega) y (by rw [hy]) (by omega) i hi e1
      rw [hy] at this ⊢
      exact ev_neg (by simp) (Ev.bind this (Ev.now _))
    · rw [toNat_cast, hy]; exact Ev.now _
  · have hf0 : (lastOf l c).f0 = 0 := by rw [e2]; rfl
    by_cases hcap : (l.length : Int) = cap
    · have h0 : 0 < l.length := by omega
      obtain ⟨q, hq, o1, o2⟩ := old_l cap now c s t l (by omega) y (now + 1) l.length 0 0 (by omega) h0
      have hlen : (l.eraseIdx q).length = l.length - 1 := List.length_eraseIdx_of_lt hq
      have hno' : ∀ j : Nat, j < (l.eraseIdx q).length → (rd_T54 (l.eraseIdx q) j).f0 ≠ c := fun j hj => by
        rw [rd_erase]
        by_cases h : j < q
        · rw [if_pos h]; exact hno j (by omega)
        · rw [if_neg h]; exact hno (j + 1) (by omega)
      obtain ⟨p, hp, q1, q2, b1, b2⟩ := both_ins cap (now + 1) c (l.eraseIdx q) (by omega) y (by rw [hy]) (by omega) hno'
      refine ⟨(cap, now + 1, (l.eraseIdx q).take p ++ y :: (l.eraseIdx q).drop p, true), by simp; omega, by simp; omega, fun _ => ⟨sess_ins (sess_erase hS q) hnow (by omega) hok hyu hp (by rw [hyc]; exact q1) (by rw [hyc]; exact q2) (by rw [hyc]; exact hno'), rfl⟩, fun P h0 hP x hx => by
        rw [List.mem_append, List.mem_cons] at hx
        rcases hx with hx | rfl | hx
        · exact hP x (List.mem_of_mem_eraseIdx (List.mem_of_mem_take hx))
        · rw [hyc]; exact h0
        · exact hP x (List.mem_of_mem_eraseIdx (List.mem_of_mem_drop hx)), ⟨fun h => absurd h1 h, fun _ _ _ => ⟨rfl, by rw [← hy]; exact List.mem_append_right _ List.mem_cons_self⟩, by show now + 1 ≤ now + 1; omega⟩, sj _ (Ev.bind hf (ev_pos hf0 ?_)), ij _ (Ev.bind (ev_const (hix _ hx)) (ev_neg (by omega) (ev_pos hcap ?_)))⟩
      · refine Ev.step (fun k => by rw [spec_Keep.j1]) ?_
        refine ev_pos (by simpa using hcap) (ev_pos (by omega) (o1 _ ?_))
        have := put_true cap now l hl (rd_T54 l q).f0 0 0 0 ⟨#[]⟩ cap now l.length 0 [] (by omega) (by simp)
        rw [List.drop_zero, List.nil_append, filter_erase hS hq] at this
        refine Ev.bind (a := (cap, now, l.eraseIdx q)) this ?_
        show Ev (fun k => (spec_l09Put.f k cap (wrap64 (now + 1)) (l.eraseIdx q) c c s (wrap64 (now + 1)) t).bind fun bt229 => (some (bt229.1, bt229.2.1, bt229.2.2, true))) _
        rw [hw]
        rw [hy] at b1 ⊢
        exact Ev.bind b1 (Ev.now _)
      · have := o2 (cap, now + 1, (l.eraseIdx q).take p ++ y :: (l.eraseIdx q).drop p, true) (by
          refine Ev.bind (a := l.eraseIdx q) (ev_const ?_) b2
          rw [wsucc (n := l.length) hq (by omega)]
          unfold impl_Session_48.f
          rw [toNat_cast, if_pos ⟨by omega, by omega, by omega⟩])
        rw [hy] at this ⊢
        exact this
    · obtain ⟨p, hp, q1, q2, b1, b2⟩ := both_ins cap (now + 1) c l (by omega) y (by rw [hy]) (by omega) hno
      refine ⟨(cap, now + 1, l.take p ++ y :: l.drop p, true), by simp; omega, fun _ => hl12, fun _ => ⟨sess_ins hS hnow (by omega) hok hyu hp (by rw [hyc]; exact q1) (by rw [hyc]; exact q2) (by rw [hyc]; exact hno), rfl⟩, fun P h0 hP x hx => by
        rw [List.mem_append, List.mem_cons] at hx
        rcases hx with hx | rfl | hx
        · exact hP x (List.mem_of_mem_take hx)
        · rw [hyc]; exact h0
        · exact hP x (List.mem_of_mem_drop hx), ⟨fun h => absurd h1 h, fun _ _ _ => ⟨rfl, by rw [← hy]; exact List.mem_append_right _ List.mem_cons_self⟩, by show now + 1 ≤ now + 1; omega⟩, sj _ (Ev.bind hf (ev_pos hf0 ?_)), ij _ (Ev.bind (ev_const (hix _ hx)) (ev_neg (by omega) (ev_neg hcap ?_)))⟩
      · refine Ev.step (fun k => by rw [spec_Keep.j1]) ?_
        rw [hw]
        rw [hy] at b1 ⊢
        exact ev_neg (by simpa using hcap) (Ev.bind b1 (Ev.now _))
      · rw [hy] at b2 ⊢
        exact b2

theorem strOne (x : Int) (b : UInt8) (h : (strOfNums [x]).data = #[b]) : strOfNums [x] ++ (⟨#[]⟩ : ByteArray) = ⟨#[b]⟩ := by
  have e : strOfNums [x] = ⟨#[b]⟩ := by
    rw [← h]
  rw [e]
  apply ByteArray.ext
  simp
theorem num_ev (n : Int) (h0 : 0 ≤ n) (h4 : n ≤ 4) : ∃ s : ByteArray, strconv_Itoa.f n = some s ∧ s.size = 1 ∧ Ev (fun k => spec_l01Num.f k n) s := by
  have one : ∀ (m : Int) (s : ByteArray), 0 < m → m < 10 → strOfNums [(wrap64 (48 + (Int.tmod m 10))) % 256] ++ (⟨#[]⟩ : ByteArray) = s → Int.tdiv m 10 = 0 → ¬ Int.tmod m 10 < 0 → (decide (m < 0)) = false → Ev (fun k => spec_l01Num.f k m) s := by
    intro m s hm hm9 he hq hr hn
    unfold spec_l01Num.f
    refine ev_neg (by omega) ?_
    refine Ev.step (fun k => by rw [spec_l01Num.l0]) ?_
    refine ev_neg (by omega) (ev_neg hr (Ev.bind (Ev.now _) (ev_pos ?_ ?_)))
    · unfold strOfNums
      simp [ByteArray.size]
    rw [he, hq, hn]
    refine Ev.step (fun k => by rw [spec_l01Num.l0]) ?_
    exact ev_pos (w64 (by decide) (by decide)) (ev_neg (by simp) (Ev.now _))
  have dg : ∀ m : Nat, m < 10 → Lib.decDigits m = [UInt8.ofNat (48 + m)] := fun m hm => by rw [Lib.decDigits, dif_pos hm]
  have it : ∀ m : Nat, m < 10 → strconv_Itoa.f (m : Int) = some ⟨#[UInt8.ofNat (48 + m)]⟩ := fun m hm => by
    unfold strconv_Itoa.f
    rw [if_pos (by omega), toNat_cast, dg m hm]
  have hc : n = 0 ∨ n = 1 ∨ n = 2 ∨ n = 3 ∨ n = 4 := by omega
  rcases hc with rfl | rfl | rfl | rfl | rfl
  · refine ⟨⟨#[48]⟩, it 0 (by decide), rfl, ?_⟩
    unfold spec_l01Num.f
    exact ev_pos rfl (Ev.now _)
  · exact ⟨⟨#[49]⟩, it 1 (by decide), rfl, one 1 _ (by decide) (by decide) (strOne _ _ (by rw [show wrap64 (48 + Int.tmod 1 10) = 49 from (w64 (by decide) (by decide)).trans (by decide)]; rfl)) (by decide) (by decide) (by decide)⟩
  · exact ⟨⟨#[50]⟩, it 2 (by decide), rfl, one 2 _ (by decide) (by decide) (strOne _ _ (by rw [show wrap64 (48 + Int.tmod 2 10) = 50 from (w64 (by decide) (by decide)).trans (by decide)]; rfl)) (by decide) (by decide) (by decide)⟩
  · exact ⟨⟨#[51]⟩, it 3 (by decide), rfl, one 3 _ (by decide) (by decide) (strOne _ _ (by rw [show wrap64 (48 + Int.tmod 3 10) = 51 from (w64 (by decide) (by decide)).trans (by decide)]; rfl)) (by decide) (by decide) (by decide)⟩
  · exact ⟨⟨#[52]⟩, it 4 (by decide), rfl, one 4 _ (by decide) (by decide) (strOne _ _ (by rw [show wrap64 (48 + Int.tmod 4 10) = 52 from (w64 (by decide) (by decide)).trans (by decide)]; rfl)) (by decide) (by decide) (by decide)⟩
theorem lookM_code (cap now : Int) (l : List S54) (c s : Int) : 0 ≤ (lookM cap now l c s).1 ∧ (lookM cap now l c s).1 ≤ 4 := by
  unfold lookM lookY
  by_cases h : SessP cap now l ∧ (1 ≤ c ∧ c ≤ 999) ∧ (1 ≤ s ∧ s ≤ 1000000)
  · rw [if_pos h]
    by_cases h1 : s = wrap64 ((lastOf l c).f1 + 1)
    · rw [if_pos h1]; exact ⟨by show (0 : Int) ≤ 0; decide, by show (0 : Int) ≤ 4; decide⟩
    rw [if_neg h1]
    by_cases h2 : s = (lastOf l c).f1
    · rw [if_pos h2]; exact ⟨by show (0 : Int) ≤ 1; decide, by show (1 : Int) ≤ 4; decide⟩
    rw [if_neg h2]
    by_cases h3 : s < (lastOf l c).f1
    · rw [if_pos h3]; exact ⟨by show (0 : Int) ≤ 2; decide, by show (2 : Int) ≤ 4; decide⟩
    · rw [if_neg h3]; exact ⟨by show (0 : Int) ≤ 3; decide, by show (3 : Int) ≤ 4; decide⟩
  · rw [if_neg h]; exact ⟨by show (0 : Int) ≤ 4; decide, by show (4 : Int) ≤ 4; decide⟩
/-- Calls played one behind the other: both come to the same. -/
theorem once_l (cs : List S50) (hcs : cs.length ≤ 1048576) (d : Nat) : ∀ (i : Nat) (told : List ByteArray) (cap now : Int) (l : List S54), cs.length = i + d → told.length ≤ i → l.length ≤ 1048576 →
    ∃ r : Int × Int × List S54 × List ByteArray, r.2.2.1.length ≤ 1048576 ∧ r.2.2.2.length = told.length + d ∧ Ev (fun k => spec_OnceEach.l0 k cs told i cap now l) r ∧ Ev (fun k => impl_OnceEach.l0 k told cs cs.length i cap now l) r ∧ (SessP cap now l → SessP cap r.2.1 r.2.2.1 ∧ r.1 = cap) ∧ (∀ P : Int → Prop, (∀ x ∈ cs, P x.f0) → (∀ x ∈ l, P x.f0) → ∀ x ∈ r.2.2.1, P x.f0) ∧ r.2.1 ≤ now + d := by
  induction d with
  | zero =>
    intro i told cap now l hd ht hl
    refine ⟨(cap, now, l, told), hl, by simp, ?_, ?_, fun h => ⟨h, rfl⟩, fun _ _ h => h, by show now ≤ now + ((0 : Nat) : Int); omega⟩
    · refine Ev.step (fun k => by rw [spec_OnceEach.l0]) ?_
      exact ev_neg (by omega) (Ev.now _)
    · refine Ev.step (fun k => by rw [impl_OnceEach.l0]) ?_
      exact ev_neg (by omega) (Ev.now _)
  | succ d ih =>
    intro i told cap now l hd ht hl
    obtain ⟨x, hx⟩ : ∃ x : S50, x = rd_T50 cs i := ⟨_, rfl⟩
    have hxm : x ∈ cs := by
      rw [hx]; unfold rd_T50; rw [toNat_cast]; exact getD_mem cs i z50 (by omega)
    obtain ⟨u, u1, u2, u3, u4, ⟨_, _, u7⟩, u5, u6⟩ := keep_ev cap now l hl x.f0 x.f1 x.f2
    have hul : u.2.2.1.length ≤ 1048576 := by
      by_cases h : u.2.2.1.length = l.length + 1
      · have := u2 h; omega
      · omega
    have hsl := specLook_ev cap now l hl x.f0 x.f1
    have hil := implLook_ev cap now l hl x.f0 x.f1
    obtain ⟨y, hy⟩ : ∃ y, y = lookM cap now l x.f0 x.f1 := ⟨_, rfl⟩
    have hyc := lookM_code cap now l x.f0 x.f1
    rw [← hy] at hsl hil hyc
    have hw := wsucc (j := i) (n := cs.length) (by omega) (by omega)
    obtain ⟨a, ha, has, hsz⟩ : ∃ a : ByteArray, (∀ t s v, Ev (fun k => spec_OnceEach.l0 k cs (told ++ [a]) (wrap64 ((i : Int) + 1)) t s v) = Ev (fun k => spec_OnceEach.l0 k cs (told ++ [a]) ((i + 1 : Nat) : Int) t s v)) ∧
        (∀ r, Ev (fun k => spec_OnceEach.l0 k cs (told ++ [a]) ((i + 1 : Nat) : Int) u.1 u.2.1 u.2.2.1) r → Ev (fun k => spec_OnceEach.l0 k cs told i cap now l) r) ∧ (∀ r, Ev (fun k => impl_OnceEach.l0 k (told ++ [a]) cs cs.length ((i + 1 : Nat) : Int) u.1 u.2.1 u.2.2.1) r → Ev (fun k => impl_OnceEach.l0 k told cs cs.length i cap now l) r) := by
      by_cases h1 : u.2.2.2 = true
      · refine ⟨x.f2, fun _ _ _ => by rw [hw], fun r hr => ?_, fun r hr => ?_⟩
        · refine Ev.step (fun k => by rw [spec_OnceEach.l0]) ?_
          rw [← hx, hw]
          exact ev_pos (by omega) (ev_pos (by omega) (Ev.bind hsl (Ev.bind u5 (ev_pos h1 (ev_pos (by omega) hr)))))
        · refine Ev.step (fun k => by rw [impl_OnceEach.l0]) ?_
          rw [← hx, hw]
          exact ev_pos (by omega) (ev_pos (by omega) (ev_pos (by omega) (Ev.bind u6 (Ev.bind hil (ev_pos h1 (ev_pos (by omega) hr))))))
      by_cases h2 : y.1 = 1
      · refine ⟨y.2, fun _ _ _ => by rw [hw], fun r hr => ?_, fun r hr => ?_⟩
        · refine Ev.step (fun k => by rw [spec_OnceEach.l0]) ?_
          rw [← hx, hw]
          exact ev_pos (by omega) (ev_pos (by omega) (Ev.bind hsl (Ev.bind u5 (ev_neg h1 (ev_pos h2 (ev_pos (by omega) hr))))))
        · refine Ev.step (fun k => by rw [impl_OnceEach.l0]) ?_
          rw [← hx, hw]
          exact ev_pos (by omega) (ev_pos (by omega) (ev_pos (by omega) (Ev.bind u6 (Ev.bind hil (ev_neg h1 (ev_pos h2 (ev_pos (by omega) hr)))))))
      obtain ⟨s, s1, s2, s3⟩ := num_ev y.1 hyc.1 hyc.2
      refine ⟨(⟨#[33]⟩ : ByteArray) ++ s, fun _ _ _ => by rw [hw], fun r hr => ?_, fun r hr => ?_⟩
      · refine Ev.step (fun k => by rw [spec_OnceEach.l0]) ?_
        rw [← hx, hw]
        exact ev_pos (by omega) (ev_pos (by omega) (Ev.bind hsl (Ev.bind u5 (ev_neg h1 (ev_neg h2 (Ev.bind s3 (ev_pos (by omega) (ev_pos (by omega) hr))))))))
      · refine Ev.step (fun k => by rw [impl_OnceEach.l0]) ?_
        rw [← hx, hw]
        exact ev_pos (by omega) (ev_pos (by omega) (ev_pos (by omega) (Ev.bind u6 (Ev.bind hil (ev_neg h1 (ev_neg h2 (Ev.bind (ev_const s1) (ev_pos (by omega) (ev_pos (by omega) hr)))))))))
    obtain ⟨r, r1, r2, r3, r4, r5, r6, r7⟩ := ih (i + 1) (told ++ [a]) u.1 u.2.1 u.2.2.1 (by omega) (by simp; omega) hul
    refine ⟨r, r1, by rw [r2]; simp; omega, has r r3, hsz r r4, fun h => ?_, fun P hP hQ => r6 P hP (u4 P (hP x hxm) hQ), by omega⟩
    obtain ⟨k1, k2⟩ := u3 h
    rw [k2] at r5
    exact r5 k1
theorem once_ev (cap now : Int) (l : List S54) (hl : l.length ≤ 1048576) (cs : List S50) (hcs : cs.length ≤ 1048576) :
    ∃ r : Int × Int × List S54 × List ByteArray, r.2.2.1.length ≤ 1048576 ∧ r.2.2.2.length ≤ 1048576 ∧ Ev (fun k => spec_OnceEach.f k cap now l cs) r ∧ Ev (fun k => impl_OnceEach.f k cap now l cs) r ∧ (SessP cap now l → SessP cap r.2.1 r.2.2.1 ∧ r.1 = cap) ∧ (∀ P : Int → Prop, (∀ x ∈ cs, P x.f0) → (∀ x ∈ l, P x.f0) → ∀ x ∈ r.2.2.1, P x.f0) ∧ r.2.1 ≤ now + cs.length := by
  obtain ⟨b, hb, hi⟩ := specSess_ev cap now l hl
  obtain ⟨b', hb', hi'⟩ := implSess_ev cap now l hl
  have e : b' = b := by rw [Bool.eq_iff_iff, hi, hi']
  subst e
  have hcp := l09Copy_ev cap now l hl
  have hcs' := copyS_ev cap now l hl
  have sb : ∀ b0 : Bool, b0 = true → Ev (fun k => spec_OnceEach.j0 k cs b0 cap now l) (cap, now, l, []) := fun b0 h => by
    refine Ev.step (fun k => by rw [spec_OnceEach.j0]) ?_
    exact ev_pos h (Ev.bind hcp (Ev.now _))
  have ib : ∀ b0 : Bool, b0 = true → Ev (fun k => impl_OnceEach.j0 k cs b0 cap now l) (cap, now, l, []) := fun b0 h => by
    refine Ev.step (fun k => by rw [impl_OnceEach.j0]) ?_
    exact ev_pos h (Ev.now _)
  unfold spec_OnceEach.f impl_OnceEach.f
  by_cases h1 : b' = true
  rotate_left
  · exact ⟨(cap, now, l, []), hl, by simp, Ev.bind hb (ev_neg h1 (sb _ rfl)), Ev.bind (ev_const hcs') (Ev.bind hb' (ev_neg h1 (ib _ rfl))), fun h => ⟨h, rfl⟩, fun _ _ h => h, by show now ≤ now + (cs.length : Int); omega⟩
  by_cases h2 : (cs.length : Int) > 200
  · exact ⟨(cap, now, l, []), hl, by simp, Ev.bind hb (ev_pos h1 (sb _ (decide_eq_true h2))), Ev.bind (ev_const hcs') (Ev.bind hb' (ev_pos h1 (ib _ (decide_eq_true h2)))), fun h => ⟨h, rfl⟩, fun _ _ h => h, by show now ≤ now + (cs.length : Int); omega⟩
  obtain ⟨r, r1, r2, r3, r4, r5, r6⟩ := once_l cs hcs cs.length 0 [] cap now l (by omega) (by simp) hl
  refine ⟨r, r1, by rw [r2]; simp; omega, Ev.bind hb (ev_pos h1 ?_), Ev.bind (ev_const hcs') (Ev.bind hb' (ev_pos h1 ?_)), r5, r6⟩
  · refine Ev.step (fun k => by rw [spec_OnceEach.j0]) ?_
    exact ev_neg (by simpa using h2) (Ev.bind hcp r3)
  · refine Ev.step (fun k => by rw [impl_OnceEach.j0]) ?_
    exact ev_neg (by simpa using h2) r4

theorem and_mask (x : Int) (m : Nat) (hm : m < 9223372036854775808) : 0 ≤ Go.bits .and .i64 x (m : Int) ∧ Go.bits .and .i64 x (m : Int) ≤ m := by
  have h : (BitVec.ofInt 64 x &&& BitVec.ofInt 64 (m : Int)).toNat ≤ m := by
    rw [BitVec.toNat_and]
    refine Nat.le_trans Nat.and_le_right ?_
    rw [BitVec.ofInt_natCast, BitVec.toNat_ofNat]
    exact Nat.mod_le _ _
  obtain ⟨q, hq⟩ : ∃ q : Nat, q = (BitVec.ofInt 64 x &&& BitVec.ofInt 64 (m : Int)).toNat := ⟨_, rfl⟩
  have e : Go.bits .and .i64 x (m : Int) = IntKind.i64.wrap (q : Int) := by rw [hq]; rfl
  rw [e, IntKind.wrap_i64]
  omega
theorem u64_range (x : Int) : 0 ≤ IntKind.u64.wrap x ∧ IntKind.u64.wrap x ≤ 18446744073709551615 := by
  simp only [IntKind.wrap, IntKind.signed, IntKind.bits]
  simp
  omega
theorem byte_ev (b : List Int) (hb : b.length ≤ 1048576) (i h : Int) (h0 : 0 ≤ i) : ∃ x i' h', spec_l01Byte.f b i h = some (x, i', h') ∧ 0 ≤ i' ∧ 0 ≤ x ∧ x ≤ 255 := by
  unfold spec_l01Byte.f
  by_cases hi : i < (b.length : Int)
  · rw [if_pos hi, if_pos h0]
    have := and_mask
    exact ⟨_, _, _, rfl, by rw [w64 (by omega) (by omega)]; omega, (and_mask _ 255 (by decide)).1, (and_mask _ 255 (by decide)).2⟩
  · rw [if_neg hi]
    exact ⟨_, _, _, rfl, h0, (and_mask _ 255 (by decide)).1, (and_mask _ 255 (by decide)).2⟩
theorem below_ev (b : List Int) (hb : b.length ≤ 1048576) (i h n : Int) (h0 : 0 ≤ i) : ∃ x i' h', spec_l01Below.f b i h n = some (x, i', h') ∧ 0 ≤ i' ∧ 0 ≤ x ∧ (0 < n → x < n) ∧ (n ≤ 0 → x = 0) := by
  unfold spec_l01Below.f
  by_cases h1 : n ≤ 0
  · rw [if_pos h1]
    exact ⟨0, i, h, rfl, h0, by omega, by omega, fun _ => rfl⟩
  rw [if_neg h1]
  by_cases h2 : n ≤ 256
  · rw [if_pos h2]
    obtain ⟨x, i', h', e, g0, g1, g2⟩ := byte_ev b hb i h h0
    rw [e]
    simp only [Option.bind_some]
    rw [if_neg (by omega)]
    exact ⟨_, _, _, rfl, g0, Int.tmod_nonneg _ g1, fun _ => Int.tmod_lt_of_pos _ (by omega), fun h => by omega⟩
  · rw [if_neg h2]
    obtain ⟨x, i1, h1', e1, g0, g1, g2⟩ := byte_ev b hb i h h0
    obtain ⟨y, i2, h2', e2, k0, k1, k2⟩ := byte_ev b hb i1 h1' g0
    obtain ⟨z, i3, h3', e3, m0, m1, m2⟩ := byte_ev b hb i2 h2' k0
    rw [e1]
    simp only [Option.bind_some]
    rw [e2]
    simp only [Option.bind_some]
    rw [e3]
    simp only [Option.bind_some]
    rw [if_neg (by omega)]
    have w1 : wrap64 (x * 65536) = x * 65536 := w64 (by omega) (by omega)
    have w2 : wrap64 (y * 256) = y * 256 := w64 (by omega) (by omega)
    have w3 : wrap64 (x * 65536 + y * 256) = x * 65536 + y * 256 := w64 (by omega) (by omega)
    have w4 : wrap64 (x * 65536 + y * 256 + z) = x * 65536 + y * 256 + z := w64 (by omega) (by omega)
    rw [w1, w2, w3, w4]
    exact ⟨_, _, _, rfl, m0, Int.tmod_nonneg _ (by omega), fun _ => Int.tmod_lt_of_pos _ (by omega), fun h => by omega⟩

theorem size_ev (l : List Int) (hl : l.length ≤ 1048576) (m : Int) : ∃ n, spec_l01Size.f l m = some n ∧ n ≤ m ∧ (0 ≤ m → 0 ≤ n) := by
  unfold spec_l01Size.f
  rw [w64 (x := (l.length : Int) / 16) (by omega) (by omega), w64 (x := 2 + (l.length : Int) / 16) (by omega) (by omega)]
  by_cases h : 2 + (l.length : Int) / 16 > m
  · rw [if_pos h]; exact ⟨m, rfl, by omega, fun h => h⟩
  · rw [if_neg h]; exact ⟨_, rfl, by omega, fun _ => by omega⟩

theorem new_l (l : List Int) (hl : l.length ≤ 1048576) (d : Nat) : ∀ (i : Nat) (h : Int), l.length = i + d → ∃ h', Ev (fun k => spec_l01New.l0 k l h i) (l, 0, h') := by
  induction d with
  | zero =>
    intro i h hd
    refine ⟨h, ?_⟩
    refine Ev.step (fun k => by rw [spec_l01New.l0]) ?_
    exact ev_neg (by omega) (Ev.now _)
  | succ d ih =>
    intro i h hd
    by_cases h4 : (i : Int) < 4000
    · obtain ⟨h', hh⟩ := ih (i + 1) (Go.bits .and .i64 (wrap64 ((wrap64 ((wrap64 (h * 149)) + (wrap64 (rd l i)))) + 11)) 1073741823) (by omega)
      refine ⟨h', ?_⟩
      refine Ev.step (fun k => by rw [spec_l01New.l0]) ?_
      rw [wsucc (n := l.length) (by omega) (by omega)]
      exact ev_pos (by omega) (ev_pos h4 (ev_pos (by omega) hh))
    · refine ⟨h, ?_⟩
      refine Ev.step (fun k => by rw [spec_l01New.l0]) ?_
      exact ev_pos (by omega) (ev_neg h4 (Ev.now _))
theorem new_ev (l : List Int) (hl : l.length ≤ 1048576) : ∃ h, Ev (fun k => spec_l01New.f k l) (l, 0, h) := by
  obtain ⟨h, hh⟩ := new_l l hl l.length 0 (wrap64 (138138 + (l.length : Int))) (by omega)
  exact ⟨h, hh⟩

theorem pickT_ev (b : List Int) (hb : b.length ≤ 1048576) (i h : Int) (l : List ByteArray) (hl : 0 < l.length) (h0 : 0 ≤ i) : ∃ s i' h', spec_l01PickText.f b i h l = some (s, i', h') ∧ 0 ≤ i' ∧ s ∈ l := by
  obtain ⟨x, i', h', e, g0, g1, g2, _⟩ := below_ev b hb i h (l.length : Int) h0
  have hx := g2 (by omega)
  unfold spec_l01PickText.f
  rw [e]
  simp only [Option.bind_some]
  rw [if_pos g1, if_pos hx]
  refine ⟨_, _, _, rfl, g0, ?_⟩
  unfold rdOf
  rw [List.getD_eq_getElem?_getD, List.getElem?_eq_getElem (show x.toNat < l.length by omega)]
  exact List.getElem_mem _
theorem words_size {t : ByteArray} (h : t ∈ [(⟨#[111, 107]⟩ : ByteArray), (⟨#[110, 111]⟩ : ByteArray), (⟨#[]⟩ : ByteArray), (⟨#[55]⟩ : ByteArray)]) : t.size ≤ 40 := by
  simp only [List.mem_cons, List.not_mem_nil, or_false] at h
  rcases h with rfl | rfl | rfl | rfl
  · show 2 ≤ 40; decide
  · show 2 ≤ 40; decide
  · show 0 ≤ 40; decide
  · show 1 ≤ 40; decide
theorem calls_l (b : List Int) (hb : b.length ≤ 1048576) (d : Nat) : ∀ (cs : List S50) (nx : List Int) (i h : Int), nx.length = 6 → 0 ≤ i → cs.length + d ≤ 100 → (∀ x ∈ cs, (3 ≤ x.f0 ∧ x.f0 ≤ 8) ∧ x.f2.size ≤ 40) → ∃ r i' h', Ev (fun k => spec_l09DrawCalls.l0 k cs nx (d : Int) b i h) (r, i', h') ∧ 0 ≤ i' ∧ r.length ≤ 100 ∧ ∀ x ∈ r, (3 ≤ x.f0 ∧ x.f0 ≤ 8) ∧ x.f2.size ≤ 40 := by
  induction d with
  | zero =>
    intro cs nx i h hn h0 hc hp
    refine ⟨cs, i, h, ?_, h0, by omega, hp⟩
    refine Ev.step (fun k => by rw [spec_l09DrawCalls.l0]) ?_
    exact ev_neg (by omega) (Ev.now _)
  | succ d ih =>
    intro cs nx i h hn h0 hc hp
    obtain ⟨x, i1, h1, e1, a0, a1, a2, _⟩ := below_ev b hb i h 6 h0
    have a3 := a2 (by decide)
    obtain ⟨z, i2, h2, e2, c0, c1, c2, _⟩ := below_ev b hb i1 h1 6 a0
    have hw : wrap64 (((d + 1 : Nat) : Int) - 1) = (d : Int) := by rw [w64 (by omega) (by omega)]; omega
    have w3 : wrap64 (3 + x) = 3 + x := w64 (by omega) (by omega)
    have hp' : ∀ (q : Int) (t : ByteArray), t.size ≤ 40 → ∀ y ∈ cs ++ [(⟨3 + x, q, t⟩ : S50)], (3 ≤ y.f0 ∧ y.f0 ≤ 8) ∧ y.f2.size ≤ 40 := fun q t ht y hy => by
      rcases List.mem_append.1 hy with hy | hy
      · exact hp y hy
      · obtain rfl := List.mem_singleton.1 hy
        exact ⟨⟨by show 3 ≤ 3 + x; omega, by show 3 + x ≤ 8; omega⟩, ht⟩
    have hlen : ∀ (q : Int) (t : ByteArray), (cs ++ [(⟨3 + x, q, t⟩ : S50)]).length + d ≤ 100 := fun q t => by simp; omega
    have st : ∀ r, Ev (fun k => if z = 0 then ((spec_l01PickText.f b i2 h2 (([(⟨#[111, 107]⟩ : ByteArray), (⟨#[110, 111]⟩ : ByteArray), (⟨#[]⟩ : ByteArray), (⟨#[55]⟩ : ByteArray)] : List ByteArray))).bind fun bt366 => (if cs.length < 4398046511104 then (spec_l09DrawCalls.l0 k (cs ++ [(⟨wrap64 (3 + x), wrap64 ((rd nx x) - 1), bt366.1⟩ : S50)]) nx (wrap64 (((d + 1 : Nat) : Int) - 1)) b bt366.2.1 bt366.2.2) else (none))) else (if z = 1 then ((spec_l01Below.f b i2 h2 3).bind fun bt372 => ((spec_l01PickText.f b bt372.2.1 bt372.2.2 (([(⟨#[111, 107]⟩ : ByteArray), (⟨#[110, 111]⟩ : ByteArray), (⟨#[]⟩ : ByteArray), (⟨#[55]⟩ : ByteArray)] : List ByteArray))).bind fun bt378 => (if cs.length < 4398046511104 then (spec_l09DrawCalls.l0 k (cs ++ [(⟨wrap64 (3 + x), wrap64 ((wrap64 ((rd nx x) + bt372.1)) - 1), bt378.1⟩ : S50)]) nx (wrap64 (((d + 1 : Nat) : Int) - 1)) b bt378.2.1 bt378.2.2) else (none)))) else ((spec_l01PickText.f b i2 h2 (([(⟨#[111, 107]⟩ : ByteArray), (⟨#[110, 111]⟩ : ByteArray), (⟨#[]⟩ : ByteArray), (⟨#[55]⟩ : ByteArray)] : List ByteArray))).bind fun bt389 => (if cs.length < 4398046511104 then (spec_l09DrawCalls.l0 k (cs ++ [(⟨wrap64 (3 + x), rd nx x, bt389.1⟩ : S50)]) (nx.set (x : Int).toNat (wrap64 ((rd nx x) + 1))) (wrap64 (((d + 1 : Nat) : Int) - 1)) b bt389.2.1 bt389.2.2) else (none))))) r → Ev (fun k => spec_l09DrawCalls.l0 k cs nx ((d + 1 : Nat) : Int) b i h) r := fun r hr => by
      refine Ev.step (fun k => by rw [spec_l09DrawCalls.l0]) ?_
      exact ev_pos (by omega) (Ev.bind (ev_const e1) (ev_pos a1 (ev_pos (by omega) (Ev.bind (ev_const e2) hr))))
    rw [hw, w3] at st
    by_cases z0 : z = 0
    · obtain ⟨t, i3, h3, e3, k0, km⟩ := pickT_ev b hb i2 h2 [(⟨#[111, 107]⟩ : ByteArray), (⟨#[110, 111]⟩ : ByteArray), (⟨#[]⟩ : ByteArray), (⟨#[55]⟩ : ByteArray)] (by simp) c0
      obtain ⟨r, i', h', hr, r0, r1, r2⟩ := ih (cs ++ [⟨3 + x, _, t⟩]) nx i3 h3 hn k0 (hlen _ _) (hp' _ _ (words_size km))
      exact ⟨r, i', h', st _ (ev_pos z0 (Ev.bind (ev_const e3) (ev_pos (by omega) hr))), r0, r1, r2⟩
    by_cases z1 : z = 1
    · obtain ⟨q, i4, h4, e4, m0, _⟩ := below_ev b hb i2 h2 3 c0
      obtain ⟨t, i3, h3, e3, k0, km⟩ := pickT_ev b hb i4 h4 [(⟨#[111, 107]⟩ : ByteArray), (⟨#[110, 111]⟩ : ByteArray), (⟨#[]⟩ : ByteArray), (⟨#[55]⟩ : ByteArray)] (by simp) m0
      obtain ⟨r, i', h', hr, r0, r1, r2⟩ := ih (cs ++ [⟨3 + x, _, t⟩]) nx i3 h3 hn k0 (hlen _ _) (hp' _ _ (words_size km))
      exact ⟨r, i', h', st _ (ev_neg z0 (ev_pos z1 (Ev.bind (ev_const e4) (Ev.bind (ev_const e3) (ev_pos (by omega) hr))))), r0, r1, r2⟩
    · obtain ⟨t, i3, h3, e3, k0, km⟩ := pickT_ev b hb i2 h2 [(⟨#[111, 107]⟩ : ByteArray), (⟨#[110, 111]⟩ : ByteArray), (⟨#[]⟩ : ByteArray), (⟨#[55]⟩ : ByteArray)] (by simp) c0
      obtain ⟨r, i', h', hr, r0, r1, r2⟩ := ih (cs ++ [⟨3 + x, _, t⟩]) (nx.set (x : Int).toNat (wrap64 ((rd nx x) + 1))) i3 h3 (by rw [List.length_set]; exact hn) k0 (hlen _ _) (hp' _ _ (words_size km))
      exact ⟨r, i', h', st _ (ev_neg z0 (ev_neg z1 (Ev.bind (ev_const e3) (ev_pos (by omega) hr)))), r0, r1, r2⟩
theorem calls_ev (b l1 : List Int) (hb : b.length ≤ 1048576) (h1 : l1.length ≤ 1048576) (i h : Int) (h0 : 0 ≤ i) : ∃ r i' h', Ev (fun k => spec_l09DrawCalls.f k b i h l1) (r, i', h') ∧ 0 ≤ i' ∧ r.length ≤ 100 ∧ ∀ x ∈ r, (3 ≤ x.f0 ∧ x.f0 ≤ 8) ∧ x.f2.size ≤ 40 := by
  obtain ⟨n, hn, n1, n2⟩ := size_ev l1 h1 18
  have n3 := n2 (by decide)
  have hw : wrap64 (2 + n) = 2 + n := w64 (by omega) (by omega)
  obtain ⟨x, i1, h2, e1, a0, a1, a2, _⟩ := below_ev b hb i h (2 + n) h0
  have a3 := a2 (by omega)
  obtain ⟨r, i', h', hr, r0, r1, r2⟩ := calls_l b hb x.toNat [] [1, 1, 1, 1, 1, 1] i1 h2 rfl a0 (by simp; omega) (by simp)
  rw [Int.toNat_of_nonneg a1] at hr
  refine ⟨r, i', h', ?_, r0, r1, r2⟩
  unfold spec_l09DrawCalls.f
  rw [hn]
  simp only [Option.bind_some]
  rw [hw]
  exact Ev.bind (ev_const e1) hr
/-- What is drawn: right sessions, and calls of the clients 3 to 8. -/
theorem drawS_ev (l : List Int) (hl : l.length ≤ 1048576) : ∃ (cap now : Int) (s : List S54) (cs : List S50), Ev (fun k => spec_DrawRightSessions.f k l) (cap, now, s, cs) ∧ SessP cap now s ∧ cs.length ≤ 100 ∧ (∀ x ∈ cs, (3 ≤ x.f0 ∧ x.f0 ≤ 8) ∧ x.f2.size ≤ 40) ∧ (∀ x ∈ s, 3 ≤ x.f0 ∧ x.f0 ≤ 8) ∧ now ≤ 100 := by
  obtain ⟨h, hh⟩ := new_ev l hl
  obtain ⟨x, i1, h1, e1, a0, a1, a2, _⟩ := below_ev l hl 0 h 5 (by omega)
  have a3 := a2 (by decide)
  have hw : wrap64 (1 + x) = 1 + x := w64 (by omega) (by omega)
  obtain ⟨c1, i2, h2, e2, b0, b1, b2⟩ := calls_ev l l hl hl i1 h1 a0
  obtain ⟨c2, i3, h3, e3, d0, d1, d2⟩ := calls_ev l l hl hl i2 h2 b0
  have s0 : SessP (1 + x) 0 [] := ⟨by omega, by omega, by simp; omega, fun j hj => absurd hj (by simp)⟩
  obtain ⟨r, r1, r2, r3, r4, r5, r6, r7⟩ := once_ev (1 + x) 0 [] (by simp) c1 (by omega)
  obtain ⟨k1, k2⟩ := r5 s0
  refine ⟨r.1, r.2.1, r.2.2.1, c2, ?_, by rw [k2]; exact k1, d1, d2, r6 (fun c => 3 ≤ c ∧ c ≤ 8) (fun x hx => (b2 x hx).1) (by simp), by omega⟩
  unfold spec_DrawRightSessions.f spec_l09DrawRight.f
  refine Ev.bind hh (Ev.bind (a := (r.1, r.2.1, r.2.2.1, i2, h2)) ?_ (Ev.bind e3 (Ev.now _)))
  refine Ev.bind (ev_const e1) (Ev.bind e2 ?_)
  rw [hw]
  exact Ev.bind r3 (Ev.now _)

theorem last_at {l : List S54} {cap now : Int} (h : SessP cap now l) {j : Nat} (hj : j < l.length) : lastOf l (rd_T54 l j).f0 = rd_T54 l j := by
  rcases idx_cases l (rd_T54 l j).f0 with ⟨i, hi, _, e1, e2, _⟩ | ⟨_, _, hno⟩
  · have : i = j := by
      rcases Nat.lt_trichotomy i j with q | q | q
      · have := sorted_lt h q hj; omega
      · exact q
      · have := sorted_lt h q hi; omega
    rw [e2, this]
  · exact absurd rfl (hno j hj)
theorem look_ev (cap now : Int) (l : List S54) (hl : l.length ≤ 1048576) (c s : Int) : Ev (fun k => impl_Look.f k cap now l c s) (lookM cap now l c s) := by
  unfold impl_Look.f
  exact Ev.bind (implLook_ev cap now l hl c s) (Ev.now _)

theorem look_in {cap now : Int} {l : List S54} {c s : Int} (h : (lookM cap now l c s).1 ≤ 3) : SessP cap now l ∧ (1 ≤ c ∧ c ≤ 999) ∧ (1 ≤ s ∧ s ≤ 1000000) := by
  unfold lookM at h
  by_cases g : SessP cap now l ∧ (1 ≤ c ∧ c ≤ 999) ∧ (1 ≤ s ∧ s ≤ 1000000)
  · exact g
  · rw [if_neg g] at h; exact absurd h (by show ¬ (4 : Int) ≤ 3; decide)
/-- What one call comes to. -/
def StepQ (cap now : Int) (l : List S54) (x : S50) (now' : Int) (l' : List S54) (a : ByteArray) : Prop :=
  SessP cap now' l' ∧ now' ≤ now + 1 ∧ ((lookM cap now l x.f0 x.f1).1 = 0 → lookM cap now' l' x.f0 x.f1 = (1, x.f2) ∧ a = x.f2) ∧ ((lookM cap now l x.f0 x.f1).1 = 1 → now' = now ∧ l' = l ∧ a = (lookM cap now l x.f0 x.f1).2)
theorem step_l {cap now : Int} {l : List S54} (hS : SessP cap now l) (x : S50) (hx : x.f2.size ≤ 40) (hn : now < 1000000) : ∃ now' l' a, StepQ cap now l x now' l' a ∧
    ∀ (cs : List S50) (i : Nat) (told : List ByteArray), i < cs.length → cs.length ≤ 1048576 → told.length ≤ i → rd_T50 cs i = x → ∀ r, Ev (fun k => impl_OnceEach.l0 k (told ++ [a]) cs cs.length ((i + 1 : Nat) : Int) cap now' l') r → Ev (fun k => impl_OnceEach.l0 k told cs cs.length i cap now l) r := by
  have hl : l.length ≤ 1048576 := by have := hS.1; have := hS.2.2.1; omega
  obtain ⟨u, u1, u2, u3, u4, ⟨v1, v2, v3⟩, u5, u6⟩ := keep_ev cap now l hl x.f0 x.f1 x.f2
  have hil := implLook_ev cap now l hl x.f0 x.f1
  obtain ⟨hS', hc'⟩ := u3 hS
  have hyc := lookM_code cap now l x.f0 x.f1
  have hin := look_in (cap := cap) (now := now) (l := l) (c := x.f0) (s := x.f1)
  unfold StepQ
  obtain ⟨y, hy⟩ : ∃ y, y = lookM cap now l x.f0 x.f1 := ⟨_, rfl⟩
  rw [← hy] at hil hyc v1 v2 hin
  rw [← hy]
  clear hy
  by_cases h0 : y.1 = 0
  · obtain ⟨w1, w2⟩ := v2 h0 hx hn
    obtain ⟨_, hcr, hsr⟩ := hin (by omega)
    refine ⟨u.2.1, u.2.2.1, x.f2, ⟨hS', v3, fun _ => ⟨?_, rfl⟩, fun h => by omega⟩, ?_⟩
    · obtain ⟨q, hq, e⟩ := List.mem_iff_getElem.1 w2
      have hla := last_at hS' hq
      rw [rdE u.2.2.1 q hq, e] at hla
      have hla' : lastOf u.2.2.1 x.f0 = ⟨x.f0, x.f1, now + 1, x.f2⟩ := hla
      unfold lookM
      rw [if_pos ⟨hS', hcr, hsr⟩, hla']
      unfold lookY
      rw [if_neg (by rw [w64 (by show -9223372036854775808 ≤ x.f1 + 1; omega) (by show x.f1 + 1 ≤ 9223372036854775807; omega)]; show ¬ x.f1 = x.f1 + 1; omega), if_pos rfl]
    · intro cs i told hi hcs ht hxi r hr
      have hw := wsucc (j := i) (n := cs.length) (by omega) (by omega)
      have hr' : Ev (fun k => impl_OnceEach.l0 k (told ++ [x.f2]) cs cs.length ((i + 1 : Nat) : Int) u.1 u.2.1 u.2.2.1) r := by
        rw [hc']; exact hr
      clear hr v1 v2 v3 hin hcr hsr hS' u3 u4 u5
      refine Ev.step (fun k => by rw [impl_OnceEach.l0]) ?_
      rw [hxi, hw]
      clear hw
      refine ev_pos (by omega) ?_
      refine ev_pos (by omega) ?_
      refine ev_pos (by omega) ?_
      refine Ev.bind u6 ?_
      refine Ev.bind hil ?_
      refine ev_pos w1 ?_
      refine ev_pos (by omega) ?_
      exact hr'
  · have hu := v1 h0
    rw [hu] at u6
    have nx : ∀ (cs : List S50) (i : Nat) (told : List ByteArray), i < cs.length → cs.length ≤ 1048576 → told.length ≤ i → rd_T50 cs i = x → ∀ (a : ByteArray) r, (∀ r, Ev (fun k => impl_OnceEach.l0 k (told ++ [a]) cs cs.length ((i + 1 : Nat) : Int) cap now l) r → Ev (fun k => impl_OnceEach.l0 k told cs cs.length i cap now l) r) → Ev (fun k => impl_OnceEach.l0 k (told ++ [a]) cs cs.length ((i + 1 : Nat) : Int) cap now l) r → Ev (fun k => impl_OnceEach.l0 k told cs cs.length i cap now l) r := fun _ _ _ _ _ _ _ a r h g => h r g
    by_cases h1 : y.1 = 1
    · refine ⟨now, l, y.2, ⟨hS, by omega, fun h => absurd h h0, fun _ => ⟨rfl, rfl, rfl⟩⟩, ?_⟩
      intro cs i told hi hcs ht hxi r hr
      have hw := wsucc (j := i) (n := cs.length) (by omega) (by omega)
      refine Ev.step (fun k => by rw [impl_OnceEach.l0]) ?_
      rw [hxi, hw]
      clear hw
      refine ev_pos (by omega) ?_
      refine ev_pos (by omega) ?_
      refine ev_pos (by omega) ?_
      refine Ev.bind u6 ?_
      refine Ev.bind hil ?_
      refine ev_neg (by simp) ?_
      refine ev_pos h1 ?_
      refine ev_pos (by omega) ?_
      exact hr
    · obtain ⟨s, s1, s2, s3⟩ := num_ev y.1 hyc.1 hyc.2
      refine ⟨now, l, (⟨#[33]⟩ : ByteArray) ++ s, ⟨hS, by omega, fun h => absurd h h0, fun h => absurd h h1⟩, ?_⟩
      intro cs i told hi hcs ht hxi r hr
      have hw := wsucc (j := i) (n := cs.length) (by omega) (by omega)
      refine Ev.step (fun k => by rw [impl_OnceEach.l0]) ?_
      rw [hxi, hw]
      clear hw
      refine ev_pos (by omega) ?_
      refine ev_pos (by omega) ?_
      refine ev_pos (by omega) ?_
      refine Ev.bind u6 ?_
      refine Ev.bind hil ?_
      refine ev_neg (by simp) ?_
      refine ev_neg h1 ?_
      refine Ev.bind (ev_const s1) ?_
      refine ev_pos (by omega) ?_
      refine ev_pos (by omega) ?_
      exact hr
theorem once_one {cap now : Int} {l : List S54} (hS : SessP cap now l) (x : S50) {now' : Int} {l' : List S54} {a : ByteArray} (h : ∀ (cs : List S50) (i : Nat) (told : List ByteArray), i < cs.length → cs.length ≤ 1048576 → told.length ≤ i → rd_T50 cs i = x → ∀ r, Ev (fun k => impl_OnceEach.l0 k (told ++ [a]) cs cs.length ((i + 1 : Nat) : Int) cap now' l') r → Ev (fun k => impl_OnceEach.l0 k told cs cs.length i cap now l) r) :
    Ev (fun k => impl_OnceEach.f k cap now l [x]) (cap, now', l', [a]) := by
  have hl : l.length ≤ 1048576 := by have := hS.1; have := hS.2.2.1; omega
  obtain ⟨b', hb', hi'⟩ := implSess_ev cap now l hl
  have hcs' := copyS_ev cap now l hl
  unfold impl_OnceEach.f
  refine Ev.bind (ev_const hcs') (Ev.bind hb' (ev_pos (hi'.2 hS) ?_))
  refine Ev.step (fun k => by rw [impl_OnceEach.j0]) ?_
  refine ev_neg (by simp) ?_
  refine h [x] 0 [] (by simp) (by simp) (by simp) rfl _ ?_
  refine Ev.step (fun k => by rw [impl_OnceEach.l0]) ?_
  exact ev_neg (by simp) (Ev.now _)
def Good (cap : Int) (cs : List S50) (T : List ByteArray) : Nat → Nat → Int → List S54 → Int → List S54 → Prop
  | _, 0, now, l, nF, lF => now = nF ∧ l = lF
  | i, d + 1, now, l, nF, lF => ∃ now' l' a, StepQ cap now l (rd_T50 cs i) now' l' a ∧ Ev (fun k => impl_OnceEach.f k cap now l [rd_T50 cs i]) (cap, now', l', [a]) ∧ T[i]? = some a ∧ Good cap cs T (i + 1) d now' l' nF lF
theorem seq_l (cap : Int) (cs : List S50) (hcs : cs.length ≤ 1000) (hsz : ∀ x ∈ cs, x.f2.size ≤ 40) (d : Nat) : ∀ (i : Nat) (told : List ByteArray) (now : Int) (l : List S54), cs.length = i + d → told.length = i → SessP cap now l → now + d < 1000000 → ∃ nF lF T, Ev (fun k => impl_OnceEach.l0 k told cs cs.length i cap now l) (cap, nF, lF, T) ∧ T.length = cs.length ∧ (∀ j : Nat, j < i → T[j]? = told[j]?) ∧ Good cap cs T i d now l nF lF := by
  induction d with
  | zero =>
    intro i told now l hd ht hS hn
    refine ⟨now, l, told, ?_, by omega, fun _ _ => rfl, rfl, rfl⟩
    refine Ev.step (fun k => by rw [impl_OnceEach.l0]) ?_
    exact ev_neg (by omega) (Ev.now _)
  | succ d ih =>
    intro i told now l hd ht hS hn
    have hxm : rd_T50 cs i ∈ cs := by
      unfold rd_T50; rw [toNat_cast]; exact getD_mem cs i z50 (by omega)
    obtain ⟨now', l', a, hq, hl⟩ := step_l hS (rd_T50 cs i) (hsz _ hxm) (by omega)
    obtain ⟨nF, lF, T, e1, e2, e3, e4⟩ := ih (i + 1) (told ++ [a]) now' l' (by omega) (by simp; omega) hq.1 (by have := hq.2.1; omega)
    refine ⟨nF, lF, T, hl cs i told (by omega) (by omega) (by omega) rfl _ e1, e2, fun j hj => ?_, now', l', a, hq, once_one hS _ hl, ?_, e4⟩
    · rw [e3 j (by omega), List.getElem?_append_left (by omega)]
    · rw [e3 i (by omega), List.getElem?_append_right (by omega), ht, Nat.sub_self]; rfl

theorem spec_nil {cap now : Int} {l : List S54} (hS : SessP cap now l) : Ev (fun k => spec_OnceEach.f k cap now l []) (cap, now, l, []) := by
  have hl : l.length ≤ 1048576 := by have := hS.1; have := hS.2.2.1; omega
  obtain ⟨b, hb, hi⟩ := specSess_ev cap now l hl
  unfold spec_OnceEach.f
  refine Ev.bind hb (ev_pos (hi.2 hS) ?_)
  refine Ev.step (fun k => by rw [spec_OnceEach.j0]) ?_
  refine ev_neg (by simp) (Ev.bind (l09Copy_ev cap now l hl) ?_)
  refine Ev.step (fun k => by rw [spec_OnceEach.l0]) ?_
  exact ev_neg (by simp) (Ev.now _)
theorem cut_one (cs : List S50) (i : Nat) (h : i < cs.length) : (cs.take (i + 1)).drop i = [rd_T50 cs i] := by
  have e : rd_T50 cs i = cs[i] := by unfold rd_T50; rw [toNat_cast, List.getD_eq_getElem?_getD, List.getElem?_eq_getElem h]; rfl
  rw [e, List.drop_take, List.drop_eq_getElem_cons h, show i + 1 - i = 1 by omega]
  rfl
theorem law_l (cap nF : Int) (lF : List S54) (cs : List S50) (T : List ByteArray) (hcs : cs.length ≤ 1000) (hsz : ∀ x ∈ cs, x.f2.size ≤ 40) (hT : T.length = cs.length) (d : Nat) : ∀ (i : Nat) (now : Int) (l : List S54), cs.length = i + d → SessP cap now l → now + d < 1000000 → Good cap cs T i d now l nF lF → Ev (fun k => laws_FnOnce.l0 k cs T i cap now l cap nF lF) true := by
  induction d with
  | zero =>
    intro i now l hd hS hn ⟨e1, e2⟩
    subst e1
    subst e2
    refine Ev.step (fun k => by rw [laws_FnOnce.l0]) ?_
    refine ev_neg (by omega) (Ev.bind (spec_nil hS) (ev_pos rfl ?_))
    show Ev (fun _ => some (now == now)) true
    rw [beq_self_eq_true]
    exact Ev.now _
  | succ d ih =>
    intro i now l hd hS hn ⟨now', l', a, ⟨q1, q2, q3, q4⟩, e1, eT, hg⟩
    have hi : i < cs.length := by omega
    have hl : l.length ≤ 1048576 := by have := hS.1; have := hS.2.2.1; omega
    have hl' : l'.length ≤ 1048576 := by have := q1.1; have := q1.2.2.1; omega
    obtain ⟨x, hx⟩ : ∃ x : S50, x = rd_T50 cs i := ⟨_, rfl⟩
    have hxm : x ∈ cs := by
      rw [hx]; unfold rd_T50; rw [toNat_cast]; exact getD_mem cs i z50 hi
    rw [← hx] at q3 q4 e1
    obtain ⟨now2, l2, a2, ⟨p1, p2, p3, p4⟩, hl2⟩ := step_l q1 x (hsz x hxm) (by omega)
    have e2 := once_one q1 x hl2
    have hw := wsucc (j := i) (n := cs.length) hi (by omega)
    have HW := Aside0.mk hw
    clear hw
    have nxt := ih (i + 1) now' l' (by omega) q1 (by omega) hg
    have hTi : rdOf ByteArray.empty T (i : Int) = a := by
      unfold rdOf
      rw [toNat_cast, List.getD_eq_getElem?_getD, eT]
      rfl
    obtain ⟨b, hb, hib⟩ := implSess_ev cap now' l' hl'
    have hso : Ev (fun k => impl_SessionsOk.f k cap now' l') true := by
      unfold impl_SessionsOk.f
      refine Ev.bind hb ?_
      rw [hib.2 q1]
      exact Ev.now _
    have j2 : Ev (fun k => laws_FnOnce.j2 k cs T i (lookM cap now l x.f0 x.f1).1 [a] false cap nF lF x.f0 x.f1 x.f2 cap now' l') true := by
      refine Ev.step (fun k => by rw [laws_FnOnce.j2]) ?_
      rw [HW.out]
      refine ev_neg (by simp) ?_
      by_cases h0 : (lookM cap now l x.f0 x.f1).1 = 0
      · obtain ⟨g1, g2⟩ := q3 h0
        have hk := look_ev cap now' l' hl' x.f0 x.f1
        rw [g1] at hk
        refine ev_pos h0 ?_
        refine Ev.bind hk ?_
        refine ev_pos rfl ?_
        refine ev_pos rfl ?_
        refine ev_pos (by simp) ?_
        refine ev_pos ?_ nxt
        show a.toList = x.f2.toList
        rw [g2]
      · exact ev_neg h0 nxt
    have j1 : Ev (fun k => laws_FnOnce.j1 k cs T i (lookM cap now l x.f0 x.f1).1 [a] [a2] false cap nF lF x.f0 x.f1 x.f2 cap now' l' cap now2 l2) true := by
      refine Ev.step (fun k => by rw [laws_FnOnce.j1]) ?_
      refine ev_neg (by simp) ?_
      by_cases h0 : (lookM cap now l x.f0 x.f1).1 = 0
      · obtain ⟨g1, g2⟩ := q3 h0
        obtain ⟨g3, g4, g5⟩ := p4 (by rw [g1])
        rw [g1] at g5
        refine ev_pos h0 ?_
        refine ev_pos (by simp) ?_
        refine ev_pos (by simp) ?_
        refine ev_pos ?_ ?_
        rotate_left
        refine ev_pos (by rw [g4]) ?_
        rotate_left
        · show a.toList = a2.toList
          rw [g2, g5]
        · rw [g3, show (now' != now') = false by simp]
          exact j2
      · by_cases h1 : (lookM cap now l x.f0 x.f1).1 = 1
        · obtain ⟨g1, g2, g3⟩ := q4 h1
          rw [g1, g2] at p4
          obtain ⟨k3, k4, k5⟩ := p4 h1
          refine ev_neg h0 ?_
          refine ev_pos h1 ?_
          refine ev_pos (by simp) ?_
          refine ev_pos (by simp) ?_
          refine ev_pos ?_ ?_
          rotate_left
          refine ev_pos (by rw [k4, g2]) ?_
          rotate_left
          · show a.toList = a2.toList
            rw [g3, k5]
          · rw [k3, g1, show (now != now) = false by simp]
            rw [g1] at j2
            exact j2
        · exact ev_neg h0 (ev_neg h1 j2)
    refine Ev.step (fun k => by rw [laws_FnOnce.l0]) ?_
    rw [← hx, HW.out, toNat_cast, toNat_cast, cut_one cs i hi, ← hx]
    refine ev_pos (by omega) ?_
    refine ev_pos (by omega) ?_
    refine Ev.bind (look_ev cap now l hl x.f0 x.f1) ?_
    refine ev_pos (by omega) ?_
    refine ev_pos (by omega) ?_
    refine Ev.bind e1 ?_
    refine Ev.bind e2 ?_
    refine Ev.bind hso ?_
    refine ev_pos rfl ?_
    refine ev_pos (by simp) ?_
    refine ev_pos (by simp) ?_
    refine ev_pos (by simp) ?_
    refine ev_pos (by omega) ?_
    refine ev_pos ?_ ?_
    · show a.toList = _
      rw [hTi]
    by_cases h1 : (lookM cap now l x.f0 x.f1).1 = 1
    · obtain ⟨_, _, g3⟩ := q4 h1
      refine ev_pos h1 ?_
      have eb : ((rdOf ByteArray.empty [a] 0).toList != (lookM cap now l x.f0 x.f1).2.toList) = false := by
        rw [← g3]
        show (a.toList != a.toList) = false
        simp
      rw [eb]
      exact j1
    · exact ev_neg h1 j1
theorem FnOnce : Stated := by
  intro l0 ⟨_, hw⟩
  refine Ev.rounds (?_ : Ev (fun k => laws_FnOnce.f k l0) true)
  unfold laws_FnOnce.f laws_big.f
  by_cases hb : (l0.length : Int) > 1048576
  · exact Ev.bind (ev_const rfl) (ev_pos (decide_eq_true hb) (Ev.now _))
  have hl : l0.length ≤ 1048576 := by omega
  obtain ⟨cap, now, s, cs, hd, hS, hcs, hc1, hc2, hn⟩ := drawS_ev l0 hl
  have hsz : ∀ x ∈ cs, x.f2.size ≤ 40 := fun x hx => (hc1 x hx).2
  have hs : s.length ≤ 1048576 := by have := hS.1; have := hS.2.2.1; omega
  obtain ⟨nF, lF, T, e1, e2, _, e4⟩ := seq_l cap cs (by omega) hsz cs.length 0 [] now s (by omega) rfl hS (by omega)
  obtain ⟨b, hb', hib⟩ := implSess_ev cap now s hs
  refine Ev.bind (ev_const rfl) (ev_neg (by simpa using hb) (Ev.bind hd (Ev.bind (a := true) ?_ (ev_pos rfl (Ev.bind (a := (cap, nF, lF, T)) ?_ (ev_pos ?_ ?_))))))
  · unfold impl_SessionsOk.f
    refine Ev.bind hb' ?_
    rw [hib.2 hS]
    exact Ev.now _
  · unfold impl_OnceEach.f
    refine Ev.bind (ev_const (copyS_ev cap now s hs)) (Ev.bind hb' (ev_pos (hib.2 hS) ?_))
    refine Ev.step (fun k => by rw [impl_OnceEach.j0]) ?_
    exact ev_neg (by simp; omega) e1
  · show ((T.length : Nat) : Int) = _
    rw [e2]
  · exact law_l cap nF lF cs T (by omega) hsz e2 cs.length 0 now s (by omega) hS (by omega) e4

end Go.Proofs.YtjdpifafijcpbaaDoor.Pure
