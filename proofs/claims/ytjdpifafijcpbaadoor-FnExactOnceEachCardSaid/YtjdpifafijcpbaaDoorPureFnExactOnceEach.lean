/- The law FnExactOnceEach answers true at every input. No condition. -/
import Derived.Test.YtjdpifafijcpbaaDoorOpnFnExactOnceEach
import Derived.Test.YtjdpifafijcpbaaDoorBase
namespace Go.Proofs.YtjdpifafijcpbaaDoor.Pure
open Go.RowKit Go.Proofs.YtjdpifafijcpbaaDoor.QFnExactOnceEach Go.Proofs.YtjdpifafijcpbaaDoor.OpnFnExactOnceEach Go.Proofs.YtjdpifafijcpbaaDoor.Base Go.Proofs.YtjdpifafijcpbaaDoorW.PrintWords Go.Proofs.YtjdpifafijcpbaaDoorW.PrintLast
set_option linter.unusedVariables false
set_option linter.unusedSimpArgs false

def wfS (x : S54) : Prop := (-9223372036854775808 ≤ x.f0 ∧ x.f0 ≤ 9223372036854775807) ∧ (-9223372036854775808 ≤ x.f1 ∧ x.f1 ≤ 9223372036854775807) ∧ (-9223372036854775808 ≤ x.f2 ∧ x.f2 ≤ 9223372036854775807)
theorem wf_at {l : List S54} (h : ∀ x ∈ l, wfS x) (j : Nat) (hj : j < l.length) : wfS (rd_T54 l j) := by
  unfold rd_T54
  rw [toNat_cast]
  exact h _ (getD_mem l j z54 hj)
theorem in_eq (x a b : Int) : spec_l01In.f x a b = some (decide (a ≤ x ∧ x ≤ b)) := by
  unfold spec_l01In.f
  by_cases h : a ≤ x <;> simp [h]
/-- What is asked of session j. -/
def SP (now : Int) (l : List S54) (j : Nat) : Prop :=
  (1 ≤ (rd_T54 l j).f0 ∧ (rd_T54 l j).f0 ≤ 999) ∧ (1 ≤ (rd_T54 l j).f1 ∧ (rd_T54 l j).f1 ≤ 1000000) ∧ (1 ≤ (rd_T54 l j).f2 ∧ (rd_T54 l j).f2 ≤ now) ∧ (rd_T54 l j).f3.size ≤ 40 ∧ (0 < j → (rd_T54 l (j - 1 : Nat)).f0 < (rd_T54 l j).f0) ∧ (∀ i : Nat, i < j → (rd_T54 l i).f2 ≠ (rd_T54 l j).f2)
/-- Sessions as they should be. -/
def SessP (cap now : Int) (l : List S54) : Prop := (1 ≤ cap ∧ cap ≤ 12) ∧ (0 ≤ now ∧ now ≤ 1000000) ∧ (l.length : Int) ≤ cap ∧ ∀ j, j < l.length → SP now l j

abbrev pc (c : Int) (y : S54) : Bool := y.f0 == c
/-- The session of a client, a blank one if it has none. -/
def lastOf (l : List S54) (c : Int) : S54 := (l.find? (pc c)).getD z54
def tup (y : S54) : Int × Int × Int × ByteArray := (y.f0, y.f1, y.f2, y.f3)
theorem l09Find_l (cap now c : Int) (l : List S54) (hl : l.length ≤ 1048576) (d : Nat) : ∀ i : Nat, l.length = i + d → Ev (fun k => spec_l09Find.l0 k c i cap now l) (tup (((l.drop i).find? (pc c)).getD z54)) := by
  induction d with
  | zero =>
    intro i hd
    refine Ev.step (fun k => by rw [spec_l09Find.l0]) ?_
    refine ev_neg (by omega) ?_
    rw [List.drop_of_length_le (by omega)]
    exact Ev.now _
  | succ d ih =>
    intro i hd
    have hi : i < l.length := by omega
    refine Ev.step (fun k => by rw [spec_l09Find.l0]) ?_
    rw [List.drop_eq_getElem_cons hi, List.find?_cons]
    have e : rd_T54 l i = l[i] := by
      unfold rd_T54
      rw [toNat_cast, getD_lt _ _ _ hi]
    rw [e, wsucc (n := l.length) (by omega) (by omega)]
    by_cases h : l[i].f0 = c
    · rw [show pc c l[i] = true by simp [pc, h]]
      exact ev_pos (by omega) (ev_pos (by omega) (ev_pos h (Ev.now _)))
    · rw [show pc c l[i] = false by simp [pc, h]]
      exact ev_pos (by omega) (ev_pos (by omega) (ev_neg h (ih (i + 1) (by omega))))
theorem l09Find_ev (cap now c : Int) (l : List S54) (hl : l.length ≤ 1048576) : Ev (fun k => spec_l09Find.f k cap now l c) (tup (lastOf l c)) := l09Find_l cap now c l hl l.length 0 (by omega)
theorem idx_cases (l : List S54) (c : Int) : (∃ i : Nat, i < l.length ∧ Go.Proofs.YtjdpifafijcpbaaDoor.Slc.idxB (pc c) l = (i : Int) ∧ (rd_T54 l i).f0 = c ∧ lastOf l c = rd_T54 l i ∧ ∀ j : Nat, j < i → (rd_T54 l j).f0 ≠ c) ∨ (Go.Proofs.YtjdpifafijcpbaaDoor.Slc.idxB (pc c) l = -1 ∧ lastOf l c = z54 ∧ ∀ j : Nat, j < l.length → (rd_T54 l j).f0 ≠ c) := by
  have rdE : ∀ j : Nat, (h : j < l.length) → rd_T54 l j = l[j] := fun j h => by
    unfold rd_T54
    rw [toNat_cast, getD_lt _ _ _ h]
  unfold Go.Proofs.YtjdpifafijcpbaaDoor.Slc.idxB lastOf
  cases h : l.findIdx? (pc c) with
  | none =>
    right
    rw [List.findIdx?_eq_none_iff] at h
    refine ⟨rfl, ?_, fun j hj => ?_⟩
    · rw [List.find?_eq_none.2 (fun x hx => by rw [h x hx]; decide)]
      rfl
    · rw [rdE j hj]
      have := h _ (List.getElem_mem hj)
      simpa [pc] using this
  | some i =>
    left
    obtain ⟨hi, h1, h2⟩ := List.findIdx?_eq_some_iff_getElem.1 h
    have hp : l[i].f0 = c := by simpa [pc] using h1
    refine ⟨i, hi, rfl, by rw [rdE i hi]; exact hp, ?_, fun j hj => ?_⟩
    · rw [List.find?_eq_some_iff_getElem.2 ⟨h1, i, hi, rfl, fun j hj => by simpa using h2 j hj⟩, rdE i hi]
      rfl
    · rw [rdE j (by omega)]
      have := h2 j hj
      simpa [pc] using this

theorem sorted {now cap : Int} {l : List S54} (h : SessP cap now l) : ∀ d i, i + d + 1 < l.length → (rd_T54 l i).f0 < (rd_T54 l (i + d + 1 : Nat)).f0 := by
  intro d
  induction d with
  | zero =>
    intro i hi
    exact (h.2.2.2 (i + 1) hi).2.2.2.2.1 (by omega)
  | succ d ih =>
    intro i hi
    have h1 := ih i (by omega)
    have h2 := (h.2.2.2 (i + d + 2) (by omega)).2.2.2.2.1 (by omega)
    have e : i + d + 2 - 1 = i + d + 1 := by omega
    rw [e] at h2
    have e2 : i + (d + 1) + 1 = i + d + 2 := by omega
    rw [e2]
    omega
theorem sorted_lt {now cap : Int} {l : List S54} (h : SessP cap now l) {i j : Nat} (hij : i < j) (hj : j < l.length) : (rd_T54 l i).f0 < (rd_T54 l j).f0 := by
  have := sorted h (j - i - 1) i (by omega)
  have e : i + (j - i - 1) + 1 = j := by omega
  rwa [e] at this
theorem rdE (l : List S54) (j : Nat) (h : j < l.length) : rd_T54 l j = l[j] := by
  unfold rd_T54
  rw [toNat_cast, getD_lt _ _ _ h]
abbrev ne (c : Int) (y : S54) : Bool := !(y.f0 == c)
/-- The rest of a put, once what was to be put has been. -/
theorem put_true (cap now : Int) (l : List S54) (hl : l.length ≤ 1048576) (x c0 c1 c2 : Int) (c3 : ByteArray) (oc on_ : Int) (d : Nat) : ∀ (i : Nat) (acc : List S54), l.length = i + d → acc.length ≤ 1048576 + i → Ev (fun k => spec_l09Put.l0 k x true i cap now l c0 c1 c2 c3 oc on_ acc) (oc, on_, acc ++ (l.drop i).filter (ne x)) := by
  induction d with
  | zero =>
    intro i acc hd ha
    refine Ev.step (fun k => by rw [spec_l09Put.l0]) ?_
    refine ev_neg (by omega) (ev_pos rfl ?_)
    rw [List.drop_of_length_le (by omega), List.filter_nil, List.append_nil]
    exact Ev.now _
  | succ d ih =>
    intro i acc hd ha
    have hi : i < l.length := by omega
    refine Ev.step (fun k => by rw [spec_l09Put.l0]) ?_
    refine ev_pos (by omega) (ev_pos rfl ?_)
    refine Ev.step (fun k => by rw [spec_l09Put.j1]) ?_
    rw [wsucc (n := l.length) (by omega) (by omega), List.drop_eq_getElem_cons hi, List.filter_cons]
    refine ev_neg (by simp) (ev_pos (by omega) (ev_pos (by omega) ?_))
    by_cases h : (rd_T54 l i).f0 = x
    · rw [if_neg (by rw [← rdE l i hi]; simp [ne, h])]
      exact ev_pos h (ih (i + 1) acc (by omega) (by omega))
    · rw [if_pos (by rw [← rdE l i hi]; simp [ne, h])]
      refine ev_neg h (ev_pos (by omega) ?_)
      have := ih (i + 1) (acc ++ [rd_T54 l i]) (by omega) (by simp; omega)
      rw [List.append_assoc, List.singleton_append, rdE l i hi] at this
      rw [rdE l i hi]
      exact this
/-- A put of a session at its place. -/
theorem put_false (cap now : Int) (l : List S54) (hl : l.length ≤ 1048576) (x : Int) (s : S54) (oc on_ : Int) (p : Nat) (hp : p ≤ l.length) (hlo : ∀ j : Nat, j < p → (rd_T54 l j).f0 ≤ s.f0) (hhi : p < l.length → s.f0 < (rd_T54 l p).f0) (d : Nat) : ∀ (i : Nat) (acc : List S54), i + d = p → acc.length ≤ i → Ev (fun k => spec_l09Put.l0 k x false i cap now l s.f0 s.f1 s.f2 s.f3 oc on_ acc) (oc, on_, acc ++ ((l.take p).drop i).filter (ne x) ++ s :: (l.drop p).filter (ne x)) := by
  induction d with
  | zero =>
    intro i acc hd ha
    obtain rfl : i = p := by omega
    refine Ev.step (fun k => by rw [spec_l09Put.l0]) ?_
    rw [List.drop_of_length_le (l := l.take i) (by rw [List.length_take]; omega), List.filter_nil, List.append_nil]
    by_cases hn : i < l.length
    · refine ev_pos (by omega) (ev_neg (by simp) (ev_pos (by omega) ?_))
      refine Ev.step (fun k => by rw [spec_l09Put.j1]) ?_
      have hh := hhi hn
      refine ev_pos (decide_eq_true (by omega)) (ev_pos (by omega) (Ev.bind (Ev.now _) (ev_pos (by omega) (ev_pos (by omega) ?_))))
      rw [wsucc (n := l.length) (by omega) (by omega), List.drop_eq_getElem_cons hn, List.filter_cons]
      have pt := fun acc' ha' => put_true cap now l hl x s.f0 s.f1 s.f2 s.f3 oc on_ (l.length - (i + 1)) (i + 1) acc' (by omega) ha'
      by_cases h : (rd_T54 l i).f0 = x
      · rw [if_neg (by rw [← rdE l i hn]; simp [ne, h])]
        refine ev_pos h ?_
        have := pt (acc ++ [s]) (by simp; omega)
        rw [List.append_assoc, List.singleton_append] at this
        exact this
      · rw [if_pos (by rw [← rdE l i hn]; simp [ne, h])]
        refine ev_neg h (ev_pos (by simp; omega) ?_)
        have := pt (acc ++ [s] ++ [rd_T54 l i]) (by simp; omega)
        have e : acc ++ [s] ++ [rd_T54 l i] ++ (l.drop (i + 1)).filter (ne x) = acc ++ s :: l[i] :: (l.drop (i + 1)).filter (ne x) := by rw [rdE l i hn]; simp
        rw [e] at this
        exact this
    · refine ev_neg (by omega) (ev_neg (by simp) (ev_pos (by omega) ?_))
      rw [List.drop_of_length_le (by omega), List.filter_nil]
      exact Ev.now _
  | succ d ih =>
    intro i acc hd ha
    have hi : i < l.length := by omega
    have hh := hlo i (by omega)
    refine Ev.step (fun k => by rw [spec_l09Put.l0]) ?_
    refine ev_pos (by omega) (ev_neg (by simp) (ev_pos (by omega) ?_))
    refine Ev.step (fun k => by rw [spec_l09Put.j1]) ?_
    rw [wsucc (n := l.length) (by omega) (by omega)]
    have ht : i < (l.take p).length := by rw [List.length_take]; omega
    rw [List.drop_eq_getElem_cons ht, List.filter_cons, List.getElem_take]
    refine ev_neg (by simp; omega) (ev_pos (by omega) (ev_pos (by omega) ?_))
    by_cases h : (rd_T54 l i).f0 = x
    · rw [if_neg (by rw [← rdE l i hi]; simp [ne, h])]
      exact ev_pos h (ih (i + 1) acc (by omega) (by omega))
    · rw [if_pos (by rw [← rdE l i hi]; simp [ne, h])]
      refine ev_neg h (ev_pos (by omega) ?_)
      have := ih (i + 1) (acc ++ [rd_T54 l i]) (by omega) (by simp; omega)
      rw [List.append_assoc acc, List.singleton_append, rdE l i hi] at this
      rw [rdE l i hi]
      exact this
theorem copy_l (cap now : Int) (l : List S54) (hl : l.length ≤ 1048576) (oc on_ : Int) (d : Nat) : ∀ i : Nat, l.length = i + d → Ev (fun k => spec_l09Copy.l0 k i cap now l oc on_ (l.take i)) (oc, on_, l) := by
  induction d with
  | zero =>
    intro i hd
    refine Ev.step (fun k => by rw [spec_l09Copy.l0]) ?_
    refine ev_neg (by omega) ?_
    rw [List.take_of_length_le (by omega)]
    exact Ev.now _
  | succ d ih =>
    intro i hd
    refine Ev.step (fun k => by rw [spec_l09Copy.l0]) ?_
    have h1 := List.length_take_le i l
    refine ev_pos (by omega) (ev_pos (by omega) (ev_pos (by omega) ?_))
    rw [wsucc (n := l.length) (by omega) (by omega)]
    have := ih (i + 1) (by omega)
    rw [take_succ_getD l i z54 (by omega)] at this
    unfold rd_T54
    rw [toNat_cast]
    exact this
theorem l09Copy_ev (cap now : Int) (l : List S54) (hl : l.length ≤ 1048576) : Ev (fun k => spec_l09Copy.f k cap now l) (cap, now, l) := copy_l cap now l hl cap now l.length 0 (by omega)
theorem copyS_ev (cap now : Int) (l : List S54) (hl : l.length ≤ 1048576) : impl_copySessions.f cap now l = some (cap, now, l) := by
  unfold impl_copySessions.f
  show (if ([] : List S54).length + l.length < 3518437208883 then some (cap, now, [] ++ l) else none) = _
  rw [if_pos (by simp; omega), List.nil_append]
/-- All but the one of a client. -/
theorem filter_erase {cap now : Int} {l : List S54} (h : SessP cap now l) {j : Nat} (hj : j < l.length) : l.filter (ne (rd_T54 l j).f0) = l.eraseIdx j := by
  have hk : ∀ q : Nat, (hq : q < l.length) → q ≠ j → ne (rd_T54 l j).f0 l[q] = true := fun q hq hn => by
    have : (rd_T54 l q).f0 ≠ (rd_T54 l j).f0 := fun e => by
      rcases Nat.lt_or_gt_of_ne hn with h1 | h1
      · have := sorted_lt h h1 hj; omega
      · have := sorted_lt h h1 hq; omega
    rw [rdE l q hq] at this
    simp [ne, this]
  obtain ⟨u, hu⟩ : ∃ u, u = (rd_T54 l j).f0 := ⟨_, rfl⟩
  have huj : ¬ ne u l[j] = true := by rw [hu, rdE l j hj]; simp [ne]
  rw [← hu] at hk ⊢
  clear hu
  rw [List.eraseIdx_eq_take_drop_succ]
  conv => lhs; rw [← List.take_append_drop j l, List.drop_eq_getElem_cons hj, List.filter_append, List.filter_cons]
  rw [if_neg huj]
  congr 1
  · rw [List.filter_eq_self]
    intro x hx
    obtain ⟨q, hq, rfl⟩ := List.mem_iff_getElem.1 hx
    have hq' : q < j := by have := hq; rw [List.length_take] at this; omega
    rw [List.getElem_take]
    exact hk q (by omega) (by omega)
  · rw [List.filter_eq_self]
    intro x hx
    obtain ⟨q, hq, rfl⟩ := List.mem_iff_getElem.1 hx
    have hq' : j + 1 + q < l.length := by have := hq; rw [List.length_drop] at this; omega
    rw [List.getElem_drop]
    exact hk _ hq' (by omega)

theorem specS_1 (cap now : Int) (l : List S54) (hl : l.length ≤ 1048576) (j : Nat) (hj : j < l.length) (a b u : Int) (t : ByteArray) (d : Nat) : ∀ i : Nat, i + d = j →
    ((∀ q : Nat, i ≤ q → q < j → (rd_T54 l q).f2 ≠ u) → ∀ r, Ev (fun k => spec_SessionsOk.l0 k ((j + 1 : Nat) : Int) cap now l) r → Ev (fun k => spec_SessionsOk.l1 k j i cap now l a b u t) r) ∧
    ((∃ q : Nat, i ≤ q ∧ q < j ∧ (rd_T54 l q).f2 = u) → Ev (fun k => spec_SessionsOk.l1 k j i cap now l a b u t) false) := by
  have hwj : wrap64 ((j : Int) + 1) = ((j + 1 : Nat) : Int) := wsucc (n := l.length) (by omega) (by omega)
  induction d with
  | zero =>
    intro i hd
    refine ⟨fun _ r hr => ?_, fun ⟨q, h1, h2, _⟩ => by omega⟩
    refine Ev.step (fun k => by rw [spec_SessionsOk.l1]) ?_
    rw [hwj]
    exact ev_neg (by omega) hr
  | succ d ih =>
    intro i hd
    obtain ⟨i1, i2⟩ := ih (i + 1) (by omega)
    have hwi : wrap64 ((i : Int) + 1) = ((i + 1 : Nat) : Int) := wsucc (n := l.length) (by omega) (by omega)
    refine ⟨fun h r hr => ?_, fun h => ?_⟩
    · refine Ev.step (fun k => by rw [spec_SessionsOk.l1]) ?_
      rw [hwi]
      exact ev_pos (by omega) (ev_pos (by omega) (ev_pos (by omega) (ev_neg (h i (by omega) (by omega)) (i1 (fun q h1 h2 => h q (by omega) h2) r hr))))
    · refine Ev.step (fun k => by rw [spec_SessionsOk.l1]) ?_
      rw [hwi]
      by_cases e : (rd_T54 l i).f2 = u
      · exact ev_pos (by omega) (ev_pos (by omega) (ev_pos (by omega) (ev_pos e (Ev.now _))))
      · refine ev_pos (by omega) (ev_pos (by omega) (ev_pos (by omega) (ev_neg e (i2 ?_))))
        obtain ⟨q, h1, h2, h3⟩ := h
        refine ⟨q, ?_, h2, h3⟩
        by_cases e2 : q = i
        · subst e2; exact absurd h3 e
        · omega
theorem specS_0 (cap now : Int) (l : List S54) (hl : l.length ≤ 1048576) (d : Nat) : ∀ j : Nat, l.length = j + d → ∃ b, Ev (fun k => spec_SessionsOk.l0 k j cap now l) b ∧ (b = true ↔ ∀ i : Nat, j ≤ i → i < l.length → SP now l i) := by
  induction d with
  | zero =>
    intro j hd
    refine ⟨true, ?_, ⟨fun _ i h1 h2 => by omega, fun _ => rfl⟩⟩
    refine Ev.step (fun k => by rw [spec_SessionsOk.l0]) ?_
    exact ev_neg (by omega) (Ev.now _)
  | succ d ih =>
    intro j hd
    obtain ⟨b, hb, hi⟩ := ih (j + 1) (by omega)
    have hj : j < l.length := by omega
    have bad : ∀ (b0 : Bool) (a0 a1 a2 : Int) (a3 : ByteArray), b0 = true → Ev (fun k => spec_SessionsOk.j2 k j b0 cap now l a0 a1 a2 a3) false := fun b0 a0 a1 a2 a3 h => by
      refine Ev.step (fun k => by rw [spec_SessionsOk.j2]) ?_
      exact ev_pos h (Ev.now _)
    have hf : ∀ {p : Prop}, ¬ p → (SP now l j → p) → (false = true ↔ ∀ i : Nat, j ≤ i → i < l.length → SP now l i) := fun hn hp => ⟨fun h => by simp at h, fun h => absurd (hp (h j (Nat.le_refl _) hj)) hn⟩
    have hstep : ∀ r, Ev (fun k => if (j : Int) < (l.length : Int) then (if 0 ≤ (j : Int) then (if (1 ≤ (rd_T54 l j).f0 ∧ (rd_T54 l j).f0 ≤ 999) then (if (1 ≤ (rd_T54 l j).f1 ∧ (rd_T54 l j).f1 ≤ 1000000) then (if (1 ≤ (rd_T54 l j).f2 ∧ (rd_T54 l j).f2 ≤ now) then (if ((rd_T54 l j).f3.size : Int) > 40 then (spec_SessionsOk.j2 k j true cap now l ((rd_T54 l j).f0) ((rd_T54 l j).f1) ((rd_T54 l j).f2) ((rd_T54 l j).f3)) else (if (j : Int) > 0 then (if 0 ≤ (wrap64 ((j : Int) - 1)) then (if (wrap64 ((j : Int) - 1)) < (l.length : Int) then (spec_SessionsOk.j2 k j (decide (((rd_T54 l (wrap64 ((j : Int) - 1))).f0) ≥ ((rd_T54 l j).f0))) cap now l ((rd_T54 l j).f0) ((rd_T54 l j).f1) ((rd_T54 l j).f2) ((rd_T54 l j).f3)) else (none)) else (none)) else (spec_SessionsOk.j2 k j false cap now l ((rd_T54 l j).f0) ((rd_T54 l j).f1) ((rd_T54 l j).f2) ((rd_T54 l j).f3)))) else (spec_SessionsOk.j2 k j true cap now l ((rd_T54 l j).f0) ((rd_T54 l j).f1) ((rd_T54 l j).f2) ((rd_T54 l j).f3))) else (spec_SessionsOk.j2 k j true cap now l ((rd_T54 l j).f0) ((rd_T54 l j).f1) ((rd_T54 l j).f2) ((rd_T54 l j).f3))) else (spec_SessionsOk.j2 k j true cap now l ((rd_T54 l j).f0) ((rd_T54 l j).f1) ((rd_T54 l j).f2) ((rd_T54 l j).f3))) else none) else some true) r → Ev (fun k => spec_SessionsOk.l0 k j cap now l) r := fun r h => by
      refine Ev.step (fun k => by rw [spec_SessionsOk.l0]) ?_
      simp only [in_eq, Option.bind_some, decide_eq_true_eq]
      exact h
    by_cases h1 : 1 ≤ (rd_T54 l j).f0 ∧ (rd_T54 l j).f0 ≤ 999
    rotate_left
    · exact ⟨false, hstep _ (ev_pos (by omega) (ev_pos (by omega) (ev_neg h1 (bad _ _ _ _ _ rfl)))), hf h1 fun h => h.1⟩
    by_cases h2 : 1 ≤ (rd_T54 l j).f1 ∧ (rd_T54 l j).f1 ≤ 1000000
    rotate_left
    · exact ⟨false, hstep _ (ev_pos (by omega) (ev_pos (by omega) (ev_pos h1 (ev_neg h2 (bad _ _ _ _ _ rfl))))), hf h2 fun h => h.2.1⟩
    by_cases h3 : 1 ≤ (rd_T54 l j).f2 ∧ (rd_T54 l j).f2 ≤ now
    rotate_left
    · exact ⟨false, hstep _ (ev_pos (by omega) (ev_pos (by omega) (ev_pos h1 (ev_pos h2 (ev_neg h3 (bad _ _ _ _ _ rfl)))))), hf h3 fun h => h.2.2.1⟩
    by_cases h4 : ((rd_T54 l j).f3.size : Int) > 40
    · exact ⟨false, hstep _ (ev_pos (by omega) (ev_pos (by omega) (ev_pos h1 (ev_pos h2 (ev_pos h3 (ev_pos h4 (bad _ _ _ _ _ rfl))))))), hf (p := (rd_T54 l j).f3.size ≤ 40) (by omega) fun h => h.2.2.2.1⟩
    have pre : ∀ (b0 : Bool) r, (0 < j → b0 = decide ((rd_T54 l (j - 1 : Nat)).f0 ≥ (rd_T54 l j).f0)) → (j = 0 → b0 = false) → Ev (fun k => spec_SessionsOk.j2 k j b0 cap now l ((rd_T54 l j).f0) ((rd_T54 l j).f1) ((rd_T54 l j).f2) ((rd_T54 l j).f3)) r → Ev (fun k => spec_SessionsOk.l0 k j cap now l) r := fun b0 r hb1 hb2 h => by
      refine hstep _ (ev_pos (by omega) (ev_pos (by omega) (ev_pos h1 (ev_pos h2 (ev_pos h3 (ev_neg h4 ?_))))))
      by_cases h0 : j = 0
      · rw [hb2 h0] at h
        exact ev_neg (by omega) h
      · rw [wpred (by omega) (by omega), ← hb1 (by omega)]
        exact ev_pos (by omega) (ev_pos (by omega) (ev_pos (by omega) h))
    by_cases h5 : 0 < j → (rd_T54 l (j - 1 : Nat)).f0 < (rd_T54 l j).f0
    rotate_left
    · have h0 : 0 < j := by
        apply Classical.byContradiction
        intro hn; exact h5 fun h => absurd h hn
      have h6 : ¬ (rd_T54 l (j - 1 : Nat)).f0 < (rd_T54 l j).f0 := fun h => h5 fun _ => h
      exact ⟨false, pre true _ (fun h => (decide_eq_true (by omega)).symm) (fun h => by omega) (bad _ _ _ _ _ rfl), hf h5 fun h => h.2.2.2.2.1⟩
    have hpre := fun r => pre false r (fun h => (decide_eq_false (by have := h5 h; omega)).symm) (fun _ => rfl)
    have hgo : ∀ r, Ev (fun k => spec_SessionsOk.l1 k j ((0 : Nat) : Int) cap now l ((rd_T54 l j).f0) ((rd_T54 l j).f1) ((rd_T54 l j).f2) ((rd_T54 l j).f3)) r → Ev (fun k => spec_SessionsOk.l0 k j cap now l) r := fun r h => hpre r (by
      refine Ev.step (fun k => by rw [spec_SessionsOk.j2]) ?_
      exact ev_neg (by simp) h)
    obtain ⟨g1, g2⟩ := specS_1 cap now l hl j hj ((rd_T54 l j).f0) ((rd_T54 l j).f1) ((rd_T54 l j).f2) ((rd_T54 l j).f3) j 0 (by omega)
    by_cases h6 : ∀ q : Nat, q < j → (rd_T54 l q).f2 ≠ (rd_T54 l j).f2
    · refine ⟨b, hgo _ (g1 (fun q _ hq => h6 q hq) b hb), ?_⟩
      rw [hi]
      constructor
      · intro h i h7 h8
        by_cases e : i = j
        · subst e; exact ⟨h1, h2, h3, by omega, h5, h6⟩
        · exact h i (by omega) h8
      · intro h i h7 h8; exact h i (by omega) h8
    · refine ⟨false, hgo _ (g2 ?_), hf h6 fun h => h.2.2.2.2.2⟩
      apply Classical.byContradiction
      intro hn
      exact h6 fun q hq e => hn ⟨q, by omega, hq, e⟩
theorem specSess_ev (cap now : Int) (l : List S54) (hl : l.length ≤ 1048576) : ∃ b, Ev (fun k => spec_SessionsOk.f k cap now l) b ∧ (b = true ↔ SessP cap now l) := by
  have bad : ∀ b0 : Bool, b0 = true → Ev (fun k => spec_SessionsOk.j0 k b0 cap now l) false := fun b0 h => by
    refine Ev.step (fun k => by rw [spec_SessionsOk.j0]) ?_
    exact ev_pos h (Ev.now _)
  unfold spec_SessionsOk.f
  simp only [in_eq, Option.bind_some, decide_eq_true_eq]
  by_cases h1 : 1 ≤ cap ∧ cap ≤ 12
  rotate_left
  · exact ⟨false, ev_neg h1 (bad _ rfl), ⟨fun h => by simp at h, fun h => absurd h.1 h1⟩⟩
  by_cases h2 : 0 ≤ now ∧ now ≤ 1000000
  rotate_left
  · exact ⟨false, ev_pos h1 (ev_neg h2 (bad _ rfl)), ⟨fun h => by simp at h, fun h => absurd h.2.1 h2⟩⟩
  by_cases h3 : (l.length : Int) > cap
  · exact ⟨false, ev_pos h1 (ev_pos h2 (bad _ (decide_eq_true h3))), ⟨fun h => by simp at h, fun h => absurd h.2.2.1 (by omega)⟩⟩
  obtain ⟨b, hb, hi⟩ := specS_0 cap now l hl l.length 0 (by omega)
  refine ⟨b, ev_pos h1 (ev_pos h2 ?_), ?_⟩
  · refine Ev.step (fun k => by rw [spec_SessionsOk.j0]) ?_
    exact ev_neg (by simpa using h3) hb
  · rw [hi]
    exact ⟨fun h => ⟨h1, h2, by omega, fun j hj => h j (by omega) hj⟩, fun h i _ hi => h.2.2.2 i hi⟩

theorem any_take (l : List S54) (j : Nat) (hj : j ≤ l.length) (a b u : Int) (t : ByteArray) : impl_Session_54.f (l.take j) a b u t = some (decide (∃ q : Nat, q < j ∧ (rd_T54 l q).f2 = u)) := by
  unfold impl_Session_54.f
  congr 1
  rw [Bool.eq_iff_iff, List.any_eq_true, decide_eq_true_iff]
  constructor
  · rintro ⟨x, hx, h⟩
    obtain ⟨q, hq, rfl⟩ := List.mem_iff_getElem.1 hx
    have hq' : q < j := by have := List.length_take_le j l; omega
    refine ⟨q, hq', ?_⟩
    unfold rd_T54
    rw [toNat_cast, getD_lt _ _ _ (by omega)]
    simpa [impl_Session_54.p] using h
  · rintro ⟨q, hq, h⟩
    unfold rd_T54 at h
    rw [toNat_cast, getD_lt _ _ _ (by omega)] at h
    refine ⟨l[q], List.mem_take_iff_getElem.2 ⟨q, by omega, rfl⟩, ?_⟩
    simpa [impl_Session_54.p] using h
theorem implS_0 (cap now : Int) (l : List S54) (hl : l.length ≤ 1048576) (d : Nat) : ∀ j : Nat, l.length = j + d → ∃ b, Ev (fun k => impl_areSessions.l0 k l l.length j cap now l) b ∧ (b = true ↔ ∀ i : Nat, j ≤ i → i < l.length → SP now l i) := by
  induction d with
  | zero =>
    intro j hd
    refine ⟨true, ?_, ⟨fun _ i h1 h2 => by omega, fun _ => rfl⟩⟩
    refine Ev.step (fun k => by rw [impl_areSessions.l0]) ?_
    exact ev_neg (by omega) (Ev.now _)
  | succ d ih =>
    intro j hd
    obtain ⟨b, hb, hi⟩ := ih (j + 1) (by omega)
    have hj : j < l.length := by omega
    have hwj : wrap64 ((j : Int) + 1) = ((j + 1 : Nat) : Int) := wsucc (n := l.length) (by omega) (by omega)
    have bad : ∀ (b0 : Bool) (a0 a1 a2 : Int) (a3 : ByteArray), b0 = true → Ev (fun k => impl_areSessions.j2 k j l l.length j b0 cap now l a0 a1 a2 a3) false := fun b0 a0 a1 a2 a3 h => by
      refine Ev.step (fun k => by rw [impl_areSessions.j2]) ?_
      exact ev_pos h (Ev.now _)
    have hf : ∀ {p : Prop}, ¬ p → (SP now l j → p) → (false = true ↔ ∀ i : Nat, j ≤ i → i < l.length → SP now l i) := fun hn hp => ⟨fun h => by simp at h, fun h => absurd (hp (h j (Nat.le_refl _) hj)) hn⟩
    have st : ∀ {f : Nat → Option Bool} {r : Bool}, (∀ k, impl_areSessions.l0 (k + 1) l l.length j cap now l = f k) → Ev f r → Ev (fun k => impl_areSessions.l0 k l l.length j cap now l) r := fun h e => Ev.step h e
    by_cases h1 : 1 ≤ (rd_T54 l j).f0 ∧ (rd_T54 l j).f0 ≤ 999
    rotate_left
    · refine ⟨false, st (fun k => by rw [impl_areSessions.l0]) (ev_pos (by omega) (ev_pos (by omega) (ev_pos (by omega) ?_))), hf h1 fun h => h.1⟩
      by_cases q : (rd_T54 l j).f0 < 1
      · exact ev_pos q (bad _ _ _ _ _ rfl)
      · exact ev_neg q (ev_pos (by omega) (bad _ _ _ _ _ rfl))
    by_cases h2 : 1 ≤ (rd_T54 l j).f1 ∧ (rd_T54 l j).f1 ≤ 1000000
    rotate_left
    · refine ⟨false, st (fun k => by rw [impl_areSessions.l0]) (ev_pos (by omega) (ev_pos (by omega) (ev_pos (by omega) (ev_neg (by omega) (ev_neg (by omega) ?_))))), hf h2 fun h => h.2.1⟩
      by_cases q : (rd_T54 l j).f1 < 1
      · exact ev_pos q (bad _ _ _ _ _ rfl)
      · exact ev_neg q (ev_pos (by omega) (bad _ _ _ _ _ rfl))
    by_cases h3 : 1 ≤ (rd_T54 l j).f2 ∧ (rd_T54 l j).f2 ≤ now
    rotate_left
    · refine ⟨false, st (fun k => by rw [impl_areSessions.l0]) (ev_pos (by omega) (ev_pos (by omega) (ev_pos (by omega) (ev_neg (by omega) (ev_neg (by omega) (ev_neg (by omega) (ev_neg (by omega) ?_))))))), hf h3 fun h => h.2.2.1⟩
      by_cases q : (rd_T54 l j).f2 < 1
      · exact ev_pos q (bad _ _ _ _ _ rfl)
      · exact ev_neg q (ev_pos (by omega) (bad _ _ _ _ _ rfl))
    have pre : ∀ r, Ev (fun k => impl_areSessions.j2 k j l l.length j (decide (((rd_T54 l j).f3.size : Int) > 40)) cap now l ((rd_T54 l j).f0) ((rd_T54 l j).f1) ((rd_T54 l j).f2) ((rd_T54 l j).f3)) r → Ev (fun k => impl_areSessions.l0 k l l.length j cap now l) r := fun r h =>
      st (fun k => by rw [impl_areSessions.l0]) (ev_pos (by omega) (ev_pos (by omega) (ev_pos (by omega) (ev_neg (by omega) (ev_neg (by omega) (ev_neg (by omega) (ev_neg (by omega) (ev_neg (by omega) (ev_neg (by omega) h)))))))))
    by_cases h4 : ((rd_T54 l j).f3.size : Int) > 40
    · exact ⟨false, pre _ (bad _ _ _ _ _ (decide_eq_true h4)), hf (p := (rd_T54 l j).f3.size ≤ 40) (by omega) fun h => h.2.2.2.1⟩
    rw [decide_eq_false h4] at pre
    have tail : ∀ r, Ev (fun k => if 0 ≤ (j : Int) then (if (j : Int) ≤ (l.length : Int) then ((impl_Session_54.f (l.take (j : Int).toNat) ((rd_T54 l j).f0) ((rd_T54 l j).f1) ((rd_T54 l j).f2) ((rd_T54 l j).f3)).bind fun t147 => (if t147 = true then (some false) else (impl_areSessions.l0 k l (l.length : Int) (wrap64 ((j : Int) + 1)) cap now l))) else (none)) else (none)) r → (0 < j → (rd_T54 l (j - 1 : Nat)).f0 < (rd_T54 l j).f0) → Ev (fun k => impl_areSessions.l0 k l l.length j cap now l) r := fun r h h5 => by
      refine pre r ?_
      refine Ev.step (fun k => by rw [impl_areSessions.j2]) ?_
      refine ev_neg (by simp) ?_
      by_cases h0 : j = 0
      · exact ev_neg (by omega) h
      · have := h5 (by omega)
        rw [wpred (by omega) (by omega)]
        exact ev_pos (by omega) (ev_pos (by omega) (ev_pos (by omega) (ev_neg (by omega) h)))
    by_cases h5 : 0 < j → (rd_T54 l (j - 1 : Nat)).f0 < (rd_T54 l j).f0
    rotate_left
    · have h0 : 0 < j := by
        apply Classical.byContradiction
        intro hn; exact h5 fun h => absurd h hn
      have h6 : ¬ (rd_T54 l (j - 1 : Nat)).f0 < (rd_T54 l j).f0 := fun h => h5 fun _ => h
      refine ⟨false, pre _ ?_, hf h5 fun h => h.2.2.2.2.1⟩
      refine Ev.step (fun k => by rw [impl_areSessions.j2]) ?_
      rw [wpred (by omega) (by omega)]
      exact ev_neg (by simp) (ev_pos (by omega) (ev_pos (by omega) (ev_pos (by omega) (ev_pos (by omega) (Ev.now _)))))
    rw [toNat_cast, any_take l j (by omega), hwj] at tail
    by_cases h6 : ∀ q : Nat, q < j → (rd_T54 l q).f2 ≠ (rd_T54 l j).f2
    · refine ⟨b, tail _ (ev_pos (by omega) (ev_pos (by omega) (Ev.bind (Ev.now _) (ev_neg ?_ hb)))) h5, ?_⟩
      · rw [decide_eq_true_iff]
        rintro ⟨q, hq, e⟩
        exact h6 q hq e
      · rw [hi]
        constructor
        · intro h i h7 h8
          by_cases e : i = j
          · subst e; exact ⟨h1, h2, h3, by omega, h5, h6⟩
          · exact h i (by omega) h8
        · intro h i h7 h8; exact h i (by omega) h8
    · refine ⟨false, tail _ (ev_pos (by omega) (ev_pos (by omega) (Ev.bind (Ev.now _) (ev_pos ?_ (Ev.now _))))) h5, hf h6 fun h => h.2.2.2.2.2⟩
      rw [decide_eq_true_iff]
      apply Classical.byContradiction
      intro hn
      exact h6 fun q hq e => hn ⟨q, hq, e⟩
theorem implSess_ev (cap now : Int) (l : List S54) (hl : l.length ≤ 1048576) : ∃ b, Ev (fun k => impl_areSessions.f k cap now l) b ∧ (b = true ↔ SessP cap now l) := by
  have bad : ∀ b0 : Bool, b0 = true → Ev (fun k => impl_areSessions.j0 k b0 cap now l) false := fun b0 h => by
    refine Ev.step (fun k => by rw [impl_areSessions.j0]) ?_
    exact ev_pos h (Ev.now _)
  have no : ∀ {p : Prop}, ¬ p → (SessP cap now l → p) → (false = true ↔ SessP cap now l) := fun hn hp => ⟨fun h => by simp at h, fun h => absurd (hp h) hn⟩
  unfold impl_areSessions.f
  by_cases h1 : cap < 1
  · exact ⟨false, ev_pos h1 (bad _ rfl), no (p := 1 ≤ cap) (by omega) fun h => h.1.1⟩
  by_cases h2 : cap > 12
  · exact ⟨false, ev_neg h1 (ev_pos h2 (bad _ rfl)), no (p := cap ≤ 12) (by omega) fun h => h.1.2⟩
  by_cases h3 : now < 0
  · exact ⟨false, ev_neg h1 (ev_neg h2 (ev_pos h3 (bad _ rfl))), no (p := 0 ≤ now) (by omega) fun h => h.2.1.1⟩
  by_cases h4 : now > 1000000
  · exact ⟨false, ev_neg h1 (ev_neg h2 (ev_neg h3 (ev_pos h4 (bad _ rfl)))), no (p := now ≤ 1000000) (by omega) fun h => h.2.1.2⟩
  by_cases h5 : (l.length : Int) > cap
  · exact ⟨false, ev_neg h1 (ev_neg h2 (ev_neg h3 (ev_neg h4 (bad _ (decide_eq_true h5))))), no (p := (l.length : Int) ≤ cap) (by omega) fun h => h.2.2.1⟩
  obtain ⟨b, hb, hi⟩ := implS_0 cap now l hl l.length 0 (by omega)
  refine ⟨b, ev_neg h1 (ev_neg h2 (ev_neg h3 (ev_neg h4 ?_))), ?_⟩
  · refine Ev.step (fun k => by rw [impl_areSessions.j0]) ?_
    exact ev_neg (by simpa using h5) hb
  · rw [hi]
    exact ⟨fun h => ⟨⟨by omega, by omega⟩, ⟨by omega, by omega⟩, by omega, fun j hj => h j (by omega) hj⟩, fun h i _ hi => h.2.2.2 i hi⟩

abbrev noS : ByteArray := ⟨#[]⟩
noncomputable instance (p : Prop) : Decidable p := Classical.propDecidable p
def lookY (y : S54) (s : Int) : Int × ByteArray := if s = wrap64 (y.f1 + 1) then (0, noS) else if s = y.f1 then (1, y.f3) else if s < y.f1 then (2, noS) else (3, noS)
/-- What a call of a client is. -/
noncomputable def lookM (cap now : Int) (l : List S54) (c s : Int) : Int × ByteArray := if SessP cap now l ∧ (1 ≤ c ∧ c ≤ 999) ∧ (1 ≤ s ∧ s ≤ 1000000) then lookY (lastOf l c) s else (4, noS)
theorem lookY_ev (y : S54) (s : Int) : Ev (fun _ => if s = wrap64 (y.f1 + 1) then (some (0, noS)) else (if s = y.f1 then (some (1, y.f3)) else (if s < y.f1 then (some (2, noS)) else (some (3, noS))))) (lookY y s) := by
  refine ev_const ?_
  unfold lookY
  by_cases h1 : s = wrap64 (y.f1 + 1)
  · rw [if_pos h1, if_pos h1]
  · rw [if_neg h1, if_neg h1]
    by_cases h2 : s = y.f1
    · rw [if_pos h2, if_pos h2]
    · rw [if_neg h2, if_neg h2]
      by_cases h3 : s < y.f1
      · rw [if_pos h3, if_pos h3]
      · rw [if_neg h3, if_neg h3]
theorem specLook_ev (cap now : Int) (l : List S54) (hl : l.length ≤ 1048576) (c s : Int) : Ev (fun k => spec_Look.f k cap now l c s) (lookM cap now l c s) := by
  obtain ⟨b, hb, hi⟩ := specSess_ev cap now l hl
  have bad : ∀ b0 : Bool, b0 = true → Ev (fun k => spec_Look.j0 k c s b0 cap now l) (4, noS) := fun b0 h => by
    refine Ev.step (fun k => by rw [spec_Look.j0]) ?_
    exact ev_pos h (Ev.now _)
  unfold spec_Look.f lookM
  simp only [in_eq, Option.bind_some, decide_eq_true_eq]
  by_cases h1 : b = true
  rotate_left
  · rw [if_neg (fun h => h1 (hi.2 h.1))]
    exact Ev.bind hb (ev_neg h1 (bad _ rfl))
  by_cases h2 : 1 ≤ c ∧ c ≤ 999
  rotate_left
  · rw [if_neg (fun h => h2 h.2.1)]
    exact Ev.bind hb (ev_pos h1 (ev_neg h2 (bad _ rfl)))
  by_cases h3 : 1 ≤ s ∧ s ≤ 1000000
  rotate_left
  · rw [if_neg (fun h => h3 h.2.2)]
    exact Ev.bind hb (ev_pos h1 (ev_pos h2 (bad _ (by rw [decide_eq_false h3]; rfl))))
  rw [if_pos ⟨hi.1 h1, h2, h3⟩]
  refine Ev.bind hb (ev_pos h1 (ev_pos h2 ?_))
  refine Ev.step (fun k => by rw [spec_Look.j0]) ?_
  exact ev_neg (by rw [decide_eq_true h3]; decide) (Ev.bind (l09Find_ev cap now c l hl) (lookY_ev (lastOf l c) s))
theorem implLook_ev (cap now : Int) (l : List S54) (hl : l.length ≤ 1048576) (c s : Int) : Ev (fun k => impl_look.f k cap now l c s) (lookM cap now l c s) := by
  obtain ⟨b, hb, hi⟩ := implSess_ev cap now l hl
  have bad : ∀ b0 : Bool, b0 = true → Ev (fun k => impl_look.j0 k c s b0 cap now l) (4, noS) := fun b0 h => by
    refine Ev.step (fun k => by rw [impl_look.j0]) ?_
    exact ev_pos h (Ev.now _)
  unfold impl_look.f lookM
  by_cases h1 : b = true
  rotate_left
  · rw [if_neg (fun h => h1 (hi.2 h.1))]
    exact Ev.bind hb (ev_neg h1 (bad _ rfl))
  by_cases h2 : c < 1
  · rw [if_neg (fun h => by have := h.2.1; omega)]
    exact Ev.bind hb (ev_pos h1 (ev_pos h2 (bad _ rfl)))
  by_cases h3 : c > 999
  · rw [if_neg (fun h => by have := h.2.1; omega)]
    exact Ev.bind hb (ev_pos h1 (ev_neg h2 (ev_pos h3 (bad _ rfl))))
  by_cases h4 : s < 1
  · rw [if_neg (fun h => by have := h.2.2; omega)]
    exact Ev.bind hb (ev_pos h1 (ev_neg h2 (ev_neg h3 (ev_pos h4 (bad _ rfl)))))
  by_cases h5 : s > 1000000
  · rw [if_neg (fun h => by have := h.2.2; omega)]
    exact Ev.bind hb (ev_pos h1 (ev_neg h2 (ev_neg h3 (ev_neg h4 (bad _ (decide_eq_true h5))))))
  rw [if_pos ⟨hi.1 h1, by omega, by omega⟩]
  have j1 : ∀ y : S54, Ev (fun k => impl_look.j1 k s y.f0 y.f1 y.f2 y.f3) (lookY y s) := fun y => by
    refine Ev.step (fun k => by rw [impl_look.j1]) ?_
    exact lookY_ev y s
  refine Ev.bind hb (ev_pos h1 (ev_neg h2 (ev_neg h3 (ev_neg h4 ?_))))
  refine Ev.step (fun k => by rw [impl_look.j0]) ?_
  refine ev_neg (by simpa using h5) ?_
  rcases idx_cases l c with ⟨i, hi', e, _, e2, _⟩ | ⟨e, e2, _⟩
  · refine Ev.bind (a := (i : Int)) (ev_const (by unfold impl_sessionOf.f; exact congrArg some e)) ?_
    rw [e2]
    exact ev_pos (by omega) (ev_pos (by omega) (ev_pos (by omega) (j1 _)))
  · refine Ev.bind (a := (-1 : Int)) (ev_const (by unfold impl_sessionOf.f; exact congrArg some e)) ?_
    rw [e2]
    exact ev_neg (by omega) (j1 z54)

/-- What is asked of a session by itself. -/
def OKs (now : Int) (x : S54) : Prop := (1 ≤ x.f0 ∧ x.f0 ≤ 999) ∧ (1 ≤ x.f1 ∧ x.f1 ≤ 1000000) ∧ (1 ≤ x.f2 ∧ x.f2 ≤ now) ∧ x.f3.size ≤ 40
def RR (x y : S54) : Prop := x.f0 < y.f0 ∧ x.f2 ≠ y.f2
def LS (now : Int) (l : List S54) : Prop := (∀ x ∈ l, OKs now x) ∧ l.Pairwise RR
theorem ls_of {cap now : Int} {l : List S54} (h : SessP cap now l) : LS now l := by
  refine ⟨fun x hx => ?_, ?_⟩
  · obtain ⟨q, hq, rfl⟩ := List.mem_iff_getElem.1 hx
    have := h.2.2.2 q hq
    unfold SP at this
    rw [rdE l q hq] at this
    exact ⟨this.1, this.2.1, this.2.2.1, this.2.2.2.1⟩
  · rw [List.pairwise_iff_getElem]
    intro i j hi hj hij
    have h1 := sorted_lt h hij hj
    have h2 := (h.2.2.2 j hj).2.2.2.2.2 i hij
    rw [rdE l i hi, rdE l j hj] at h1 h2
    exact ⟨h1, h2⟩
theorem of_ls {cap now : Int} {l : List S54} (hc : 1 ≤ cap ∧ cap ≤ 12) (hn : 0 ≤ now ∧ now ≤ 1000000) (hl : (l.length : Int) ≤ cap) (h : LS now l) : SessP cap now l := by
  refine ⟨hc, hn, hl, fun j hj => ?_⟩
  have h1 := h.1 l[j] (List.getElem_mem hj)
  have h2 := List.pairwise_iff_getElem.1 h.2
  unfold SP
  rw [rdE l j hj]
  refine ⟨h1.1, h1.2.1, h1.2.2.1, h1.2.2.2, fun h0 => ?_, fun i hi => ?_⟩
  · rw [rdE l (j - 1) (by omega)]
    exact (h2 (j - 1) j (by omega) hj (by omega)).1
  · rw [rdE l i (by omega)]
    exact (h2 i j (by omega) hj hi).2
theorem ls_sub {now : Int} {l l' : List S54} (h : LS now l) (hs : l'.Sublist l) : LS now l' := ⟨fun x hx => h.1 x (hs.subset hx), h.2.sublist hs⟩
theorem ls_ins {now : Int} {a b : List S54} (h : LS now (a ++ b)) {y : S54} (hy : OKs (now + 1) y) (hu : y.f2 = now + 1) (ha : ∀ x ∈ a, x.f0 < y.f0) (hb : ∀ x ∈ b, y.f0 < x.f0) : LS (now + 1) (a ++ y :: b) := by
  obtain ⟨p1, p2, p3⟩ := List.pairwise_append.1 h.2
  have up : ∀ x ∈ a ++ b, OKs (now + 1) x ∧ x.f2 ≤ now := fun x hx => by
    have := h.1 x hx
    refine ⟨⟨this.1, this.2.1, ⟨this.2.2.1.1, ?_⟩, this.2.2.2⟩, this.2.2.1.2⟩
    have := this.2.2.1.2
    omega
  refine ⟨fun x hx => ?_, ?_⟩
  · rw [List.mem_append, List.mem_cons] at hx
    rcases hx with hx | rfl | hx
    · exact (up x (List.mem_append_left _ hx)).1
    · exact hy
    · exact (up x (List.mem_append_right _ hx)).1
  · rw [List.pairwise_append, List.pairwise_cons]
    refine ⟨p1, ⟨fun x hx => ⟨hb x hx, ?_⟩, p2⟩, fun x hx z hz => ?_⟩
    · have := (up x (List.mem_append_right _ hx)).2; omega
    · rw [List.mem_cons] at hz
      rcases hz with rfl | hz
      · have := (up x (List.mem_append_left _ hx)).2
        exact ⟨ha x hx, by omega⟩
      · exact p3 x hx z hz
theorem mem_take_rd {l : List S54} {p : Nat} {x : S54} (h : x ∈ l.take p) : ∃ j : Nat, j < p ∧ j < l.length ∧ rd_T54 l j = x := by
  obtain ⟨q, hq, rfl⟩ := List.mem_iff_getElem.1 h
  rw [List.length_take] at hq
  exact ⟨q, by omega, by omega, by rw [rdE l q (by omega), List.getElem_take]⟩
theorem mem_drop_rd {l : List S54} {p : Nat} {x : S54} (h : x ∈ l.drop p) : ∃ j : Nat, p ≤ j ∧ j < l.length ∧ rd_T54 l j = x := by
  obtain ⟨q, hq, rfl⟩ := List.mem_iff_getElem.1 h
  rw [List.length_drop] at hq
  exact ⟨p + q, by omega, by omega, by rw [rdE l (p + q) (by omega), List.getElem_drop]⟩
/-- A session that is set anew. -/
theorem sess_set {cap now : Int} {l : List S54} (h : SessP cap now l) (hn : now < 1000000) {y : S54} (hy : OKs (now + 1) y) (hu : y.f2 = now + 1) {i : Nat} (hi : i < l.length) (he : (rd_T54 l i).f0 = y.f0) : SessP cap (now + 1) (l.set i y) := by
  obtain ⟨h1, h2, h3, _⟩ := id h
  refine of_ls h1 ⟨by omega, by omega⟩ (by simpa using h3) ?_
  rw [List.set_eq_take_append_cons_drop, if_pos hi]
  have hs : LS now (l.take i ++ l.drop (i + 1)) := by
    rw [← List.eraseIdx_eq_take_drop_succ]
    exact ls_sub (ls_of h) (List.eraseIdx_sublist _ _)
  refine ls_ins hs hy hu (fun x hx => ?_) (fun x hx => ?_)
  · obtain ⟨j, hj, hl, rfl⟩ := mem_take_rd hx
    have := sorted_lt h hj hi
    omega
  · obtain ⟨j, hj, hl, rfl⟩ := mem_drop_rd hx
    have := sorted_lt h (show i < j by omega) hl
    omega
/-- A session that comes in at its place. -/
theorem sess_ins {cap now : Int} {l : List S54} (h : SessP cap now l) (hn : now < 1000000) (hl : (l.length : Int) < cap) {y : S54} (hy : OKs (now + 1) y) (hu : y.f2 = now + 1) {p : Nat} (hp : p ≤ l.length) (hlo : ∀ j : Nat, j < p → (rd_T54 l j).f0 < y.f0) (hhi : p < l.length → ¬ (rd_T54 l p).f0 < y.f0) (hno : ∀ j : Nat, j < l.length → (rd_T54 l j).f0 ≠ y.f0) : SessP cap (now + 1) (l.take p ++ y :: l.drop p) := by
  obtain ⟨h1, h2, h3, _⟩ := id h
  refine of_ls h1 ⟨by omega, by omega⟩ (by simp; omega) ?_
  refine ls_ins (by rw [List.take_append_drop]; exact ls_of h) hy hu (fun x hx => ?_) (fun x hx => ?_)
  · obtain ⟨j, hj, hl, rfl⟩ := mem_take_rd hx
    exact hlo j hj
  · obtain ⟨j, hj, hl, rfl⟩ := mem_drop_rd hx
    have a1 := hhi (by omega)
    have a2 := hno p (by omega)
    by_cases e : j = p
    · subst e; omega
    · have := sorted_lt h (show p < j by omega) hl
      omega
theorem sess_erase {cap now : Int} {l : List S54} (h : SessP cap now l) (q : Nat) : SessP cap now (l.eraseIdx q) := by
  obtain ⟨h1, h2, h3, _⟩ := id h
  have := List.length_eraseIdx_le l q
  exact of_ls h1 h2 (by omega) (ls_sub (ls_of h) (List.eraseIdx_sublist _ _))

theorem filter_all (l : List S54) (c : Int) (h : ∀ j : Nat, j < l.length → (rd_T54 l j).f0 ≠ c) : l.filter (ne c) = l := by
  rw [List.filter_eq_self]
  intro x hx
  obtain ⟨q, hq, rfl⟩ := List.mem_iff_getElem.1 hx
  have := h q hq
  rw [rdE l q hq] at this
  simp [ne, this]
theorem rd_take (l : List S54) (p j : Nat) (hj : j < p) : rd_T54 (l.take p) j = rd_T54 l j := by
  unfold rd_T54
  rw [toNat_cast, List.getD_eq_getElem?_getD, List.getD_eq_getElem?_getD, List.getElem?_take_of_lt hj]
theorem rd_drop (l : List S54) (p j : Nat) : rd_T54 (l.drop p) j = rd_T54 l (p + j : Nat) := by
  unfold rd_T54
  rw [toNat_cast, toNat_cast, List.getD_eq_getElem?_getD, List.getD_eq_getElem?_getD, List.getElem?_drop]
theorem rd_erase (l : List S54) (o j : Nat) : rd_T54 (l.eraseIdx o) j = if j < o then rd_T54 l j else rd_T54 l (j + 1 : Nat) := by
  unfold rd_T54
  rw [toNat_cast, toNat_cast, List.getD_eq_getElem?_getD, List.getD_eq_getElem?_getD, List.getElem?_eraseIdx]
  by_cases h : j < o
  · rw [if_pos h, if_pos h]
  · rw [if_neg h, if_neg h, List.getD_eq_getElem?_getD]
/-- The place for a client that has no session. -/
theorem place_l (l : List S54) (c : Int) (d : Nat) : ∀ i : Nat, l.length = i + d → (∀ j : Nat, j < i → (rd_T54 l j).f0 < c) → ∃ p : Nat, i ≤ p ∧ p ≤ l.length ∧ (∀ j : Nat, j < p → (rd_T54 l j).f0 < c) ∧ (p < l.length → ¬ (rd_T54 l p).f0 < c) := by
  induction d with
  | zero => intro i hd hb; exact ⟨i, Nat.le_refl _, by omega, hb, fun h => by omega⟩
  | succ d ih =>
    intro i hd hb
    by_cases h : (rd_T54 l i).f0 < c
    · obtain ⟨p, h1, h2, h3, h4⟩ := ih (i + 1) (by omega) (fun j hj => by
        by_cases e : j = i
        · rw [e]; exact h
        · exact hb j (by omega))
      exact ⟨p, by omega, h2, h3, h4⟩
    · exact ⟨i, Nat.le_refl _, by omega, hb, fun _ => h⟩
theorem ins_l (cap now c : Int) (l : List S54) (hl : l.length ≤ 100000) (y : S54) (p : Nat) (hp : p ≤ l.length) (hlo : ∀ j : Nat, j < p → (rd_T54 l j).f0 < c) (hhi : p < l.length → ¬ (rd_T54 l p).f0 < c) (d : Nat) : ∀ i : Nat, i + d = p → Ev (fun k => impl_keep.l1 k c i cap now l y.f0 y.f1 y.f2 y.f3) (cap, now, l.take p ++ y :: l.drop p, true) := by
  have hins : impl_Session_56.f l (p : Int) [y] = some (l.take p ++ y :: l.drop p) := by
    unfold impl_Session_56.f
    rw [toNat_cast, if_pos ⟨by omega, by omega, rfl, by omega⟩]
    simp
  induction d with
  | zero =>
    intro i hd
    obtain rfl : i = p := by omega
    refine Ev.step (fun k => by rw [impl_keep.l1]) ?_
    by_cases hn : i < l.length
    · exact ev_pos (by omega) (ev_pos (by omega) (ev_neg (hhi hn) (Ev.bind (ev_const hins) (Ev.now _))))
    · exact ev_neg (by omega) (Ev.bind (ev_const hins) (Ev.now _))
  | succ d ih =>
    intro i hd
    refine Ev.step (fun k => by rw [impl_keep.l1]) ?_
    rw [wsucc (n := l.length) (by omega) (by omega)]
    exact ev_pos (by omega) (ev_pos (by omega) (ev_pos (hlo i (by omega)) (ih (i + 1) (by omega))))
/-- Where the one that was used longest ago stands: both look for it alike. -/
theorem old_l (cap now c s : Int) (t : ByteArray) (l : List S54) (hl : l.length ≤ 100000) (y : S54) (now' : Int) (d : Nat) : ∀ (i o : Nat), l.length = i + d → o < l.length → ∃ q : Nat, q < l.length ∧
    (∀ r, Ev (fun k => (spec_l09Put.f k cap now l (rd_T54 l q).f0 0 0 0 (⟨#[]⟩ : ByteArray)).bind fun bt224 => ((spec_l09Put.f k bt224.1 (wrap64 (bt224.2.1 + 1)) bt224.2.2 c c s (wrap64 (bt224.2.1 + 1)) t).bind fun bt229 => (some (bt229.1, bt229.2.1, bt229.2.2, true)))) r → Ev (fun k => spec_Keep.l0 k c s t i cap now l cap now l (rd_T54 l o).f0 (rd_T54 l o).f1 (rd_T54 l o).f2 (rd_T54 l o).f3) r) ∧
    (∀ r, Ev (fun k => (impl_Session_48.f l (q : Int) (wrap64 ((q : Int) + 1))).bind fun t282 => (impl_keep.j2 k c cap now' t282 y.f0 y.f1 y.f2 y.f3)) r → Ev (fun k => impl_keep.l0 k c o l l.length i cap now' l y.f0 y.f1 y.f2 y.f3) r) := by
  induction d with
  | zero =>
    intro i o hd ho
    refine ⟨o, ho, fun r hr => ?_, fun r hr => ?_⟩
    · refine Ev.step (fun k => by rw [spec_Keep.l0]) ?_
      exact ev_neg (by omega) hr
    · refine Ev.step (fun k => by rw [impl_keep.l0]) ?_
      exact ev_neg (by omega) hr
  | succ d ih =>
    intro i o hd ho
    by_cases h : (rd_T54 l i).f2 < (rd_T54 l o).f2
    · obtain ⟨q, hq, h1, h2⟩ := ih (i + 1) i (by omega) (by omega)
      refine ⟨q, hq, fun r hr => ?_, fun r hr => ?_⟩
      · refine Ev.step (fun k => by rw [spec_Keep.l0]) ?_
        rw [wsucc (n := l.length) (by omega) (by omega)]
        exact ev_pos (by omega) (ev_pos (by omega) (ev_pos h (h1 r hr)))
      · refine Ev.step (fun k => by rw [impl_keep.l0]) ?_
        rw [wsucc (n := l.length) (by omega) (by omega)]
        exact ev_pos (by omega) (ev_pos (by omega) (ev_pos (by omega) (ev_pos (by omega) (ev_pos (by omega) (ev_pos h (h2 r hr))))))
    · obtain ⟨q, hq, h1, h2⟩ := ih (i + 1) o (by omega) ho
      refine ⟨q, hq, fun r hr => ?_, fun r hr => ?_⟩
      · refine Ev.step (fun k => by rw [spec_Keep.l0]) ?_
        rw [wsucc (n := l.length) (by omega) (by omega)]
        exact ev_pos (by omega) (ev_pos (by omega) (ev_neg h (h1 r hr)))
      · refine Ev.step (fun k => by rw [impl_keep.l0]) ?_
        rw [wsucc (n := l.length) (by omega) (by omega)]
        exact ev_pos (by omega) (ev_pos (by omega) (ev_pos (by omega) (ev_pos (by omega) (ev_pos (by omega) (ev_neg h (h2 r hr))))))
/-- Behind the forgetting: a new session at its place, alike for both. -/
theorem both_ins (cap now c : Int) (l : List S54) (hl : l.length ≤ 100000) (y : S54) (hy : y.f0 = c) (hc : c ≠ 0) (hno : ∀ j : Nat, j < l.length → (rd_T54 l j).f0 ≠ c) : ∃ p : Nat, p ≤ l.length ∧ (∀ j : Nat, j < p → (rd_T54 l j).f0 < c) ∧ (p < l.length → ¬ (rd_T54 l p).f0 < c) ∧
    Ev (fun k => spec_l09Put.f k cap now l c y.f0 y.f1 y.f2 y.f3) (cap, now, l.take p ++ y :: l.drop p) ∧ Ev (fun k => impl_keep.j2 k c cap now l y.f0 y.f1 y.f2 y.f3) (cap, now, l.take p ++ y :: l.drop p, true) := by
  obtain ⟨p, _, hp, hlo, hhi⟩ := place_l l c l.length 0 (by omega) (fun j h => by omega)
  refine ⟨p, hp, hlo, hhi, ?_, ?_⟩
  · have := put_false cap now l (by omega) c y cap now p hp (fun j hj => by have := hlo j hj; omega) (fun h => by have := hhi h; have := hno p h; omega) p 0 [] (by omega) (by simp)
    rw [List.drop_zero, filter_all (l.take p) c (fun j hj => by rw [List.length_take] at hj; rw [rd_take l p j (by omega)]; exact hno j (by omega)), filter_all (l.drop p) c (fun j hj => by rw [List.length_drop] at hj; rw [rd_drop]; exact hno _ (by omega)), List.nil_append] at this
    unfold spec_l09Put.f
    rw [show (y.f0 == 0) = false by simp; omega]
    exact this
  · refine Ev.step (fun k => by rw [impl_keep.j2]) ?_
    exact ins_l cap now c l hl y p hp hlo hhi p 0 (by omega)
theorem put_found (cap now c : Int) (l : List S54) {now0 cap0 : Int} (hS : SessP cap0 now0 l) (hl : l.length ≤ 100000) (y : S54) (hy : y.f0 = c) (hc : c ≠ 0) (i : Nat) (hi : i < l.length) (he : (rd_T54 l i).f0 = c) : Ev (fun k => spec_l09Put.f k cap now l c y.f0 y.f1 y.f2 y.f3) (cap, now, l.set i y) := by
  have := put_false cap now l (by omega) c y cap now (i + 1) (by omega) (fun j hj => by
    by_cases e : j = i
    · subst e; omega
    · have := sorted_lt hS (show j < i by omega) hi; omega) (fun h => by have := sorted_lt hS (show i < i + 1 by omega) h; omega) (i + 1) 0 [] (by omega) (by simp)
  rw [List.drop_zero, List.take_succ_eq_append_getElem hi, List.filter_append, filter_all (l.take i) c (fun j hj => by
      rw [List.length_take] at hj; rw [rd_take l i j (by omega)]
      have := sorted_lt hS (show j < i by omega) hi; omega), List.filter_cons, if_neg (by rw [← rdE l i hi]; simp [ne, he]), List.filter_nil, List.append_nil, filter_all (l.drop (i + 1)) c (fun j hj => by
      rw [List.length_drop] at hj; rw [rd_drop]
      have := sorted_lt hS (show i < i + 1 + j by omega) (by omega); omega), List.nil_append] at this
  unfold spec_l09Put.f
  rw [show (y.f0 == 0) = false by simp; omega, List.set_eq_take_append_cons_drop, if_pos hi]
  exact this
def KeepX (cap now : Int) (l : List S54) (c s : Int) (t : ByteArray) (r : Int × Int × List S54 × Bool) : Prop := ((lookM cap now l c s).1 ≠ 0 → r = (cap, now, l, false)) ∧ ((lookM cap now l c s).1 = 0 → t.size ≤ 40 → now < 1000000 → r.2.2.2 = true ∧ (⟨c, s, now + 1, t⟩ : S54) ∈ r.2.2.1) ∧ r.2.1 ≤ now + 1
theorem keep_ev (cap now : Int) (l : List S54) (hl : l.length ≤ 1048576) (c s : Int) (t : ByteArray) : ∃ r : Int × Int × List S54 × Bool, r.2.2.1.length ≤ l.length + 1 ∧ (r.2.2.1.length = l.length + 1 → l.length ≤ 12) ∧ (SessP cap now l → SessP cap r.2.1 r.2.2.1 ∧ r.1 = cap) ∧ (∀ P : Int → Prop, P c → (∀ x ∈ l, P x.f0) → ∀ x ∈ r.2.2.1, P x.f0) ∧ KeepX cap now l c s t r ∧ Ev (fun k => spec_Keep.f k cap now l c s t) r ∧ Ev (fun k => impl_keep.f k cap now l c s t) r := by
  have hsl := specLook_ev cap now l hl c s
  have hil := implLook_ev cap now l hl c s
  have hcp := l09Copy_ev cap now l hl
  have sb : ∀ b0 : Bool, b0 = true → Ev (fun k => spec_Keep.j0 k c s t b0 cap now l) (cap, now, l, false) := fun b0 h => by
    refine Ev.step (fun k => by rw [spec_Keep.j0]) ?_
    exact ev_pos h (Ev.bind hcp (Ev.now _))
  have ib : ∀ b0 : Bool, b0 = true → Ev (fun k => impl_keep.j0 k c s t b0 cap now l) (cap, now, l, false) := fun b0 h => by
    refine Ev.step (fun k => by rw [impl_keep.j0]) ?_
    exact ev_pos h (Ev.now _)
  unfold spec_Keep.f impl_keep.f
  have hcs := ev_const (copyS_ev cap now l hl)
  by_cases h1 : (lookM cap now l c s).1 = 0
  rotate_left
  · exact ⟨(cap, now, l, false), by simp, by simp, fun h => ⟨h, rfl⟩, fun _ _ h => h, ⟨fun _ => rfl, fun h => absurd h h1, by show now ≤ now + 1; omega⟩, Ev.bind hsl (ev_neg h1 (sb _ rfl)), Ev.bind hcs (Ev.bind hil (ev_neg h1 (ib _ rfl)))⟩
  by_cases h2 : (t.size : Int) > 40
  · exact ⟨(cap, now, l, false), by simp, by simp, fun h => ⟨h, rfl⟩, fun _ _ h => h, ⟨fun h => absurd h1 h, fun _ h => absurd h (by omega), by show now ≤ now + 1; omega⟩, Ev.bind hsl (ev_pos h1 (ev_pos h2 (sb _ rfl))), Ev.bind hcs (Ev.bind hil (ev_pos h1 (ev_pos h2 (ib _ rfl))))⟩
  have hS : SessP cap now l ∧ (1 ≤ c ∧ c ≤ 999) ∧ (1 ≤ s ∧ s ≤ 1000000) := by
    unfold lookM at h1
    by_cases h : SessP cap now l ∧ (1 ≤ c ∧ c ≤ 999) ∧ (1 ≤ s ∧ s ≤ 1000000)
    · exact h
    · rw [if_neg h] at h1; simp at h1
  obtain ⟨hS, ⟨hc1, hc2⟩, hs1, hs2⟩ := hS
  obtain ⟨⟨k1, k2⟩, ⟨k3, k4⟩, k5, _⟩ := And.left ⟨hS, trivial⟩
  by_cases h3 : now = 1000000
  · exact ⟨(cap, now, l, false), by simp, by simp, fun h => ⟨h, rfl⟩, fun _ _ h => h, ⟨fun h => absurd h1 h, fun _ _ h => absurd h (by omega), by show now ≤ now + 1; omega⟩, Ev.bind hsl (ev_pos h1 (ev_neg h2 (sb _ (decide_eq_true (by omega))))), Ev.bind hcs (Ev.bind hil (ev_pos h1 (ev_neg h2 (ib _ (by simpa using h3)))))⟩
  have hw : wrap64 (now + 1) = now + 1 := w64 (by omega) (by omega)
  have sj : ∀ r, Ev (fun k => (spec_l09Find.f k cap now l c).bind fun bt216 => (if bt216.1 = 0 then (spec_Keep.j1 k c s t ((l.length : Int) == cap) cap now l cap now l) else (spec_Keep.j1 k c s t false cap now l cap now l))) r → Ev (fun k => (spec_Look.f k cap now l c s).bind fun bt203 => (if bt203.1 = 0 then (if (t.size : Int) > 40 then (spec_Keep.j0 k c s t true cap now l) else (spec_Keep.j0 k c s t (decide (now ≥ 1000000)) cap now l)) else (spec_Keep.j0 k c s t true cap now l))) r := fun r hr => by
    refine Ev.bind hsl (ev_pos h1 (ev_neg h2 ?_))
    refine Ev.step (fun k => by rw [spec_Keep.j0]) ?_
    exact ev_neg (by simp; omega) (Ev.bind hcp hr)
  have ij : ∀ r, Ev (fun k => (impl_sessionOf.f cap (now + 1) l c).bind fun t277 => (if t277 ≥ 0 then (if 0 ≤ t277 then (if t277 < (l.length : Int) then (some (cap, now + 1, (l.set (t277 : Int).toNat (⟨c, s, now + 1, t⟩ : S54)), true)) else (none)) else (none)) else (if (l.length : Int) = cap then (impl_keep.l0 k c 0 l (l.length : Int) 0 cap (now + 1) l c s (now + 1) t) else (impl_keep.j2 k c cap (now + 1) l c s (now + 1) t)))) r → Ev (fun k => (impl_copySessions.f cap now l).bind fun bt268 => ((impl_look.f k cap now l c s).bind fun bt274 => (if bt274.1 = 0 then (if (t.size : Int) > 40 then (impl_keep.j0 k c s t true bt268.1 bt268.2.1 bt268.2.2) else (impl_keep.j0 k c s t (now == 1000000) bt268.1 bt268.2.1 bt268.2.2)) else (impl_keep.j0 k c s t true bt268.1 bt268.2.1 bt268.2.2)))) r := fun r hr => by
    refine Ev.bind hcs (Ev.bind hil (ev_pos h1 (ev_neg h2 ?_)))
    refine Ev.step (fun k => by rw [impl_keep.j0]) ?_
    rw [hw]
    exact ev_neg (by simpa using h3) hr
  obtain ⟨y, hy⟩ : ∃ y : S54, y = ⟨c, s, now + 1, t⟩ := ⟨_, rfl⟩
  have hok : OKs (now + 1) y := by
    rw [hy]
    refine ⟨⟨hc1, hc2⟩, ⟨hs1, hs2⟩, ⟨?_, ?_⟩, ?_⟩
    · show 1 ≤ now + 1; omega
    · show now + 1 ≤ now + 1; omega
    · show t.size ≤ 40; omega
  have hyu : y.f2 = now + 1 := by rw [hy]
  have hyc : y.f0 = c := by rw [hy]
  have hnow : now < 1000000 := by omega
  have hix : ∀ x, Go.Proofs.YtjdpifafijcpbaaDoor.Slc.idxB (pc c) l = x → impl_sessionOf.f cap (now + 1) l c = some x := fun x h => by
    unfold impl_sessionOf.f
    exact congrArg some h
  have hf := l09Find_ev cap now c l hl
  have hl12 : l.length ≤ 12 := by omega
  rcases idx_cases l c with ⟨i, hi, hx, e1, e2, _⟩ | ⟨hx, e2, hno⟩
  · refine ⟨(cap, now + 1, l.set i y, true), by simp, by simp, fun _ => ⟨sess_set hS hnow hok hyu hi (by rw [e1, hyc]), rfl⟩, fun P h0 hP x hx => (List.mem_or_eq_of_mem_set hx).elim (hP x) (fun e => by rw [e, hyc]; exact h0), ⟨fun h => absurd h1 h, fun _ _ _ => ⟨rfl, by rw [← hy]; exact List.mem_set hi y⟩, by show now + 1 ≤ now + 1; omega⟩, sj _ (Ev.bind hf (ev_neg ?_ ?_)), ij _ (Ev.bind (ev_const (hix _ hx)) (ev_pos (by omega) (ev_pos (by omega) (ev_pos (by omega) ?_))))⟩
    · show ¬ (lastOf l c).f0 = 0
      rw [e2, e1]; omega
    · refine Ev.step (fun k => by rw [spec_Keep.j1]) ?_
      rw [hw]
      have := put_found cap (now + 1) c l hS (by omega) y (by rw [hy]) (by omega) i hi e1
      rw [hy] at this ⊢
      exact ev_neg (by simp) (Ev.bind this (Ev.now _))
    · rw [toNat_cast, hy]; exact Ev.now _
  · have hf0 : (lastOf l c).f0 = 0 := by rw [e2]; rfl
    by_cases hcap : (l.length : Int) = cap
    · have h0 : 0 < l.length := by omega
      obtain ⟨q, hq, o1, o2⟩ := old_l cap now c s t l (by omega) y (now + 1) l.length 0 0 (by omega) h0
      have hlen : (l.eraseIdx q).length = l.length - 1 := List.length_eraseIdx_of_lt hq
      have hno' : ∀ j : Nat, j < (l.eraseIdx q).length → (rd_T54 (l.eraseIdx q) j).f0 ≠ c := fun j hj => by
        rw [rd_erase]
        by_cases h : j < q
        · rw [if_pos h]; exact hno j (by omega)
        · rw [if_neg h]; exact hno (j + 1) (by omega)
      obtain ⟨p, hp, q1, q2, b1, b2⟩ := both_ins cap (now + 1) c (l.eraseIdx q) (by omega) y (by rw [hy]) (by omega) hno'
      refine ⟨(cap, now + 1, (l.eraseIdx q).take p ++ y :: (l.eraseIdx q).drop p, true), by simp; omega, by simp; omega, fun _ => ⟨sess_ins (sess_erase hS q) hnow (by omega) hok hyu hp (by rw [hyc]; exact q1) (by rw [hyc]; exact q2) (by rw [hyc]; exact hno'), rfl⟩, fun P h0 hP x hx => by
        rw [List.mem_append, List.mem_cons] at hx
        rcases hx with hx | rfl | hx
        · exact hP x (List.mem_of_mem_eraseIdx (List.mem_of_mem_take hx))
        · rw [hyc]; exact h0
        · exact hP x (List.mem_of_mem_eraseIdx (List.mem_of_mem_drop hx)), ⟨fun h => absurd h1 h, fun _ _ _ => ⟨rfl, by rw [← hy]; exact List.mem_append_right _ List.mem_cons_self⟩, by show now + 1 ≤ now + 1; omega⟩, sj _ (Ev.bind hf (ev_pos hf0 ?_)), ij _ (Ev.bind (ev_const (hix _ hx)) (ev_neg (by omega) (ev_pos hcap ?_)))⟩
      · refine Ev.step (fun k => by rw [spec_Keep.j1]) ?_
        refine ev_pos (by simpa using hcap) (ev_pos (by omega) (o1 _ ?_))
        have := put_true cap now l hl (rd_T54 l q).f0 0 0 0 ⟨#[]⟩ cap now l.length 0 [] (by omega) (by simp)
        rw [List.drop_zero, List.nil_append, filter_erase hS hq] at this
        refine Ev.bind (a := (cap, now, l.eraseIdx q)) this ?_
        show Ev (fun k => (spec_l09Put.f k cap (wrap64 (now + 1)) (l.eraseIdx q) c c s (wrap64 (now + 1)) t).bind fun bt229 => (some (bt229.1, bt229.2.1, bt229.2.2, true))) _
        rw [hw]
        rw [hy] at b1 ⊢
        exact Ev.bind b1 (Ev.now _)
      · have := o2 (cap, now + 1, (l.eraseIdx q).take p ++ y :: (l.eraseIdx q).drop p, true) (by
          refine Ev.bind (a := l.eraseIdx q) (ev_const ?_) b2
          rw [wsucc (n := l.length) hq (by omega)]
          unfold impl_Session_48.f
          rw [toNat_cast, if_pos ⟨by omega, by omega, by omega⟩])
        rw [hy] at this ⊢
        exact this
    · obtain ⟨p, hp, q1, q2, b1, b2⟩ := both_ins cap (now + 1) c l (by omega) y (by rw [hy]) (by omega) hno
      refine ⟨(cap, now + 1, l.take p ++ y :: l.drop p, true), by simp; omega, fun _ => hl12, fun _ => ⟨sess_ins hS hnow (by omega) hok hyu hp (by rw [hyc]; exact q1) (by rw [hyc]; exact q2) (by rw [hyc]; exact hno), rfl⟩, fun P h0 hP x hx => by
        rw [List.mem_append, List.mem_cons] at hx
        rcases hx with hx | rfl | hx
        · exact hP x (List.mem_of_mem_take hx)
        · rw [hyc]; exact h0
        · exact hP x (List.mem_of_mem_drop hx), ⟨fun h => absurd h1 h, fun _ _ _ => ⟨rfl, by rw [← hy]; exact List.mem_append_right _ List.mem_cons_self⟩, by show now + 1 ≤ now + 1; omega⟩, sj _ (Ev.bind hf (ev_pos hf0 ?_)), ij _ (Ev.bind (ev_const (hix _ hx)) (ev_neg (by omega) (ev_neg hcap ?_)))⟩
      · refine Ev.step (fun k => by rw [spec_Keep.j1]) ?_
        rw [hw]
        rw [hy] at b1 ⊢
        exact ev_neg (by simpa using hcap) (Ev.bind b1 (Ev.now _))
      · rw [hy] at b2 ⊢
        exact b2

theorem strOne (x : Int) (b : UInt8) (h : (strOfNums [x]).data = #[b]) : strOfNums [x] ++ (⟨#[]⟩ : ByteArray) = ⟨#[b]⟩ := by
  have e : strOfNums [x] = ⟨#[b]⟩ := by
    rw [← h]
  rw [e]
  apply ByteArray.ext
  simp
theorem num_ev (n : Int) (h0 : 0 ≤ n) (h4 : n ≤ 4) : ∃ s : ByteArray, strconv_Itoa.f n = some s ∧ s.size = 1 ∧ Ev (fun k => spec_l01Num.f k n) s := by
  have one : ∀ (m : Int) (s : ByteArray), 0 < m → m < 10 → strOfNums [(wrap64 (48 + (Int.tmod m 10))) % 256] ++ (⟨#[]⟩ : ByteArray) = s → Int.tdiv m 10 = 0 → ¬ Int.tmod m 10 < 0 → (decide (m < 0)) = false → Ev (fun k => spec_l01Num.f k m) s := by
    intro m s hm hm9 he hq hr hn
    unfold spec_l01Num.f
    refine ev_neg (by omega) ?_
    refine Ev.step (fun k => by rw [spec_l01Num.l0]) ?_
    refine ev_neg (by omega) (ev_neg hr (Ev.bind (Ev.now _) (ev_pos ?_ ?_)))
    · unfold strOfNums
      simp [ByteArray.size]
    rw [he, hq, hn]
    refine Ev.step (fun k => by rw [spec_l01Num.l0]) ?_
    exact ev_pos (w64 (by decide) (by decide)) (ev_neg (by simp) (Ev.now _))
  have dg : ∀ m : Nat, m < 10 → Lib.decDigits m = [UInt8.ofNat (48 + m)] := fun m hm => by rw [Lib.decDigits, dif_pos hm]
  have it : ∀ m : Nat, m < 10 → strconv_Itoa.f (m : Int) = some ⟨#[UInt8.ofNat (48 + m)]⟩ := fun m hm => by
    unfold strconv_Itoa.f
    rw [if_pos (by omega), toNat_cast, dg m hm]
  have hc : n = 0 ∨ n = 1 ∨ n = 2 ∨ n = 3 ∨ n = 4 := by omega
  rcases hc with rfl | rfl | rfl | rfl | rfl
  · refine ⟨⟨#[48]⟩, it 0 (by decide), rfl, ?_⟩
    unfold spec_l01Num.f
    exact ev_pos rfl (Ev.now _)
  · exact ⟨⟨#[49]⟩, it 1 (by decide), rfl, one 1 _ (by decide) (by decide) (strOne _ _ (by rw [show wrap64 (48 + Int.tmod 1 10) = 49 from (w64 (by decide) (by decide)).trans (by decide)]; rfl)) (by decide) (by decide) (by decide)⟩
  · exact ⟨⟨#[50]⟩, it 2 (by decide), rfl, one 2 _ (by decide) (by decide) (strOne _ _ (by rw [show wrap64 (48 + Int.tmod 2 10) = 50 from (w64 (by decide) (by decide)).trans (by decide)]; rfl)) (by decide) (by decide) (by decide)⟩
  · exact ⟨⟨#[51]⟩, it 3 (by decide), rfl, one 3 _ (by decide) (by decide) (strOne _ _ (by rw [show wrap64 (48 + Int.tmod 3 10) = 51 from (w64 (by decide) (by decide)).trans (by decide)]; rfl)) (by decide) (by decide) (by decide)⟩
  · exact ⟨⟨#[52]⟩, it 4 (by decide), rfl, one 4 _ (by decide) (by decide) (strOne _ _ (by rw [show wrap64 (48 + Int.tmod 4 10) = 52 from (w64 (by decide) (by decide)).trans (by decide)]; rfl)) (by decide) (by decide) (by decide)⟩
theorem lookM_code (cap now : Int) (l : List S54) (c s : Int) : 0 ≤ (lookM cap now l c s).1 ∧ (lookM cap now l c s).1 ≤ 4 := by
  unfold lookM lookY
  by_cases h : SessP cap now l ∧ (1 ≤ c ∧ c ≤ 999) ∧ (1 ≤ s ∧ s ≤ 1000000)
  · rw [if_pos h]
    by_cases h1 : s = wrap64 ((lastOf l c).f1 + 1)
    · rw [if_pos h1]; exact ⟨by show (0 : Int) ≤ 0; decide, by show (0 : Int) ≤ 4; decide⟩
    rw [if_neg h1]
    by_cases h2 : s = (lastOf l c).f1
    · rw [if_pos h2]; exact ⟨by show (0 : Int) ≤ 1; decide, by show (1 : Int) ≤ 4; decide⟩
    rw [if_neg h2]
    by_cases h3 : s < (lastOf l c).f1
    · rw [if_pos h3]; exact ⟨by show (0 : Int) ≤ 2; decide, by show (2 : Int) ≤ 4; decide⟩
    · rw [if_neg h3]; exact ⟨by show (0 : Int) ≤ 3; decide, by show (3 : Int) ≤ 4; decide⟩
  · rw [if_neg h]; exact ⟨by show (0 : Int) ≤ 4; decide, by show (4 : Int) ≤ 4; decide⟩
/-- Calls played one behind the other: both come to the same. -/
theorem once_l (cs : List S50) (hcs : cs.length ≤ 1048576) (d : Nat) : ∀ (i : Nat) (told : List ByteArray) (cap now : Int) (l : List S54), cs.length = i + d → told.length ≤ i → l.length ≤ 1048576 →
    ∃ r : Int × Int × List S54 × List ByteArray, r.2.2.1.length ≤ 1048576 ∧ r.2.2.2.length = told.length + d ∧ Ev (fun k => spec_OnceEach.l0 k cs told i cap now l) r ∧ Ev (fun k => impl_OnceEach.l0 k told cs cs.length i cap now l) r ∧ (SessP cap now l → SessP cap r.2.1 r.2.2.1 ∧ r.1 = cap) ∧ (∀ P : Int → Prop, (∀ x ∈ cs, P x.f0) → (∀ x ∈ l, P x.f0) → ∀ x ∈ r.2.2.1, P x.f0) ∧ r.2.1 ≤ now + d := by
  induction d with
  | zero =>
    intro i told cap now l hd ht hl
    refine ⟨(cap, now, l, told), hl, by simp, ?_, ?_, fun h => ⟨h, rfl⟩, fun _ _ h => h, by show now ≤ now + ((0 : Nat) : Int); omega⟩
    · refine Ev.step (fun k => by rw [spec_OnceEach.l0]) ?_
      exact ev_neg (by omega) (Ev.now _)
    · refine Ev.step (fun k => by rw [impl_OnceEach.l0]) ?_
      exact ev_neg (by omega) (Ev.now _)
  | succ d ih =>
    intro i told cap now l hd ht hl
    obtain ⟨x, hx⟩ : ∃ x : S50, x = rd_T50 cs i := ⟨_, rfl⟩
    have hxm : x ∈ cs := by
      rw [hx]; unfold rd_T50; rw [toNat_cast]; exact getD_mem cs i z50 (by omega)
    obtain ⟨u, u1, u2, u3, u4, ⟨_, _, u7⟩, u5, u6⟩ := keep_ev cap now l hl x.f0 x.f1 x.f2
    have hul : u.2.2.1.length ≤ 1048576 := by
      by_cases h : u.2.2.1.length = l.length + 1
      · have := u2 h; omega
      · omega
    have hsl := specLook_ev cap now l hl x.f0 x.f1
    have hil := implLook_ev cap now l hl x.f0 x.f1
    obtain ⟨y, hy⟩ : ∃ y, y = lookM cap now l x.f0 x.f1 := ⟨_, rfl⟩
    have hyc := lookM_code cap now l x.f0 x.f1
    rw [← hy] at hsl hil hyc
    have hw := wsucc (j := i) (n := cs.length) (by omega) (by omega)
    obtain ⟨a, ha, has, hsz⟩ : ∃ a : ByteArray, (∀ t s v, Ev (fun k => spec_OnceEach.l0 k cs (told ++ [a]) (wrap64 ((i : Int) + 1)) t s v) = Ev (fun k => spec_OnceEach.l0 k cs (told ++ [a]) ((i + 1 : Nat) : Int) t s v)) ∧
        (∀ r, Ev (fun k => spec_OnceEach.l0 k cs (told ++ [a]) ((i + 1 : Nat) : Int) u.1 u.2.1 u.2.2.1) r → Ev (fun k => spec_OnceEach.l0 k cs told i cap now l) r) ∧ (∀ r, Ev (fun k => impl_OnceEach.l0 k (told ++ [a]) cs cs.length ((i + 1 : Nat) : Int) u.1 u.2.1 u.2.2.1) r → Ev (fun k => impl_OnceEach.l0 k told cs cs.length i cap now l) r) := by
      by_cases h1 : u.2.2.2 = true
      · refine ⟨x.f2, fun _ _ _ => by rw [hw], fun r hr => ?_, fun r hr => ?_⟩
        · refine Ev.step (fun k => by rw [spec_OnceEach.l0]) ?_
          rw [← hx, hw]
          exact ev_pos (by omega) (ev_pos (by omega) (Ev.bind hsl (Ev.bind u5 (ev_pos h1 (ev_pos (by omega) hr)))))
        · refine Ev.step (fun k => by rw [impl_OnceEach.l0]) ?_
          rw [← hx, hw]
          exact ev_pos (by omega) (ev_pos (by omega) (ev_pos (by omega) (Ev.bind u6 (Ev.bind hil (ev_pos h1 (ev_pos (by omega) hr))))))
      by_cases h2 : y.1 = 1
      · refine ⟨y.2, fun _ _ _ => by rw [hw], fun r hr => ?_, fun r hr => ?_⟩
        · refine Ev.step (fun k => by rw [spec_OnceEach.l0]) ?_
          rw [← hx, hw]
          exact ev_pos (by omega) (ev_pos (by omega) (Ev.bind hsl (Ev.bind u5 (ev_neg h1 (ev_pos h2 (ev_pos (by omega) hr))))))
        · refine Ev.step (fun k => by rw [impl_OnceEach.l0]) ?_
          rw [← hx, hw]
          exact ev_pos (by omega) (ev_pos (by omega) (ev_pos (by omega) (Ev.bind u6 (Ev.bind hil (ev_neg h1 (ev_pos h2 (ev_pos (by omega) hr)))))))
      obtain ⟨s, s1, s2, s3⟩ := num_ev y.1 hyc.1 hyc.2
      refine ⟨(⟨#[33]⟩ : ByteArray) ++ s, fun _ _ _ => by rw [hw], fun r hr => ?_, fun r hr => ?_⟩
      · refine Ev.step (fun k => by rw [spec_OnceEach.l0]) ?_
        rw [← hx, hw]
        exact ev_pos (by omega) (ev_pos (by omega) (Ev.bind hsl (Ev.bind u5 (ev_neg h1 (ev_neg h2 (Ev.bind s3 (ev_pos (by omega) (ev_pos (by omega) hr))))))))
      · refine Ev.step (fun k => by rw [impl_OnceEach.l0]) ?_
        rw [← hx, hw]
        exact ev_pos (by omega) (ev_pos (by omega) (ev_pos (by omega) (Ev.bind u6 (Ev.bind hil (ev_neg h1 (ev_neg h2 (Ev.bind (ev_const s1) (ev_pos (by omega) (ev_pos (by omega) hr)))))))))
    obtain ⟨r, r1, r2, r3, r4, r5, r6, r7⟩ := ih (i + 1) (told ++ [a]) u.1 u.2.1 u.2.2.1 (by omega) (by simp; omega) hul
    refine ⟨r, r1, by rw [r2]; simp; omega, has r r3, hsz r r4, fun h => ?_, fun P hP hQ => r6 P hP (u4 P (hP x hxm) hQ), by omega⟩
    obtain ⟨k1, k2⟩ := u3 h
    rw [k2] at r5
    exact r5 k1
theorem once_ev (cap now : Int) (l : List S54) (hl : l.length ≤ 1048576) (cs : List S50) (hcs : cs.length ≤ 1048576) :
    ∃ r : Int × Int × List S54 × List ByteArray, r.2.2.1.length ≤ 1048576 ∧ r.2.2.2.length ≤ 1048576 ∧ Ev (fun k => spec_OnceEach.f k cap now l cs) r ∧ Ev (fun k => impl_OnceEach.f k cap now l cs) r ∧ (SessP cap now l → SessP cap r.2.1 r.2.2.1 ∧ r.1 = cap) ∧ (∀ P : Int → Prop, (∀ x ∈ cs, P x.f0) → (∀ x ∈ l, P x.f0) → ∀ x ∈ r.2.2.1, P x.f0) ∧ r.2.1 ≤ now + cs.length := by
  obtain ⟨b, hb, hi⟩ := specSess_ev cap now l hl
  obtain ⟨b', hb', hi'⟩ := implSess_ev cap now l hl
  have e : b' = b := by rw [Bool.eq_iff_iff, hi, hi']
  subst e
  have hcp := l09Copy_ev cap now l hl
  have hcs' := copyS_ev cap now l hl
  have sb : ∀ b0 : Bool, b0 = true → Ev (fun k => spec_OnceEach.j0 k cs b0 cap now l) (cap, now, l, []) := fun b0 h => by
    refine Ev.step (fun k => by rw [spec_OnceEach.j0]) ?_
    exact ev_pos h (Ev.bind hcp (Ev.now _))
  have ib : ∀ b0 : Bool, b0 = true → Ev (fun k => impl_OnceEach.j0 k cs b0 cap now l) (cap, now, l, []) := fun b0 h => by
    refine Ev.step (fun k => by rw [impl_OnceEach.j0]) ?_
    exact ev_pos h (Ev.now _)
  unfold spec_OnceEach.f impl_OnceEach.f
  by_cases h1 : b' = true
  rotate_left
  · exact ⟨(cap, now, l, []), hl, by simp, Ev.bind hb (ev_neg h1 (sb _ rfl)), Ev.bind (ev_const hcs') (Ev.bind hb' (ev_neg h1 (ib _ rfl))), fun h => ⟨h, rfl⟩, fun _ _ h => h, by show now ≤ now + (cs.length : Int); omega⟩
  by_cases h2 : (cs.length : Int) > 200
  · exact ⟨(cap, now, l, []), hl, by simp, Ev.bind hb (ev_pos h1 (sb _ (decide_eq_true h2))), Ev.bind (ev_const hcs') (Ev.bind hb' (ev_pos h1 (ib _ (decide_eq_true h2)))), fun h => ⟨h, rfl⟩, fun _ _ h => h, by show now ≤ now + (cs.length : Int); omega⟩
  obtain ⟨r, r1, r2, r3, r4, r5, r6⟩ := once_l cs hcs cs.length 0 [] cap now l (by omega) (by simp) hl
  refine ⟨r, r1, by rw [r2]; simp; omega, Ev.bind hb (ev_pos h1 ?_), Ev.bind (ev_const hcs') (Ev.bind hb' (ev_pos h1 ?_)), r5, r6⟩
  · refine Ev.step (fun k => by rw [spec_OnceEach.j0]) ?_
    exact ev_neg (by simpa using h2) (Ev.bind hcp r3)
  · refine Ev.step (fun k => by rw [impl_OnceEach.j0]) ?_
    exact ev_neg (by simpa using h2) r4

def conv (x : S74) : S54 := ⟨x.f0, x.f1, x.f2, x.f3⟩
theorem wf_conv {l : List S74} (h : ∀ x ∈ l, wf74 x) : ∀ x ∈ l.map conv, wfS x := by
  intro x hx
  obtain ⟨y, hy, rfl⟩ := List.mem_map.1 hx
  obtain ⟨h0, h1, h2, h3⟩ := h y hy
  exact ⟨wf_i64 h0, wf_i64 h1, wf_i64 h2⟩

theorem toSessionS_l (l : List S74) (hl : l.length ≤ 1048576) (d : Nat) : ∀ (i : Nat) (ys : List S54), l.length = i + d → ys.length = l.length → ys.take i = (l.map conv).take i →
    Ev (fun k => laws_toSessionS.l0 k l ys i) (l.map conv) := by
  induction d with
  | zero =>
    intro i ys hd hy ht
    refine Ev.step (fun k => by rw [laws_toSessionS.l0]) ?_
    refine ev_neg (by omega) ?_
    have : ys = l.map conv := by
      rw [List.take_of_length_le (by omega), List.take_of_length_le (by simp; omega)] at ht
      exact ht
    rw [this]
    exact Ev.now _
  | succ d ih =>
    intro i ys hd hy ht
    refine Ev.step (fun k => by rw [laws_toSessionS.l0]) ?_
    refine ev_pos (by omega) (ev_pos (by omega) ?_)
    refine Ev.bind (ev_const rfl) ?_
    refine ev_pos (by omega) ?_
    rw [wsucc (n := l.length) (by omega) (by omega), toNat_cast]
    refine ih (i + 1) _ (by omega) (by simpa using hy) ?_
    rw [take_set_succ _ _ _ (by omega), take_succ_getD (l.map conv) i z54 (by simp; omega), ht]
    congr 2
    unfold rd_T74
    rw [toNat_cast, getD_lt l i z74 (by omega), getD_lt (l.map conv) i z54 (by simp; omega), List.getElem_map]
    rfl
theorem toSess_ev (cap now : Int) (l : List S74) (hl : l.length ≤ 1048576) : Ev (fun k => laws_toSessions.f k cap now l) (cap, now, l.map conv) := by
  unfold laws_toSessions.f
  refine Ev.bind (a := l.map conv) ?_ (Ev.now _)
  unfold laws_toSessionS.f
  refine ev_pos (by omega) (ev_pos (by rw [toNat_cast]; omega) ?_)
  rw [toNat_cast]
  exact toSessionS_l l hl l.length 0 _ (by omega) (by simp) (by simp)

def convC (x : S59) : S50 := ⟨x.f0, x.f1, x.f2⟩
theorem toCalls_l (l : List S59) (hl : l.length ≤ 1048576) (d : Nat) : ∀ (i : Nat) (ys : List S50), l.length = i + d → ys.length = l.length → ys.take i = (l.map convC).take i →
    Ev (fun k => laws_toSessionCallS.l0 k l ys i) (l.map convC) := by
  induction d with
  | zero =>
    intro i ys hd hy ht
    refine Ev.step (fun k => by rw [laws_toSessionCallS.l0]) ?_
    refine ev_neg (by omega) ?_
    have : ys = l.map convC := by
      rw [List.take_of_length_le (by omega), List.take_of_length_le (by simp; omega)] at ht
      exact ht
    rw [this]
    exact Ev.now _
  | succ d ih =>
    intro i ys hd hy ht
    refine Ev.step (fun k => by rw [laws_toSessionCallS.l0]) ?_
    refine ev_pos (by omega) (ev_pos (by omega) ?_)
    refine Ev.bind (ev_const rfl) ?_
    refine ev_pos (by omega) ?_
    rw [wsucc (n := l.length) (by omega) (by omega), toNat_cast]
    refine ih (i + 1) _ (by omega) (by simpa using hy) ?_
    rw [take_set_succ _ _ _ (by omega), take_succ_getD (l.map convC) i z50 (by simp; omega), ht]
    congr 2
    unfold rd_T59
    rw [toNat_cast, getD_lt l i z59 (by omega), getD_lt (l.map convC) i z50 (by simp; omega), List.getElem_map]
    rfl
theorem toCalls_ev (l : List S59) (hl : l.length ≤ 1048576) : Ev (fun k => laws_toSessionCallS.f k l) (l.map convC) := by
  unfold laws_toSessionCallS.f
  refine ev_pos (by omega) (ev_pos (by rw [toNat_cast]; omega) ?_)
  rw [toNat_cast]
  exact toCalls_l l hl l.length 0 _ (by omega) (by simp) (by simp)

theorem eqSessionS_l (l : List S54) (hl : l.length ≤ 1048576) (d : Nat) : ∀ (i : Nat), l.length = i + d → Ev (fun k => laws_eqSessionS.l0 k l l i) true := by
  induction d with
  | zero =>
    intro i hd
    refine Ev.step (fun k => by rw [laws_eqSessionS.l0]) ?_
    exact ev_neg (by omega) (Ev.now _)
  | succ d ih =>
    intro i hd
    refine Ev.step (fun k => by rw [laws_eqSessionS.l0]) ?_
    refine ev_pos (by omega) (ev_pos (by omega) (ev_pos (by omega) ?_))
    refine Ev.bind (a := true) (ev_const (by unfold laws_eqSession.f; rw [if_pos rfl, if_pos rfl, if_pos rfl, if_pos rfl])) ?_
    refine ev_pos rfl ?_
    rw [wsucc (n := l.length) (by omega) (by omega)]
    exact ih (i + 1) (by omega)
theorem eqSess_ev (cap now : Int) (l : List S54) (hl : l.length ≤ 1048576) : Ev (fun k => laws_eqSessions.f k cap now l cap now l) true := by
  unfold laws_eqSessions.f
  refine ev_pos rfl (ev_pos rfl (Ev.bind (a := true) ?_ (ev_pos rfl (Ev.now _))))
  unfold laws_eqSessionS.f
  refine ev_pos rfl ?_
  exact eqSessionS_l l hl l.length 0 (by omega)

theorem eqCalls_l (l : List S50) (hl : l.length ≤ 1048576) (d : Nat) : ∀ (i : Nat), l.length = i + d → Ev (fun k => laws_eqSessionCallS.l0 k l l i) true := by
  induction d with
  | zero =>
    intro i hd
    refine Ev.step (fun k => by rw [laws_eqSessionCallS.l0]) ?_
    exact ev_neg (by omega) (Ev.now _)
  | succ d ih =>
    intro i hd
    refine Ev.step (fun k => by rw [laws_eqSessionCallS.l0]) ?_
    refine ev_pos (by omega) (ev_pos (by omega) (ev_pos (by omega) ?_))
    refine Ev.bind (a := true) (ev_const (by unfold laws_eqSessionCall.f; rw [if_pos rfl, if_pos rfl, if_pos rfl])) ?_
    refine ev_pos rfl ?_
    rw [wsucc (n := l.length) (by omega) (by omega)]
    exact ih (i + 1) (by omega)
theorem eqCalls_ev (l : List S50) (hl : l.length ≤ 1048576) : Ev (fun k => laws_eqSessionCallS.f k l l) true := by
  unfold laws_eqSessionCallS.f
  exact ev_pos rfl (eqCalls_l l hl l.length 0 (by omega))
theorem eqStr_l (l : List ByteArray) (hl : l.length ≤ 1048576) (d : Nat) : ∀ (i : Nat), l.length = i + d → Ev (fun k => laws_eqStringS.l0 k l l i) true := by
  induction d with
  | zero =>
    intro i hd
    refine Ev.step (fun k => by rw [laws_eqStringS.l0]) ?_
    exact ev_neg (by omega) (Ev.now _)
  | succ d ih =>
    intro i hd
    refine Ev.step (fun k => by rw [laws_eqStringS.l0]) ?_
    refine ev_pos (by omega) (ev_pos (by omega) (ev_pos (by omega) (ev_pos rfl ?_)))
    rw [wsucc (n := l.length) (by omega) (by omega)]
    exact ih (i + 1) (by omega)
theorem eqStr_ev (l : List ByteArray) (hl : l.length ≤ 1048576) : Ev (fun k => laws_eqStringS.f k l l) true := by
  unfold laws_eqStringS.f
  exact ev_pos rfl (eqStr_l l hl l.length 0 (by omega))

theorem szS_l (l : List S74) (hl : l.length ≤ 1048576) (hw : ∀ x ∈ l, wf74 x) (d : Nat) : ∀ (i : Nat) (left : Int), l.length = i + d → 0 ≤ left → left ≤ 1048576 → ∃ r, Ev (fun k => laws_szSessionS.l0 k l left i) r ∧ r ≤ 1048576 := by
  induction d with
  | zero =>
    intro i left hd _ h1
    refine ⟨left, ?_, h1⟩
    refine Ev.step (fun k => by rw [laws_szSessionS.l0]) ?_
    exact ev_neg (by omega) (Ev.now _)
  | succ d ih =>
    intro i left hd h0 h1
    have hs : ((rd_T74 l i).f3.size : Int) ≤ 9223372036854775807 := by
      have := (hw (rd_T74 l i) (by unfold rd_T74; rw [toNat_cast]; exact getD_mem l i z74 (by omega))).2.2.2
      have h2 : (rd_T74 l i).f3.size ≤ maxLen := this
      unfold maxLen at h2
      omega
    have e : wrap64 (left - ((rd_T74 l i).f3.size : Int)) = left - ((rd_T74 l i).f3.size : Int) := w64 (by omega) (by omega)
    by_cases h : left - ((rd_T74 l i).f3.size : Int) < 0
    · have hq : laws_szSession.f (rd_T74 l i).f0 (rd_T74 l i).f1 (rd_T74 l i).f2 (rd_T74 l i).f3 left = some (-1) := by
        unfold laws_szSession.f
        rw [e, if_pos h]
      refine ⟨-1, ?_, by omega⟩
      refine Ev.step (fun k => by rw [laws_szSessionS.l0]) ?_
      exact ev_pos (by omega) (ev_pos (by omega) (Ev.bind (ev_const hq) (ev_pos (by omega) (Ev.now _))))
    · obtain ⟨r, hr, hb⟩ := ih (i + 1) (left - ((rd_T74 l i).f3.size : Int)) (by omega) (by omega) (by omega)
      have hq : laws_szSession.f (rd_T74 l i).f0 (rd_T74 l i).f1 (rd_T74 l i).f2 (rd_T74 l i).f3 left = some (left - ((rd_T74 l i).f3.size : Int)) := by
        unfold laws_szSession.f
        rw [e, if_neg h]
      refine ⟨r, ?_, hb⟩
      refine Ev.step (fun k => by rw [laws_szSessionS.l0]) ?_
      refine ev_pos (by omega) (ev_pos (by omega) (Ev.bind (ev_const hq) (ev_neg h ?_)))
      rw [wsucc (n := l.length) (by omega) (by omega)]
      exact hr
theorem szSess_ev (cap now : Int) (l : List S74) (hm : l.length ≤ maxLen) (hw : ∀ x ∈ l, wf74 x) : ∃ r, Ev (fun k => laws_szSessions.f k cap now l 1048576) r ∧ (r < 0 ∨ l.length ≤ 1048576) ∧ r ≤ 1048576 := by
  unfold maxLen at hm
  unfold laws_szSessions.f laws_szSessionS.f
  rw [w64 (by omega) (by omega)]
  by_cases h : 1048576 - (l.length : Int) < 0
  · exact ⟨-1, Ev.bind (ev_pos h (Ev.now _)) (ev_pos (by omega) (Ev.now _)), .inl (by omega), by omega⟩
  · obtain ⟨r, hr, hb⟩ := szS_l l (by omega) hw l.length 0 (1048576 - (l.length : Int)) (by omega) (by omega) (by omega)
    by_cases h2 : r < 0
    · exact ⟨-1, Ev.bind (ev_neg h hr) (ev_pos h2 (Ev.now _)), .inl (by omega), by omega⟩
    · exact ⟨r, Ev.bind (ev_neg h hr) (ev_neg h2 (Ev.now _)), .inr (by omega), hb⟩

theorem szC_l (l : List S59) (hl : l.length ≤ 1048576) (hw : ∀ x ∈ l, wf59 x) (d : Nat) : ∀ (i : Nat) (left : Int), l.length = i + d → 0 ≤ left → left ≤ 1048576 → ∃ r, Ev (fun k => laws_szSessionCallS.l0 k l left i) r ∧ r ≤ 1048576 := by
  induction d with
  | zero =>
    intro i left hd _ h1
    refine ⟨left, ?_, h1⟩
    refine Ev.step (fun k => by rw [laws_szSessionCallS.l0]) ?_
    exact ev_neg (by omega) (Ev.now _)
  | succ d ih =>
    intro i left hd h0 h1
    have hs : ((rd_T59 l i).f2.size : Int) ≤ 9223372036854775807 := by
      have := (hw (rd_T59 l i) (by unfold rd_T59; rw [toNat_cast]; exact getD_mem l i z59 (by omega))).2.2
      have h2 : (rd_T59 l i).f2.size ≤ maxLen := this
      unfold maxLen at h2
      omega
    have e : wrap64 (left - ((rd_T59 l i).f2.size : Int)) = left - ((rd_T59 l i).f2.size : Int) := w64 (by omega) (by omega)
    by_cases h : left - ((rd_T59 l i).f2.size : Int) < 0
    · have hq : laws_szSessionCall.f (rd_T59 l i).f0 (rd_T59 l i).f1 (rd_T59 l i).f2 left = some (-1) := by
        unfold laws_szSessionCall.f
        rw [e, if_pos h]
      refine ⟨-1, ?_, by omega⟩
      refine Ev.step (fun k => by rw [laws_szSessionCallS.l0]) ?_
      exact ev_pos (by omega) (ev_pos (by omega) (Ev.bind (ev_const hq) (ev_pos (by omega) (Ev.now _))))
    · obtain ⟨r, hr, hb⟩ := ih (i + 1) (left - ((rd_T59 l i).f2.size : Int)) (by omega) (by omega) (by omega)
      have hq : laws_szSessionCall.f (rd_T59 l i).f0 (rd_T59 l i).f1 (rd_T59 l i).f2 left = some (left - ((rd_T59 l i).f2.size : Int)) := by
        unfold laws_szSessionCall.f
        rw [e, if_neg h]
      refine ⟨r, ?_, hb⟩
      refine Ev.step (fun k => by rw [laws_szSessionCallS.l0]) ?_
      refine ev_pos (by omega) (ev_pos (by omega) (Ev.bind (ev_const hq) (ev_neg h ?_)))
      rw [wsucc (n := l.length) (by omega) (by omega)]
      exact hr
theorem szCalls_ev (l : List S59) (hm : l.length ≤ maxLen) (hw : ∀ x ∈ l, wf59 x) (a : Int) (h0 : 0 ≤ a) (h1 : a ≤ 1048576) : ∃ r, Ev (fun k => laws_szSessionCallS.f k l a) r ∧ (r < 0 ∨ l.length ≤ 1048576) := by
  unfold maxLen at hm
  unfold laws_szSessionCallS.f
  rw [w64 (by omega) (by omega)]
  by_cases h : a - (l.length : Int) < 0
  · exact ⟨-1, ev_pos h (Ev.now _), .inl (by omega)⟩
  · obtain ⟨r, hr, hb⟩ := szC_l l (by omega) hw l.length 0 (a - (l.length : Int)) (by omega) (by omega) (by omega)
    exact ⟨r, ev_neg h hr, .inr (by omega)⟩

theorem strOf_size (l : List Int) : (strOfNums l).size = l.length := by
  unfold strOfNums
  simp [ByteArray.size]
theorem markText_l (n : Nat) : ∀ (x : Int) (s : ByteArray), 0 ≤ x → x ≤ 9223372036854775807 → x < 10 ^ n → s.size + n ≤ 1000 → ∃ r, Ev (fun k => laws_markText.l0 k x s) r := by
  induction n with
  | zero =>
    intro x s h0 hb h1 h2
    have hx : x = 0 := by simp at h1; omega
    refine ⟨(⟨#[109]⟩ : ByteArray) ++ s, ?_⟩
    refine Ev.step (fun k => by rw [laws_markText.l0]) ?_
    exact ev_neg (by omega) (ev_pos (by omega) (Ev.now _))
  | succ n ih =>
    intro x s h0 hb h1 h2
    by_cases hx : x > 0
    · have hd : Int.tdiv x 10 = x / 10 := Int.tdiv_eq_ediv_of_nonneg h0
      have h1' : x < 10 ^ n * 10 := by rw [← Int.pow_succ]; exact h1
      have hq : x / 10 < 10 ^ n := Int.ediv_lt_of_lt_mul (by decide) h1'
      have hw : wrap64 (x / 10) = x / 10 := w64 (by omega) (by omega)
      obtain ⟨r, hr⟩ := ih (x / 10) ((strOfNums [(wrap64 (48 + (Int.tmod x 10))) % 256]) ++ s) (by omega) (by omega) hq (by rw [ByteArray.size_append, strOf_size]; simp; omega)
      refine ⟨r, ?_⟩
      refine Ev.step (fun k => by rw [laws_markText.l0]) ?_
      rw [hd, hw]
      exact ev_pos hx (Ev.bind (Ev.now _) (ev_pos (by rw [strOf_size]; simp; omega) hr))
    · refine ⟨(⟨#[109]⟩ : ByteArray) ++ s, ?_⟩
      refine Ev.step (fun k => by rw [laws_markText.l0]) ?_
      exact ev_neg hx (ev_pos (by omega) (Ev.now _))
theorem markText_ev (a : Int) (h1 : a ≤ 1000000000) : ∃ r, Ev (fun k => laws_markText.f k a) r := by
  unfold laws_markText.f
  by_cases h : a ≤ 0
  · exact ⟨_, ev_pos h (Ev.now _)⟩
  · obtain ⟨r, hr⟩ := markText_l 10 a ⟨#[]⟩ (by omega) (by omega) (by omega) (by show 0 + 10 ≤ 1000; omega)
    exact ⟨r, ev_neg h hr⟩

theorem rd_set_eq (l : List S54) (i : Nat) (x : S54) (h : i < l.length) : rd_T54 (l.set i x) (i : Int) = x := by
  unfold rd_T54
  rw [toNat_cast, getD_lt _ _ _ (by simpa using h), List.getElem_set_self]
theorem rd_set_ne (l : List S54) (i j : Nat) (x : S54) (h : i ≠ j) : rd_T54 (l.set i x) (j : Int) = rd_T54 l j := by
  unfold rd_T54
  rw [toNat_cast, List.getD_eq_getElem?_getD, List.getD_eq_getElem?_getD, List.getElem?_set_ne h]
theorem markS_l (d : Nat) : ∀ (i : Nat) (xs : List S54) (c : Int), xs.length = i + d → xs.length ≤ 1048576 → 0 ≤ c → c ≤ 1 + 4 * (i : Int) →
    ∃ m ys, Ev (fun k => laws_markSessionS.l0 k xs c i) (m, ys) ∧ ys.length = xs.length ∧ (0 ≤ m ∧ m ≤ 1 + 4 * ((i + d : Nat) : Int)) ∧ (∀ j, j < i → ys[j]? = xs[j]?) ∧ Ev (fun k => laws_heldSessionS.l0 k ys c i) m := by
  induction d with
  | zero =>
    intro i xs c hd hl h0 h1
    refine ⟨c, xs, ?_, rfl, ⟨h0, by omega⟩, fun _ _ => rfl, ?_⟩
    · refine Ev.step (fun k => by rw [laws_markSessionS.l0]) ?_
      exact ev_neg (by omega) (Ev.now _)
    · refine Ev.step (fun k => by rw [laws_heldSessionS.l0]) ?_
      exact ev_neg (by omega) (Ev.now _)
  | succ d ih =>
    intro i xs c hd hl h0 h1
    have e1 : wrap64 (c + 1) = c + 1 := w64 (by omega) (by omega)
    have e2 : wrap64 (c + 1 + 1) = c + 1 + 1 := w64 (by omega) (by omega)
    have e3 : wrap64 (c + 1 + 1 + 1) = c + 1 + 1 + 1 := w64 (by omega) (by omega)
    have e4 : wrap64 (c + 1 + 1 + 1 + 1) = c + 1 + 1 + 1 + 1 := w64 (by omega) (by omega)
    obtain ⟨t, ht⟩ := markText_ev (c + 1 + 1 + 1) (by omega)
    obtain ⟨m, ys, hm, hy, hm0, hk, hh⟩ := ih (i + 1) (xs.set i ⟨c, c + 1, c + 1 + 1, t⟩) (c + 1 + 1 + 1 + 1) (by simp; omega) (by simpa using hl) (by omega) (by omega)
    have hi : i < xs.length := by omega
    refine ⟨m, ys, ?_, by simpa using hy, ⟨hm0.1, by omega⟩, fun j hj => ?_, ?_⟩
    · refine Ev.step (fun k => by rw [laws_markSessionS.l0]) ?_
      refine ev_pos (by omega) (ev_pos (by omega) (Ev.bind (Ev.now _) (Ev.bind (Ev.now _) (Ev.bind (Ev.now _) ?_))))
      rw [e1, e2, e3, e4, toNat_cast]
      refine Ev.bind ht ?_
      rw [wsucc (n := xs.length) (by omega) (by omega)]
      simp only [List.set_set, rd_set_eq, List.length_set, hi]
      exact hm
    · rw [hk j (by omega), List.getElem?_set_ne (by omega)]
    · have hi2 : rd_T54 ys (i : Int) = ⟨c, c + 1, c + 1 + 1, t⟩ := by
        unfold rd_T54
        rw [toNat_cast, List.getD_eq_getElem?_getD, hk i (by omega), List.getElem?_set_self (by omega)]
        rfl
      have hyl : ys.length = xs.length := by simpa using hy
      refine Ev.step (fun k => by rw [laws_heldSessionS.l0]) ?_
      rw [hi2, e1, e2, e3, e4]
      refine ev_pos (by omega) (ev_pos (by omega) (ev_pos rfl (ev_pos rfl (ev_pos rfl (Ev.bind ht (ev_pos rfl ?_))))))
      rw [wsucc (n := ys.length) (by omega) (by omega)]
      exact hh
theorem mark_ev (cap now : Int) (xs : List S54) (hl : xs.length ≤ 1048576) : ∃ m ys, Ev (fun k => laws_markSessions.f k cap now xs 1) (m, ys) ∧ (0 ≤ m ∧ m ≤ 1 + 4 * (xs.length : Int)) ∧ ∀ cap' now', Ev (fun k => laws_heldSessions.f k cap' now' ys 1) m := by
  obtain ⟨m, ys, h1, _, h2, _, h3⟩ := markS_l xs.length 0 xs 1 (by omega) hl (by omega) (by omega)
  refine ⟨m, ys, ?_, ⟨h2.1, by omega⟩, fun cap' now' => ?_⟩
  · unfold laws_markSessions.f laws_markSessionS.f
    exact Ev.bind h1 (Ev.now _)
  · unfold laws_heldSessions.f laws_heldSessionS.f
    exact Ev.bind h3 (ev_neg (by omega) (Ev.now _))

theorem rdC_set_eq (l : List S50) (i : Nat) (x : S50) (h : i < l.length) : rd_T50 (l.set i x) (i : Int) = x := by
  unfold rd_T50
  rw [toNat_cast, getD_lt _ _ _ (by simpa using h), List.getElem_set_self]
theorem markC_l (C : Int) (hC0 : 0 ≤ C) (hC : C ≤ 100000000) (d : Nat) : ∀ (i : Nat) (xs : List S50) (c : Int), xs.length = i + d → xs.length ≤ 1048576 → 0 ≤ c → c ≤ C + 3 * (i : Int) →
    ∃ m ys, Ev (fun k => laws_markSessionCallS.l0 k xs c i) (m, ys) ∧ 0 ≤ m := by
  induction d with
  | zero =>
    intro i xs c hd hl h0 h1
    refine ⟨c, xs, ?_, h0⟩
    refine Ev.step (fun k => by rw [laws_markSessionCallS.l0]) ?_
    exact ev_neg (by omega) (Ev.now _)
  | succ d ih =>
    intro i xs c hd hl h0 h1
    have e1 : wrap64 (c + 1) = c + 1 := w64 (by omega) (by omega)
    have e2 : wrap64 (c + 1 + 1) = c + 1 + 1 := w64 (by omega) (by omega)
    have e3 : wrap64 (c + 1 + 1 + 1) = c + 1 + 1 + 1 := w64 (by omega) (by omega)
    obtain ⟨t, ht⟩ := markText_ev (c + 1 + 1) (by omega)
    obtain ⟨m, ys, hm, hm0⟩ := ih (i + 1) (xs.set i ⟨c, c + 1, t⟩) (c + 1 + 1 + 1) (by simp; omega) (by simpa using hl) (by omega) (by omega)
    have hi : i < xs.length := by omega
    refine ⟨m, ys, ?_, hm0⟩
    refine Ev.step (fun k => by rw [laws_markSessionCallS.l0]) ?_
    refine ev_pos (by omega) (ev_pos (by omega) (Ev.bind (Ev.now _) (Ev.bind (Ev.now _) ?_)))
    rw [e1, e2, e3, toNat_cast]
    refine Ev.bind ht ?_
    rw [wsucc (n := xs.length) (by omega) (by omega)]
    simp only [List.set_set, rdC_set_eq, List.length_set, hi]
    exact hm
theorem markCalls_ev (xs : List S50) (hl : xs.length ≤ 1048576) (c : Int) (h0 : 0 ≤ c) (h1 : c ≤ 100000000) : ∃ m ys, Ev (fun k => laws_markSessionCallS.f k xs c) (m, ys) ∧ 0 ≤ m := markC_l c h0 h1 xs.length 0 xs c (by omega) hl h0 (by omega)
theorem markT_l (C : Int) (hC0 : 0 ≤ C) (hC : C ≤ 100000000) (d : Nat) : ∀ (i : Nat) (xs : List ByteArray) (c : Int), xs.length = i + d → xs.length ≤ 1048576 → 0 ≤ c → c ≤ C + (i : Int) →
    ∃ m ys, Ev (fun k => laws_markStringS.l0 k xs c i) (m, ys) ∧ ys.length = xs.length ∧ 0 ≤ m ∧ (∀ j, j < i → ys[j]? = xs[j]?) ∧ Ev (fun k => laws_heldStringS.l0 k ys c i) m := by
  induction d with
  | zero =>
    intro i xs c hd hl h0 h1
    refine ⟨c, xs, ?_, rfl, h0, fun _ _ => rfl, ?_⟩
    · refine Ev.step (fun k => by rw [laws_markStringS.l0]) ?_
      exact ev_neg (by omega) (Ev.now _)
    · refine Ev.step (fun k => by rw [laws_heldStringS.l0]) ?_
      exact ev_neg (by omega) (Ev.now _)
  | succ d ih =>
    intro i xs c hd hl h0 h1
    have e1 : wrap64 (c + 1) = c + 1 := w64 (by omega) (by omega)
    obtain ⟨t, ht⟩ := markText_ev c (by omega)
    obtain ⟨m, ys, hm, hy, hm0, hk, hh⟩ := ih (i + 1) (xs.set i t) (c + 1) (by simp; omega) (by simpa using hl) (by omega) (by omega)
    have hi : i < xs.length := by omega
    refine ⟨m, ys, ?_, by simpa using hy, hm0, fun j hj => ?_, ?_⟩
    · refine Ev.step (fun k => by rw [laws_markStringS.l0]) ?_
      refine ev_pos (by omega) (Ev.bind ht (ev_pos (by omega) ?_))
      rw [e1, toNat_cast, wsucc (n := xs.length) (by omega) (by omega)]
      exact hm
    · rw [hk j (by omega), List.getElem?_set_ne (by omega)]
    · have hyl : ys.length = xs.length := by simpa using hy
      have hi2 : rdOf ByteArray.empty ys (i : Int) = t := by
        unfold rdOf
        rw [toNat_cast, List.getD_eq_getElem?_getD, hk i (by omega), List.getElem?_set_self (by omega)]
        rfl
      refine Ev.step (fun k => by rw [laws_heldStringS.l0]) ?_
      rw [hi2, e1]
      refine ev_pos (by omega) (ev_pos (by omega) (Ev.bind ht (ev_pos rfl ?_)))
      rw [wsucc (n := ys.length) (by omega) (by omega)]
      exact hh
theorem markStr_ev (xs : List ByteArray) (hl : xs.length ≤ 1048576) (c : Int) (h0 : 0 ≤ c) (h1 : c ≤ 100000000) : ∃ m ys, Ev (fun k => laws_markStringS.f k xs c) (m, ys) ∧ 0 ≤ m ∧ Ev (fun k => laws_heldStringS.f k ys c) m := by
  obtain ⟨m, ys, h2, _, h3, _, h4⟩ := markT_l c h0 h1 xs.length 0 xs c (by omega) hl h0 (by omega)
  exact ⟨m, ys, h2, h3, h4⟩

theorem FnExactOnceEach : Stated := by
  intro ⟨cap, now, l⟩ l1 ⟨_, _, hm, hw⟩ ⟨hm1, hw1⟩
  refine Ev.rounds (?_ : Ev (fun k => laws_FnExactOnceEach.f k cap now l l1) true)
  unfold laws_FnExactOnceEach.f
  obtain ⟨r, hs, hn, hrb⟩ := szSess_ev cap now l hm hw
  by_cases h0 : r < 0
  · exact Ev.bind hs (ev_pos h0 (Ev.now _))
  have hl : l.length ≤ 1048576 := by omega
  obtain ⟨r2, hs2, hn2⟩ := szCalls_ev l1 hm1 hw1 r (by omega) hrb
  by_cases h02 : r2 < 0
  · exact Ev.bind hs (ev_neg h0 (Ev.bind hs2 (ev_pos h02 (Ev.now _))))
  have hl1 : l1.length ≤ 1048576 := by omega
  have ht := toSess_ev cap now l hl
  have htc := toCalls_ev l1 hl1
  have hl' : (l.map conv).length ≤ 1048576 := by simpa using hl
  have hl1' : (l1.map convC).length ≤ 1048576 := by simpa using hl1
  obtain ⟨x, x1, x2, x3, x4, _, _⟩ := once_ev cap now _ hl' _ hl1'
  have heq := eqSess_ev x.1 x.2.1 x.2.2.1 x1
  have hes := eqStr_ev x.2.2.2 x2
  obtain ⟨m, ys, hq1, hq2, _⟩ := mark_ev cap now _ hl'
  obtain ⟨mc, yc, hc1, hc2⟩ := markCalls_ev _ hl1' m hq2.1 (by omega)
  obtain ⟨m', ys', hg1, hg2, hg3⟩ := mark_ev x.1 x.2.1 x.2.2.1 x1
  obtain ⟨m2, ys2, hk1, hk2, hk3⟩ := markStr_ev x.2.2.2 x2 m' hg2.1 (by omega)
  have tail : Ev (fun k => (laws_heldSessions.f k x.1 x.2.1 ys' 1).bind fun t485 => (if t485 < 0 then (some false) else ((laws_heldStringS.f k ys2 t485).bind fun t486 => (if t486 < 0 then (some false) else (if t486 = m2 then (some true) else (some false)))))) true :=
    Ev.bind (hg3 x.1 x.2.1) (ev_neg (by omega) (Ev.bind hk3 (ev_neg (by omega) (ev_pos rfl (Ev.now _)))))
  refine Ev.bind hs (ev_neg h0 (Ev.bind hs2 (ev_neg h02 (Ev.bind ht (Ev.bind htc (Ev.bind x3 (Ev.bind ht (Ev.bind htc (Ev.bind x4 (Ev.bind heq (ev_pos rfl (Ev.bind hes (ev_pos rfl ?_)))))))))))))
  refine Ev.bind ht (Ev.bind (eqSess_ev cap now _ hl') (ev_pos rfl (Ev.bind htc (Ev.bind (eqCalls_ev _ hl1') (ev_pos rfl ?_)))))
  refine Ev.bind hq1 (Ev.bind hc1 (ev_neg (by show ¬ mc < 0; omega) (Ev.bind heq (ev_pos rfl (Ev.bind hes (ev_pos rfl ?_))))))
  refine Ev.bind hg1 (Ev.bind hk1 (Ev.bind (hg3 x.1 x.2.1) (ev_neg (by omega) (Ev.bind hk3 (ev_neg (by omega) (ev_pos rfl ?_))))))
  exact Ev.bind ht (Ev.bind htc (Ev.bind x4 (Ev.bind heq (ev_pos rfl (Ev.bind hes (ev_pos rfl tail))))))

end Go.Proofs.YtjdpifafijcpbaaDoor.Pure
