/- The law FnExactLook answers true at every input. No condition. -/
import Derived.Test.YtjdpifafijcpbaaOpnFnExactLook
import Derived.Test.YtjdpifafijcpbaaBase
namespace Go.Proofs.Ytjdpifafijcpbaa.Pure
open Go.RowKit Go.Proofs.Ytjdpifafijcpbaa.QFnExactLook Go.Proofs.Ytjdpifafijcpbaa.OpnFnExactLook Go.Proofs.Ytjdpifafijcpbaa.Base Go.Proofs.YtjdpifafijcpbaaW.PrintWords Go.Proofs.YtjdpifafijcpbaaW.PrintLast
set_option linter.unusedVariables false

def conv (x : S54) : S45 := ⟨x.f0, x.f1, x.f2, x.f3⟩
def wfS (x : S45) : Prop := (-9223372036854775808 ≤ x.f0 ∧ x.f0 ≤ 9223372036854775807) ∧ (-9223372036854775808 ≤ x.f1 ∧ x.f1 ≤ 9223372036854775807) ∧ (-9223372036854775808 ≤ x.f2 ∧ x.f2 ≤ 9223372036854775807)
theorem wf_conv {l : List S54} (h : ∀ x ∈ l, wf54 x) : ∀ x ∈ l.map conv, wfS x := by
  intro x hx
  obtain ⟨y, hy, rfl⟩ := List.mem_map.1 hx
  obtain ⟨h0, h1, h2, h3⟩ := h y hy
  exact ⟨wf_i64 h0, wf_i64 h1, wf_i64 h2⟩
theorem wf_at {l : List S45} (h : ∀ x ∈ l, wfS x) (j : Nat) (hj : j < l.length) : wfS (rd_T45 l j) := by
  unfold rd_T45
  rw [toNat_cast]
  exact h _ (getD_mem l j z45 hj)
theorem in_eq (x a b : Int) : spec_l01In.f x a b = some (decide (a ≤ x ∧ x ≤ b)) := by
  unfold spec_l01In.f
  by_cases h : a ≤ x <;> simp [h]
/-- What is asked of session j. -/
def SP (now : Int) (l : List S45) (j : Nat) : Prop :=
  (1 ≤ (rd_T45 l j).f0 ∧ (rd_T45 l j).f0 ≤ 999) ∧ (1 ≤ (rd_T45 l j).f1 ∧ (rd_T45 l j).f1 ≤ 1000000) ∧ (1 ≤ (rd_T45 l j).f2 ∧ (rd_T45 l j).f2 ≤ now) ∧ (rd_T45 l j).f3.size ≤ 40 ∧ (0 < j → (rd_T45 l (j - 1 : Nat)).f0 < (rd_T45 l j).f0) ∧ (∀ i : Nat, i < j → (rd_T45 l i).f2 ≠ (rd_T45 l j).f2)
/-- Sessions as they should be. -/
def SessP (cap now : Int) (l : List S45) : Prop := (1 ≤ cap ∧ cap ≤ 12) ∧ (0 ≤ now ∧ now ≤ 1000000) ∧ (l.length : Int) ≤ cap ∧ ∀ j, j < l.length → SP now l j

theorem toSessionS_l (l : List S54) (hl : l.length ≤ 1048576) (d : Nat) : ∀ (i : Nat) (ys : List S45), l.length = i + d → ys.length = l.length → ys.take i = (l.map conv).take i →
    Ev (fun k => laws_toSessionS.l0 k l ys i) (l.map conv) := by
  induction d with
  | zero =>
    intro i ys hd hy ht
    refine Ev.step (fun k => by rw [laws_toSessionS.l0]) ?_
    refine ev_neg (by omega) ?_
    have : ys = l.map conv := by
      rw [List.take_of_length_le (by omega), List.take_of_length_le (by simp; omega)] at ht
      exact ht
    rw [this]
    exact Ev.now _
  | succ d ih =>
    intro i ys hd hy ht
    refine Ev.step (fun k => by rw [laws_toSessionS.l0]) ?_
    refine ev_pos (by omega) (ev_pos (by omega) ?_)
    refine Ev.bind (ev_const rfl) ?_
    refine ev_pos (by omega) ?_
    rw [wsucc (n := l.length) (by omega) (by omega), toNat_cast]
    refine ih (i + 1) _ (by omega) (by simpa using hy) ?_
    rw [take_set_succ _ _ _ (by omega), take_succ_getD (l.map conv) i z45 (by simp; omega), ht]
    congr 2
    unfold rd_T54
    rw [toNat_cast, getD_lt l i z54 (by omega), getD_lt (l.map conv) i z45 (by simp; omega), List.getElem_map]
    rfl
theorem toSess_ev (cap now : Int) (l : List S54) (hl : l.length ≤ 1048576) : Ev (fun k => laws_toSessions.f k cap now l) (cap, now, l.map conv) := by
  unfold laws_toSessions.f
  refine Ev.bind (a := l.map conv) ?_ (Ev.now _)
  unfold laws_toSessionS.f
  refine ev_pos (by omega) (ev_pos (by rw [toNat_cast]; omega) ?_)
  rw [toNat_cast]
  exact toSessionS_l l hl l.length 0 _ (by omega) (by simp) (by simp)

theorem eqSessionS_l (l : List S45) (hl : l.length ≤ 1048576) (d : Nat) : ∀ (i : Nat), l.length = i + d → Ev (fun k => laws_eqSessionS.l0 k l l i) true := by
  induction d with
  | zero =>
    intro i hd
    refine Ev.step (fun k => by rw [laws_eqSessionS.l0]) ?_
    exact ev_neg (by omega) (Ev.now _)
  | succ d ih =>
    intro i hd
    refine Ev.step (fun k => by rw [laws_eqSessionS.l0]) ?_
    refine ev_pos (by omega) (ev_pos (by omega) (ev_pos (by omega) ?_))
    refine Ev.bind (a := true) (ev_const (by unfold laws_eqSession.f; rw [if_pos rfl, if_pos rfl, if_pos rfl, if_pos rfl])) ?_
    refine ev_pos rfl ?_
    rw [wsucc (n := l.length) (by omega) (by omega)]
    exact ih (i + 1) (by omega)
theorem eqSess_ev (cap now : Int) (l : List S45) (hl : l.length ≤ 1048576) : Ev (fun k => laws_eqSessions.f k cap now l cap now l) true := by
  unfold laws_eqSessions.f
  refine ev_pos rfl (ev_pos rfl (Ev.bind (a := true) ?_ (ev_pos rfl (Ev.now _))))
  unfold laws_eqSessionS.f
  refine ev_pos rfl ?_
  exact eqSessionS_l l hl l.length 0 (by omega)

theorem szS_l (l : List S54) (hl : l.length ≤ 1048576) (hw : ∀ x ∈ l, wf54 x) (d : Nat) : ∀ (i : Nat) (left : Int), l.length = i + d → 0 ≤ left → left ≤ 1048576 → ∃ r, Ev (fun k => laws_szSessionS.l0 k l left i) r := by
  induction d with
  | zero =>
    intro i left hd _ _
    refine ⟨left, ?_⟩
    refine Ev.step (fun k => by rw [laws_szSessionS.l0]) ?_
    exact ev_neg (by omega) (Ev.now _)
  | succ d ih =>
    intro i left hd h0 h1
    have hs : ((rd_T54 l i).f3.size : Int) ≤ 9223372036854775807 := by
      have := (hw (rd_T54 l i) (by unfold rd_T54; rw [toNat_cast]; exact getD_mem l i z54 (by omega))).2.2.2
      have h2 : (rd_T54 l i).f3.size ≤ maxLen := this
      unfold maxLen at h2
      omega
    have e : wrap64 (left - ((rd_T54 l i).f3.size : Int)) = left - ((rd_T54 l i).f3.size : Int) := w64 (by omega) (by omega)
    by_cases h : left - ((rd_T54 l i).f3.size : Int) < 0
    · have hq : laws_szSession.f (rd_T54 l i).f0 (rd_T54 l i).f1 (rd_T54 l i).f2 (rd_T54 l i).f3 left = some (-1) := by
        unfold laws_szSession.f
        rw [e, if_pos h]
      refine ⟨-1, ?_⟩
      refine Ev.step (fun k => by rw [laws_szSessionS.l0]) ?_
      exact ev_pos (by omega) (ev_pos (by omega) (Ev.bind (ev_const hq) (ev_pos (by omega) (Ev.now _))))
    · obtain ⟨r, hr⟩ := ih (i + 1) (left - ((rd_T54 l i).f3.size : Int)) (by omega) (by omega) (by omega)
      have hq : laws_szSession.f (rd_T54 l i).f0 (rd_T54 l i).f1 (rd_T54 l i).f2 (rd_T54 l i).f3 left = some (left - ((rd_T54 l i).f3.size : Int)) := by
        unfold laws_szSession.f
        rw [e, if_neg h]
      refine ⟨r, ?_⟩
      refine Ev.step (fun k => by rw [laws_szSessionS.l0]) ?_
      refine ev_pos (by omega) (ev_pos (by omega) (Ev.bind (ev_const hq) (ev_neg h ?_)))
      rw [wsucc (n := l.length) (by omega) (by omega)]
      exact hr
theorem szSess_ev (cap now : Int) (l : List S54) (hm : l.length ≤ maxLen) (hw : ∀ x ∈ l, wf54 x) : ∃ r, Ev (fun k => laws_szSessions.f k cap now l 1048576) r ∧ (r < 0 ∨ l.length ≤ 1048576) := by
  unfold maxLen at hm
  unfold laws_szSessions.f laws_szSessionS.f
  rw [w64 (by omega) (by omega)]
  by_cases h : 1048576 - (l.length : Int) < 0
  · exact ⟨-1, Ev.bind (ev_pos h (Ev.now _)) (ev_pos (by omega) (Ev.now _)), .inl (by omega)⟩
  · obtain ⟨r, hr⟩ := szS_l l (by omega) hw l.length 0 (1048576 - (l.length : Int)) (by omega) (by omega) (by omega)
    by_cases h2 : r < 0
    · exact ⟨-1, Ev.bind (ev_neg h hr) (ev_pos h2 (Ev.now _)), .inl (by omega)⟩
    · exact ⟨r, Ev.bind (ev_neg h hr) (ev_neg h2 (Ev.now _)), .inr (by omega)⟩

abbrev pc (c : Int) (y : S45) : Bool := y.f0 == c
/-- The session of a client, a blank one if it has none. -/
def lastOf (l : List S45) (c : Int) : S45 := (l.find? (pc c)).getD z45
def tup (y : S45) : Int × Int × Int × ByteArray := (y.f0, y.f1, y.f2, y.f3)
theorem l09Find_l (cap now c : Int) (l : List S45) (hl : l.length ≤ 1048576) (d : Nat) : ∀ i : Nat, l.length = i + d → Ev (fun k => spec_l09Find.l0 k c i cap now l) (tup (((l.drop i).find? (pc c)).getD z45)) := by
  induction d with
  | zero =>
    intro i hd
    refine Ev.step (fun k => by rw [spec_l09Find.l0]) ?_
    refine ev_neg (by omega) ?_
    rw [List.drop_of_length_le (by omega)]
    exact Ev.now _
  | succ d ih =>
    intro i hd
    have hi : i < l.length := by omega
    refine Ev.step (fun k => by rw [spec_l09Find.l0]) ?_
    rw [List.drop_eq_getElem_cons hi, List.find?_cons]
    have e : rd_T45 l i = l[i] := by
      unfold rd_T45
      rw [toNat_cast, getD_lt _ _ _ hi]
    rw [e, wsucc (n := l.length) (by omega) (by omega)]
    by_cases h : l[i].f0 = c
    · rw [show pc c l[i] = true by simp [pc, h]]
      exact ev_pos (by omega) (ev_pos (by omega) (ev_pos h (Ev.now _)))
    · rw [show pc c l[i] = false by simp [pc, h]]
      exact ev_pos (by omega) (ev_pos (by omega) (ev_neg h (ih (i + 1) (by omega))))
theorem l09Find_ev (cap now c : Int) (l : List S45) (hl : l.length ≤ 1048576) : Ev (fun k => spec_l09Find.f k cap now l c) (tup (lastOf l c)) := l09Find_l cap now c l hl l.length 0 (by omega)
theorem idx_cases (l : List S45) (c : Int) : (∃ i : Nat, i < l.length ∧ Go.Proofs.Ytjdpifafijcpbaa.Slc.idxB (pc c) l = (i : Int) ∧ (rd_T45 l i).f0 = c ∧ lastOf l c = rd_T45 l i ∧ ∀ j : Nat, j < i → (rd_T45 l j).f0 ≠ c) ∨ (Go.Proofs.Ytjdpifafijcpbaa.Slc.idxB (pc c) l = -1 ∧ lastOf l c = z45 ∧ ∀ j : Nat, j < l.length → (rd_T45 l j).f0 ≠ c) := by
  have rdE : ∀ j : Nat, (h : j < l.length) → rd_T45 l j = l[j] := fun j h => by
    unfold rd_T45
    rw [toNat_cast, getD_lt _ _ _ h]
  unfold Go.Proofs.Ytjdpifafijcpbaa.Slc.idxB lastOf
  cases h : l.findIdx? (pc c) with
  | none =>
    right
    rw [List.findIdx?_eq_none_iff] at h
    refine ⟨rfl, ?_, fun j hj => ?_⟩
    · rw [List.find?_eq_none.2 (fun x hx => by rw [h x hx]; decide)]
      rfl
    · rw [rdE j hj]
      have := h _ (List.getElem_mem hj)
      simpa [pc] using this
  | some i =>
    left
    obtain ⟨hi, h1, h2⟩ := List.findIdx?_eq_some_iff_getElem.1 h
    have hp : l[i].f0 = c := by simpa [pc] using h1
    refine ⟨i, hi, rfl, by rw [rdE i hi]; exact hp, ?_, fun j hj => ?_⟩
    · rw [List.find?_eq_some_iff_getElem.2 ⟨h1, i, hi, rfl, fun j hj => by simpa using h2 j hj⟩, rdE i hi]
      rfl
    · rw [rdE j (by omega)]
      have := h2 j hj
      simpa [pc] using this

theorem specS_1 (cap now : Int) (l : List S45) (hl : l.length ≤ 1048576) (j : Nat) (hj : j < l.length) (a b u : Int) (t : ByteArray) (d : Nat) : ∀ i : Nat, i + d = j →
    ((∀ q : Nat, i ≤ q → q < j → (rd_T45 l q).f2 ≠ u) → ∀ r, Ev (fun k => spec_SessionsOk.l0 k ((j + 1 : Nat) : Int) cap now l) r → Ev (fun k => spec_SessionsOk.l1 k j i cap now l a b u t) r) ∧
    ((∃ q : Nat, i ≤ q ∧ q < j ∧ (rd_T45 l q).f2 = u) → Ev (fun k => spec_SessionsOk.l1 k j i cap now l a b u t) false) := by
  have hwj : wrap64 ((j : Int) + 1) = ((j + 1 : Nat) : Int) := wsucc (n := l.length) (by omega) (by omega)
  induction d with
  | zero =>
    intro i hd
    refine ⟨fun _ r hr => ?_, fun ⟨q, h1, h2, _⟩ => by omega⟩
    refine Ev.step (fun k => by rw [spec_SessionsOk.l1]) ?_
    rw [hwj]
    exact ev_neg (by omega) hr
  | succ d ih =>
    intro i hd
    obtain ⟨i1, i2⟩ := ih (i + 1) (by omega)
    have hwi : wrap64 ((i : Int) + 1) = ((i + 1 : Nat) : Int) := wsucc (n := l.length) (by omega) (by omega)
    refine ⟨fun h r hr => ?_, fun h => ?_⟩
    · refine Ev.step (fun k => by rw [spec_SessionsOk.l1]) ?_
      rw [hwi]
      exact ev_pos (by omega) (ev_pos (by omega) (ev_pos (by omega) (ev_neg (h i (by omega) (by omega)) (i1 (fun q h1 h2 => h q (by omega) h2) r hr))))
    · refine Ev.step (fun k => by rw [spec_SessionsOk.l1]) ?_
      rw [hwi]
      by_cases e : (rd_T45 l i).f2 = u
      · exact ev_pos (by omega) (ev_pos (by omega) (ev_pos (by omega) (ev_pos e (Ev.now _))))
      · refine ev_pos (by omega) (ev_pos (by omega) (ev_pos (by omega) (ev_neg e (i2 ?_))))
        obtain ⟨q, h1, h2, h3⟩ := h
        refine ⟨q, ?_, h2, h3⟩
        by_cases e2 : q = i
        · subst e2; exact absurd h3 e
        · omega
theorem specS_0 (cap now : Int) (l : List S45) (hl : l.length ≤ 1048576) (d : Nat) : ∀ j : Nat, l.length = j + d → ∃ b, Ev (fun k => spec_SessionsOk.l0 k j cap now l) b ∧ (b = true ↔ ∀ i : Nat, j ≤ i → i < l.length → SP now l i) := by
  induction d with
  | zero =>
    intro j hd
    refine ⟨true, ?_, ⟨fun _ i h1 h2 => by omega, fun _ => rfl⟩⟩
    refine Ev.step (fun k => by rw [spec_SessionsOk.l0]) ?_
    exact ev_neg (by omega) (Ev.now _)
  | succ d ih =>
    intro j hd
    obtain ⟨b, hb, hi⟩ := ih (j + 1) (by omega)
    have hj : j < l.length := by omega
    have bad : ∀ (b0 : Bool) (a0 a1 a2 : Int) (a3 : ByteArray), b0 = true → Ev (fun k => spec_SessionsOk.j2 k j b0 cap now l a0 a1 a2 a3) false := fun b0 a0 a1 a2 a3 h => by
      refine Ev.step (fun k => by rw [spec_SessionsOk.j2]) ?_
      exact ev_pos h (Ev.now _)
    have hf : ∀ {p : Prop}, ¬ p → (SP now l j → p) → (false = true ↔ ∀ i : Nat, j ≤ i → i < l.length → SP now l i) := fun hn hp => ⟨fun h => by simp at h, fun h => absurd (hp (h j (Nat.le_refl _) hj)) hn⟩
    have hstep : ∀ r, Ev (fun k => if (j : Int) < (l.length : Int) then (if 0 ≤ (j : Int) then (if (1 ≤ (rd_T45 l j).f0 ∧ (rd_T45 l j).f0 ≤ 999) then (if (1 ≤ (rd_T45 l j).f1 ∧ (rd_T45 l j).f1 ≤ 1000000) then (if (1 ≤ (rd_T45 l j).f2 ∧ (rd_T45 l j).f2 ≤ now) then (if ((rd_T45 l j).f3.size : Int) > 40 then (spec_SessionsOk.j2 k j true cap now l ((rd_T45 l j).f0) ((rd_T45 l j).f1) ((rd_T45 l j).f2) ((rd_T45 l j).f3)) else (if (j : Int) > 0 then (if 0 ≤ (wrap64 ((j : Int) - 1)) then (if (wrap64 ((j : Int) - 1)) < (l.length : Int) then (spec_SessionsOk.j2 k j (decide (((rd_T45 l (wrap64 ((j : Int) - 1))).f0) ≥ ((rd_T45 l j).f0))) cap now l ((rd_T45 l j).f0) ((rd_T45 l j).f1) ((rd_T45 l j).f2) ((rd_T45 l j).f3)) else (none)) else (none)) else (spec_SessionsOk.j2 k j false cap now l ((rd_T45 l j).f0) ((rd_T45 l j).f1) ((rd_T45 l j).f2) ((rd_T45 l j).f3)))) else (spec_SessionsOk.j2 k j true cap now l ((rd_T45 l j).f0) ((rd_T45 l j).f1) ((rd_T45 l j).f2) ((rd_T45 l j).f3))) else (spec_SessionsOk.j2 k j true cap now l ((rd_T45 l j).f0) ((rd_T45 l j).f1) ((rd_T45 l j).f2) ((rd_T45 l j).f3))) else (spec_SessionsOk.j2 k j true cap now l ((rd_T45 l j).f0) ((rd_T45 l j).f1) ((rd_T45 l j).f2) ((rd_T45 l j).f3))) else none) else some true) r → Ev (fun k => spec_SessionsOk.l0 k j cap now l) r := fun r h => by
      refine Ev.step (fun k => by rw [spec_SessionsOk.l0]) ?_
      simp only [in_eq, Option.bind_some, decide_eq_true_eq]
      exact h
    by_cases h1 : 1 ≤ (rd_T45 l j).f0 ∧ (rd_T45 l j).f0 ≤ 999
    rotate_left
    · exact ⟨false, hstep _ (ev_pos (by omega) (ev_pos (by omega) (ev_neg h1 (bad _ _ _ _ _ rfl)))), hf h1 fun h => h.1⟩
    by_cases h2 : 1 ≤ (rd_T45 l j).f1 ∧ (rd_T45 l j).f1 ≤ 1000000
    rotate_left
    · exact ⟨false, hstep _ (ev_pos (by omega) (ev_pos (by omega) (ev_pos h1 (ev_neg h2 (bad _ _ _ _ _ rfl))))), hf h2 fun h => h.2.1⟩
    by_cases h3 : 1 ≤ (rd_T45 l j).f2 ∧ (rd_T45 l j).f2 ≤ now
    rotate_left
    · exact ⟨false, hstep _ (ev_pos (by omega) (ev_pos (by omega) (ev_pos h1 (ev_pos h2 (ev_neg h3 (bad _ _ _ _ _ rfl)))))), hf h3 fun h => h.2.2.1⟩
    by_cases h4 : ((rd_T45 l j).f3.size : Int) > 40
    · exact ⟨false, hstep _ (ev_pos (by omega) (ev_pos (by omega) (ev_pos h1 (ev_pos h2 (ev_pos h3 (ev_pos h4 (bad _ _ _ _ _ rfl))))))), hf (p := (rd_T45 l j).f3.size ≤ 40) (by omega) fun h => h.2.2.2.1⟩
    have pre : ∀ (b0 : Bool) r, (0 < j → b0 = decide ((rd_T45 l (j - 1 : Nat)).f0 ≥ (rd_T45 l j).f0)) → (j = 0 → b0 = false) → Ev (fun k => spec_SessionsOk.j2 k j b0 cap now l ((rd_T45 l j).f0) ((rd_T45 l j).f1) ((rd_T45 l j).f2) ((rd_T45 l j).f3)) r → Ev (fun k => spec_SessionsOk.l0 k j cap now l) r := fun b0 r hb1 hb2 h => by
      refine hstep _ (ev_pos (by omega) (ev_pos (by omega) (ev_pos h1 (ev_pos h2 (ev_pos h3 (ev_neg h4 ?_))))))
      by_cases h0 : j = 0
      · rw [hb2 h0] at h
        exact ev_neg (by omega) h
      · rw [wpred (by omega) (by omega), ← hb1 (by omega)]
        exact ev_pos (by omega) (ev_pos (by omega) (ev_pos (by omega) h))
    by_cases h5 : 0 < j → (rd_T45 l (j - 1 : Nat)).f0 < (rd_T45 l j).f0
    rotate_left
    · have h0 : 0 < j := by
        apply Classical.byContradiction
        intro hn; exact h5 fun h => absurd h hn
      have h6 : ¬ (rd_T45 l (j - 1 : Nat)).f0 < (rd_T45 l j).f0 := fun h => h5 fun _ => h
      exact ⟨false, pre true _ (fun h => (decide_eq_true (by omega)).symm) (fun h => by omega) (bad _ _ _ _ _ rfl), hf h5 fun h => h.2.2.2.2.1⟩
    have hpre := fun r => pre false r (fun h => (decide_eq_false (by have := h5 h; omega)).symm) (fun _ => rfl)
    have hgo : ∀ r, Ev (fun k => spec_SessionsOk.l1 k j ((0 : Nat) : Int) cap now l ((rd_T45 l j).f0) ((rd_T45 l j).f1) ((rd_T45 l j).f2) ((rd_T45 l j).f3)) r → Ev (fun k => spec_SessionsOk.l0 k j cap now l) r := fun r h => hpre r (by
      refine Ev.step (fun k => by rw [spec_SessionsOk.j2]) ?_
      exact ev_neg (by simp) h)
    obtain ⟨g1, g2⟩ := specS_1 cap now l hl j hj ((rd_T45 l j).f0) ((rd_T45 l j).f1) ((rd_T45 l j).f2) ((rd_T45 l j).f3) j 0 (by omega)
    by_cases h6 : ∀ q : Nat, q < j → (rd_T45 l q).f2 ≠ (rd_T45 l j).f2
    · refine ⟨b, hgo _ (g1 (fun q _ hq => h6 q hq) b hb), ?_⟩
      rw [hi]
      constructor
      · intro h i h7 h8
        by_cases e : i = j
        · subst e; exact ⟨h1, h2, h3, by omega, h5, h6⟩
        · exact h i (by omega) h8
      · intro h i h7 h8; exact h i (by omega) h8
    · refine ⟨false, hgo _ (g2 ?_), hf h6 fun h => h.2.2.2.2.2⟩
      apply Classical.byContradiction
      intro hn
      exact h6 fun q hq e => hn ⟨q, by omega, hq, e⟩
theorem specSess_ev (cap now : Int) (l : List S45) (hl : l.length ≤ 1048576) : ∃ b, Ev (fun k => spec_SessionsOk.f k cap now l) b ∧ (b = true ↔ SessP cap now l) := by
  have bad : ∀ b0 : Bool, b0 = true → Ev (fun k => spec_SessionsOk.j0 k b0 cap now l) false := fun b0 h => by
    refine Ev.step (fun k => by rw [spec_SessionsOk.j0]) ?_
    exact ev_pos h (Ev.now _)
  unfold spec_SessionsOk.f
  simp only [in_eq, Option.bind_some, decide_eq_true_eq]
  by_cases h1 : 1 ≤ cap ∧ cap ≤ 12
  rotate_left
  · exact ⟨false, ev_neg h1 (bad _ rfl), ⟨fun h => by simp at h, fun h => absurd h.1 h1⟩⟩
  by_cases h2 : 0 ≤ now ∧ now ≤ 1000000
  rotate_left
  · exact ⟨false, ev_pos h1 (ev_neg h2 (bad _ rfl)), ⟨fun h => by simp at h, fun h => absurd h.2.1 h2⟩⟩
  by_cases h3 : (l.length : Int) > cap
  · exact ⟨false, ev_pos h1 (ev_pos h2 (bad _ (decide_eq_true h3))), ⟨fun h => by simp at h, fun h => absurd h.2.2.1 (by omega)⟩⟩
  obtain ⟨b, hb, hi⟩ := specS_0 cap now l hl l.length 0 (by omega)
  refine ⟨b, ev_pos h1 (ev_pos h2 ?_), ?_⟩
  · refine Ev.step (fun k => by rw [spec_SessionsOk.j0]) ?_
    exact ev_neg (by simpa using h3) hb
  · rw [hi]
    exact ⟨fun h => ⟨h1, h2, by omega, fun j hj => h j (by omega) hj⟩, fun h i _ hi => h.2.2.2 i hi⟩

theorem any_take (l : List S45) (j : Nat) (hj : j ≤ l.length) (a b u : Int) (t : ByteArray) : impl_Session.f (l.take j) a b u t = some (decide (∃ q : Nat, q < j ∧ (rd_T45 l q).f2 = u)) := by
  unfold impl_Session.f
  congr 1
  rw [Bool.eq_iff_iff, List.any_eq_true, decide_eq_true_iff]
  constructor
  · rintro ⟨x, hx, h⟩
    obtain ⟨q, hq, rfl⟩ := List.mem_iff_getElem.1 hx
    have hq' : q < j := by have := List.length_take_le j l; omega
    refine ⟨q, hq', ?_⟩
    unfold rd_T45
    rw [toNat_cast, getD_lt _ _ _ (by omega)]
    simpa [impl_Session.p] using h
  · rintro ⟨q, hq, h⟩
    unfold rd_T45 at h
    rw [toNat_cast, getD_lt _ _ _ (by omega)] at h
    refine ⟨l[q], List.mem_take_iff_getElem.2 ⟨q, by omega, rfl⟩, ?_⟩
    simpa [impl_Session.p] using h
theorem implS_0 (cap now : Int) (l : List S45) (hl : l.length ≤ 1048576) (d : Nat) : ∀ j : Nat, l.length = j + d → ∃ b, Ev (fun k => impl_areSessions.l0 k l l.length j cap now l) b ∧ (b = true ↔ ∀ i : Nat, j ≤ i → i < l.length → SP now l i) := by
  induction d with
  | zero =>
    intro j hd
    refine ⟨true, ?_, ⟨fun _ i h1 h2 => by omega, fun _ => rfl⟩⟩
    refine Ev.step (fun k => by rw [impl_areSessions.l0]) ?_
    exact ev_neg (by omega) (Ev.now _)
  | succ d ih =>
    intro j hd
    obtain ⟨b, hb, hi⟩ := ih (j + 1) (by omega)
    have hj : j < l.length := by omega
    have hwj : wrap64 ((j : Int) + 1) = ((j + 1 : Nat) : Int) := wsucc (n := l.length) (by omega) (by omega)
    have bad : ∀ (b0 : Bool) (a0 a1 a2 : Int) (a3 : ByteArray), b0 = true → Ev (fun k => impl_areSessions.j2 k j l l.length j b0 cap now l a0 a1 a2 a3) false := fun b0 a0 a1 a2 a3 h => by
      refine Ev.step (fun k => by rw [impl_areSessions.j2]) ?_
      exact ev_pos h (Ev.now _)
    have hf : ∀ {p : Prop}, ¬ p → (SP now l j → p) → (false = true ↔ ∀ i : Nat, j ≤ i → i < l.length → SP now l i) := fun hn hp => ⟨fun h => by simp at h, fun h => absurd (hp (h j (Nat.le_refl _) hj)) hn⟩
    have st : ∀ {f : Nat → Option Bool} {r : Bool}, (∀ k, impl_areSessions.l0 (k + 1) l l.length j cap now l = f k) → Ev f r → Ev (fun k => impl_areSessions.l0 k l l.length j cap now l) r := fun h e => Ev.step h e
    by_cases h1 : 1 ≤ (rd_T45 l j).f0 ∧ (rd_T45 l j).f0 ≤ 999
    rotate_left
    · refine ⟨false, st (fun k => by rw [impl_areSessions.l0]) (ev_pos (by omega) (ev_pos (by omega) (ev_pos (by omega) ?_))), hf h1 fun h => h.1⟩
      by_cases q : (rd_T45 l j).f0 < 1
      · exact ev_pos q (bad _ _ _ _ _ rfl)
      · exact ev_neg q (ev_pos (by omega) (bad _ _ _ _ _ rfl))
    by_cases h2 : 1 ≤ (rd_T45 l j).f1 ∧ (rd_T45 l j).f1 ≤ 1000000
    rotate_left
    · refine ⟨false, st (fun k => by rw [impl_areSessions.l0]) (ev_pos (by omega) (ev_pos (by omega) (ev_pos (by omega) (ev_neg (by omega) (ev_neg (by omega) ?_))))), hf h2 fun h => h.2.1⟩
      by_cases q : (rd_T45 l j).f1 < 1
      · exact ev_pos q (bad _ _ _ _ _ rfl)
      · exact ev_neg q (ev_pos (by omega) (bad _ _ _ _ _ rfl))
    by_cases h3 : 1 ≤ (rd_T45 l j).f2 ∧ (rd_T45 l j).f2 ≤ now
    rotate_left
    · refine ⟨false, st (fun k => by rw [impl_areSessions.l0]) (ev_pos (by omega) (ev_pos (by omega) (ev_pos (by omega) (ev_neg (by omega) (ev_neg (by omega) (ev_neg (by omega) (ev_neg (by omega) ?_))))))), hf h3 fun h => h.2.2.1⟩
      by_cases q : (rd_T45 l j).f2 < 1
      · exact ev_pos q (bad _ _ _ _ _ rfl)
      · exact ev_neg q (ev_pos (by omega) (bad _ _ _ _ _ rfl))
    have pre : ∀ r, Ev (fun k => impl_areSessions.j2 k j l l.length j (decide (((rd_T45 l j).f3.size : Int) > 40)) cap now l ((rd_T45 l j).f0) ((rd_T45 l j).f1) ((rd_T45 l j).f2) ((rd_T45 l j).f3)) r → Ev (fun k => impl_areSessions.l0 k l l.length j cap now l) r := fun r h =>
      st (fun k => by rw [impl_areSessions.l0]) (ev_pos (by omega) (ev_pos (by omega) (ev_pos (by omega) (ev_neg (by omega) (ev_neg (by omega) (ev_neg (by omega) (ev_neg (by omega) (ev_neg (by omega) (ev_neg (by omega) h)))))))))
    by_cases h4 : ((rd_T45 l j).f3.size : Int) > 40
    · exact ⟨false, pre _ (bad _ _ _ _ _ (decide_eq_true h4)), hf (p := (rd_T45 l j).f3.size ≤ 40) (by omega) fun h => h.2.2.2.1⟩
    rw [decide_eq_false h4] at pre
    have tail : ∀ r, Ev (fun k => if 0 ≤ (j : Int) then (if (j : Int) ≤ (l.length : Int) then ((impl_Session.f (l.take (j : Int).toNat) ((rd_T45 l j).f0) ((rd_T45 l j).f1) ((rd_T45 l j).f2) ((rd_T45 l j).f3)).bind fun t147 => (if t147 = true then (some false) else (impl_areSessions.l0 k l (l.length : Int) (wrap64 ((j : Int) + 1)) cap now l))) else (none)) else (none)) r → (0 < j → (rd_T45 l (j - 1 : Nat)).f0 < (rd_T45 l j).f0) → Ev (fun k => impl_areSessions.l0 k l l.length j cap now l) r := fun r h h5 => by
      refine pre r ?_
      refine Ev.step (fun k => by rw [impl_areSessions.j2]) ?_
      refine ev_neg (by simp) ?_
      by_cases h0 : j = 0
      · exact ev_neg (by omega) h
      · have := h5 (by omega)
        rw [wpred (by omega) (by omega)]
        exact ev_pos (by omega) (ev_pos (by omega) (ev_pos (by omega) (ev_neg (by omega) h)))
    by_cases h5 : 0 < j → (rd_T45 l (j - 1 : Nat)).f0 < (rd_T45 l j).f0
    rotate_left
    · have h0 : 0 < j := by
        apply Classical.byContradiction
        intro hn; exact h5 fun h => absurd h hn
      have h6 : ¬ (rd_T45 l (j - 1 : Nat)).f0 < (rd_T45 l j).f0 := fun h => h5 fun _ => h
      refine ⟨false, pre _ ?_, hf h5 fun h => h.2.2.2.2.1⟩
      refine Ev.step (fun k => by rw [impl_areSessions.j2]) ?_
      rw [wpred (by omega) (by omega)]
      exact ev_neg (by simp) (ev_pos (by omega) (ev_pos (by omega) (ev_pos (by omega) (ev_pos (by omega) (Ev.now _)))))
    rw [toNat_cast, any_take l j (by omega), hwj] at tail
    by_cases h6 : ∀ q : Nat, q < j → (rd_T45 l q).f2 ≠ (rd_T45 l j).f2
    · refine ⟨b, tail _ (ev_pos (by omega) (ev_pos (by omega) (Ev.bind (Ev.now _) (ev_neg ?_ hb)))) h5, ?_⟩
      · rw [decide_eq_true_iff]
        rintro ⟨q, hq, e⟩
        exact h6 q hq e
      · rw [hi]
        constructor
        · intro h i h7 h8
          by_cases e : i = j
          · subst e; exact ⟨h1, h2, h3, by omega, h5, h6⟩
          · exact h i (by omega) h8
        · intro h i h7 h8; exact h i (by omega) h8
    · refine ⟨false, tail _ (ev_pos (by omega) (ev_pos (by omega) (Ev.bind (Ev.now _) (ev_pos ?_ (Ev.now _))))) h5, hf h6 fun h => h.2.2.2.2.2⟩
      rw [decide_eq_true_iff]
      apply Classical.byContradiction
      intro hn
      exact h6 fun q hq e => hn ⟨q, hq, e⟩
theorem implSess_ev (cap now : Int) (l : List S45) (hl : l.length ≤ 1048576) : ∃ b, Ev (fun k => impl_areSessions.f k cap now l) b ∧ (b = true ↔ SessP cap now l) := by
  have bad : ∀ b0 : Bool, b0 = true → Ev (fun k => impl_areSessions.j0 k b0 cap now l) false := fun b0 h => by
    refine Ev.step (fun k => by rw [impl_areSessions.j0]) ?_
    exact ev_pos h (Ev.now _)
  have no : ∀ {p : Prop}, ¬ p → (SessP cap now l → p) → (false = true ↔ SessP cap now l) := fun hn hp => ⟨fun h => by simp at h, fun h => absurd (hp h) hn⟩
  unfold impl_areSessions.f
  by_cases h1 : cap < 1
  · exact ⟨false, ev_pos h1 (bad _ rfl), no (p := 1 ≤ cap) (by omega) fun h => h.1.1⟩
  by_cases h2 : cap > 12
  · exact ⟨false, ev_neg h1 (ev_pos h2 (bad _ rfl)), no (p := cap ≤ 12) (by omega) fun h => h.1.2⟩
  by_cases h3 : now < 0
  · exact ⟨false, ev_neg h1 (ev_neg h2 (ev_pos h3 (bad _ rfl))), no (p := 0 ≤ now) (by omega) fun h => h.2.1.1⟩
  by_cases h4 : now > 1000000
  · exact ⟨false, ev_neg h1 (ev_neg h2 (ev_neg h3 (ev_pos h4 (bad _ rfl)))), no (p := now ≤ 1000000) (by omega) fun h => h.2.1.2⟩
  by_cases h5 : (l.length : Int) > cap
  · exact ⟨false, ev_neg h1 (ev_neg h2 (ev_neg h3 (ev_neg h4 (bad _ (decide_eq_true h5))))), no (p := (l.length : Int) ≤ cap) (by omega) fun h => h.2.2.1⟩
  obtain ⟨b, hb, hi⟩ := implS_0 cap now l hl l.length 0 (by omega)
  refine ⟨b, ev_neg h1 (ev_neg h2 (ev_neg h3 (ev_neg h4 ?_))), ?_⟩
  · refine Ev.step (fun k => by rw [impl_areSessions.j0]) ?_
    exact ev_neg (by simpa using h5) hb
  · rw [hi]
    exact ⟨fun h => ⟨⟨by omega, by omega⟩, ⟨by omega, by omega⟩, by omega, fun j hj => h j (by omega) hj⟩, fun h i _ hi => h.2.2.2 i hi⟩

abbrev noS : ByteArray := ⟨#[]⟩
noncomputable instance (p : Prop) : Decidable p := Classical.propDecidable p
def lookY (y : S45) (s : Int) : Int × ByteArray := if s = wrap64 (y.f1 + 1) then (0, noS) else if s = y.f1 then (1, y.f3) else if s < y.f1 then (2, noS) else (3, noS)
/-- What a call of a client is. -/
noncomputable def lookM (cap now : Int) (l : List S45) (c s : Int) : Int × ByteArray := if SessP cap now l ∧ (1 ≤ c ∧ c ≤ 999) ∧ (1 ≤ s ∧ s ≤ 1000000) then lookY (lastOf l c) s else (4, noS)
theorem lookY_ev (y : S45) (s : Int) : Ev (fun _ => if s = wrap64 (y.f1 + 1) then (some (0, noS)) else (if s = y.f1 then (some (1, y.f3)) else (if s < y.f1 then (some (2, noS)) else (some (3, noS))))) (lookY y s) := by
  refine ev_const ?_
  unfold lookY
  by_cases h1 : s = wrap64 (y.f1 + 1)
  · rw [if_pos h1, if_pos h1]
  · rw [if_neg h1, if_neg h1]
    by_cases h2 : s = y.f1
    · rw [if_pos h2, if_pos h2]
    · rw [if_neg h2, if_neg h2]
      by_cases h3 : s < y.f1
      · rw [if_pos h3, if_pos h3]
      · rw [if_neg h3, if_neg h3]
theorem specLook_ev (cap now : Int) (l : List S45) (hl : l.length ≤ 1048576) (c s : Int) : Ev (fun k => spec_Look.f k cap now l c s) (lookM cap now l c s) := by
  obtain ⟨b, hb, hi⟩ := specSess_ev cap now l hl
  have bad : ∀ b0 : Bool, b0 = true → Ev (fun k => spec_Look.j0 k c s b0 cap now l) (4, noS) := fun b0 h => by
    refine Ev.step (fun k => by rw [spec_Look.j0]) ?_
    exact ev_pos h (Ev.now _)
  unfold spec_Look.f lookM
  simp only [in_eq, Option.bind_some, decide_eq_true_eq]
  by_cases h1 : b = true
  rotate_left
  · rw [if_neg (fun h => h1 (hi.2 h.1))]
    exact Ev.bind hb (ev_neg h1 (bad _ rfl))
  by_cases h2 : 1 ≤ c ∧ c ≤ 999
  rotate_left
  · rw [if_neg (fun h => h2 h.2.1)]
    exact Ev.bind hb (ev_pos h1 (ev_neg h2 (bad _ rfl)))
  by_cases h3 : 1 ≤ s ∧ s ≤ 1000000
  rotate_left
  · rw [if_neg (fun h => h3 h.2.2)]
    exact Ev.bind hb (ev_pos h1 (ev_pos h2 (bad _ (by rw [decide_eq_false h3]; rfl))))
  rw [if_pos ⟨hi.1 h1, h2, h3⟩]
  refine Ev.bind hb (ev_pos h1 (ev_pos h2 ?_))
  refine Ev.step (fun k => by rw [spec_Look.j0]) ?_
  exact ev_neg (by rw [decide_eq_true h3]; decide) (Ev.bind (l09Find_ev cap now c l hl) (lookY_ev (lastOf l c) s))
theorem implLook_ev (cap now : Int) (l : List S45) (hl : l.length ≤ 1048576) (c s : Int) : Ev (fun k => impl_look.f k cap now l c s) (lookM cap now l c s) := by
  obtain ⟨b, hb, hi⟩ := implSess_ev cap now l hl
  have bad : ∀ b0 : Bool, b0 = true → Ev (fun k => impl_look.j0 k c s b0 cap now l) (4, noS) := fun b0 h => by
    refine Ev.step (fun k => by rw [impl_look.j0]) ?_
    exact ev_pos h (Ev.now _)
  unfold impl_look.f lookM
  by_cases h1 : b = true
  rotate_left
  · rw [if_neg (fun h => h1 (hi.2 h.1))]
    exact Ev.bind hb (ev_neg h1 (bad _ rfl))
  by_cases h2 : c < 1
  · rw [if_neg (fun h => by have := h.2.1; omega)]
    exact Ev.bind hb (ev_pos h1 (ev_pos h2 (bad _ rfl)))
  by_cases h3 : c > 999
  · rw [if_neg (fun h => by have := h.2.1; omega)]
    exact Ev.bind hb (ev_pos h1 (ev_neg h2 (ev_pos h3 (bad _ rfl))))
  by_cases h4 : s < 1
  · rw [if_neg (fun h => by have := h.2.2; omega)]
    exact Ev.bind hb (ev_pos h1 (ev_neg h2 (ev_neg h3 (ev_pos h4 (bad _ rfl)))))
  by_cases h5 : s > 1000000
  · rw [if_neg (fun h => by have := h.2.2; omega)]
    exact Ev.bind hb (ev_pos h1 (ev_neg h2 (ev_neg h3 (ev_neg h4 (bad _ (decide_eq_true h5))))))
  rw [if_pos ⟨hi.1 h1, by omega, by omega⟩]
  have j1 : ∀ y : S45, Ev (fun k => impl_look.j1 k s y.f0 y.f1 y.f2 y.f3) (lookY y s) := fun y => by
    refine Ev.step (fun k => by rw [impl_look.j1]) ?_
    exact lookY_ev y s
  refine Ev.bind hb (ev_pos h1 (ev_neg h2 (ev_neg h3 (ev_neg h4 ?_))))
  refine Ev.step (fun k => by rw [impl_look.j0]) ?_
  refine ev_neg (by simpa using h5) ?_
  rcases idx_cases l c with ⟨i, hi', e, _, e2, _⟩ | ⟨e, e2, _⟩
  · refine Ev.bind (a := (i : Int)) (ev_const (by unfold impl_sessionOf.f; exact congrArg some e)) ?_
    rw [e2]
    exact ev_pos (by omega) (ev_pos (by omega) (ev_pos (by omega) (j1 _)))
  · refine Ev.bind (a := (-1 : Int)) (ev_const (by unfold impl_sessionOf.f; exact congrArg some e)) ?_
    rw [e2]
    exact ev_neg (by omega) (j1 z45)

theorem FnExactLook : Stated := by
  intro ⟨cap, now, l⟩ a1 a2 ⟨_, _, hm, hw⟩ _ _
  refine Ev.rounds (?_ : Ev (fun k => laws_FnExactLook.f k cap now l a1 a2) true)
  unfold laws_FnExactLook.f
  obtain ⟨r, hs, hn⟩ := szSess_ev cap now l hm hw
  by_cases h0 : r < 0
  · exact Ev.bind hs (ev_pos h0 (Ev.now _))
  have hl : l.length ≤ 1048576 := by omega
  have ht := toSess_ev cap now l hl
  have hl' : (l.map conv).length ≤ 1048576 := by simpa using hl
  refine Ev.bind hs (ev_neg h0 (Ev.bind ht (Ev.bind (specLook_ev cap now _ hl' a1 a2) (Ev.bind ht (Ev.bind (a := lookM cap now (l.map conv) a1 a2) ?_ (ev_pos rfl (ev_pos rfl ?_)))))))
  · unfold impl_Look.f
    exact Ev.bind (implLook_ev cap now _ hl' a1 a2) (Ev.now _)
  · exact Ev.bind ht (Ev.bind (eqSess_ev cap now _ hl') (ev_pos rfl (Ev.now _)))

end Go.Proofs.Ytjdpifafijcpbaa.Pure
