/- The law FnExactMsgOk answers true at every input. No condition. -/
import Derived.Test.YtkcadcoohmofcaaOpnFnExactMsgOk
import Derived.Test.YtkcadcoohmofcaaBase
namespace Go.Proofs.Ytkcadcoohmofcaa.Pure
open Go.RowKit Go.Proofs.Ytkcadcoohmofcaa.QFnExactMsgOk Go.Proofs.Ytkcadcoohmofcaa.OpnFnExactMsgOk Go.Proofs.Ytkcadcoohmofcaa.Base Go.Proofs.YtkcadcoohmofcaaW.PrintWords Go.Proofs.YtkcadcoohmofcaaW.PrintLast
set_option linter.unusedVariables false
set_option linter.unusedSimpArgs false

def conv (e : S112) : S85 := ⟨e.f0, e.f1⟩
theorem szEnt_e (x : Int) (s : ByteArray) (hs : s.size ≤ 9223372036854775807) (a : Int) (h0 : 0 ≤ a) (h1 : a ≤ 1048576) : laws_szEntry.f x s a = some (if (s.size : Int) ≤ a then a - s.size else -1) := by
  unfold laws_szEntry.f
  rw [w64 (x := a - s.size) (by omega) (by omega)]
  by_cases h : (s.size : Int) ≤ a
  · rw [if_neg (by omega), if_pos h]
  · rw [if_pos (by omega), if_neg h]
theorem szEntS_l (l : List S112) (hl : l.length ≤ 1048576) (hw : ∀ x ∈ l, x.f1.size ≤ 9223372036854775807) (d : Nat) : ∀ (i : Nat) (a : Int), l.length = i + d → 0 ≤ a → a ≤ 1048576 → ∃ r, Ev (fun k => laws_szEntryS.l0 k l a i) r ∧ r ≤ 1048576 := by
  induction d with
  | zero =>
    intro i a hd h0 h1
    refine ⟨a, ?_, h1⟩
    refine Ev.step (fun k => by rw [laws_szEntryS.l0]) ?_
    exact ev_neg (by omega) (Ev.now _)
  | succ d ih =>
    intro i a hd h0 h1
    have hx : (rd_T112 l i).f1.size ≤ 9223372036854775807 := by
      unfold rd_T112
      rw [toNat_cast]
      exact hw _ (getD_mem l i _ (by omega))
    have e := szEnt_e (rd_T112 l i).f0 (rd_T112 l i).f1 hx a h0 h1
    by_cases h : ((rd_T112 l i).f1.size : Int) ≤ a
    · rw [if_pos h] at e
      obtain ⟨r, hr, hr1⟩ := ih (i + 1) (a - (rd_T112 l i).f1.size) (by omega) (by omega) (by omega)
      refine ⟨r, ?_, hr1⟩
      refine Ev.step (fun k => by rw [laws_szEntryS.l0]) ?_
      rw [wsucc (n := l.length) (by omega) (by omega)]
      exact ev_pos (by omega) (ev_pos (by omega) (Ev.bind (ev_const e) (ev_neg (by omega) hr)))
    · rw [if_neg h] at e
      refine ⟨-1, ?_, by omega⟩
      refine Ev.step (fun k => by rw [laws_szEntryS.l0]) ?_
      exact ev_pos (by omega) (ev_pos (by omega) (Ev.bind (ev_const e) (ev_pos (by omega) (Ev.now _))))
theorem szEntS_ev (l : List S112) (hl : l.length ≤ 9223372036854775807) (hw : ∀ x ∈ l, x.f1.size ≤ 9223372036854775807) (a : Int) (h0 : 0 ≤ a) (h1 : a ≤ 1048576) : ∃ r, Ev (fun k => laws_szEntryS.f k l a) r ∧ r ≤ 1048576 ∧ (0 ≤ r → l.length ≤ 1048576) := by
  unfold laws_szEntryS.f
  rw [w64 (x := a - l.length) (by omega) (by omega)]
  by_cases h : (l.length : Int) ≤ a
  · obtain ⟨r, hr, hr1⟩ := szEntS_l l (by omega) hw l.length 0 (a - l.length) (by omega) (by omega) (by omega)
    exact ⟨r, ev_neg (by omega) hr, hr1, fun _ => by omega⟩
  · exact ⟨-1, ev_pos (by omega) (Ev.now _), by omega, fun q => by omega⟩
theorem toEntS_l (l : List S112) (hl : l.length ≤ 1048576) (d : Nat) : ∀ (i : Nat) (m : List S85), l.length = i + d → m.length = l.length → m.take i = (l.map conv).take i → Ev (fun k => laws_toEntryS.l0 k l m i) (l.map conv) := by
  induction d with
  | zero =>
    intro i m hd hm ht
    have : m = l.map conv := by
      rw [List.take_of_length_le (by omega), List.take_of_length_le (by simp; omega)] at ht
      exact ht
    subst this
    refine Ev.step (fun k => by rw [laws_toEntryS.l0]) ?_
    exact ev_neg (by omega) (Ev.now _)
  | succ d ih =>
    intro i m hd hm ht
    refine Ev.step (fun k => by rw [laws_toEntryS.l0]) ?_
    refine ev_pos (by omega) (ev_pos (by omega) (Ev.bind (a := ((rd_T112 l i).f0, (rd_T112 l i).f1)) (ev_const rfl) (ev_pos (by omega) ?_)))
    rw [wsucc (n := l.length) (by omega) (by omega), toNat_cast]
    refine ih (i + 1) _ (by omega) (by simpa using hm) ?_
    rw [take_set_succ m i _ (by omega), ht, List.take_succ_eq_append_getElem (show i < (l.map conv).length by simp; omega), List.getElem_map]
    congr 2
    unfold rd_T112
    rw [toNat_cast, getD_lt l i _ (by omega)]
    rfl
theorem toEntS_ev (l : List S112) (hl : l.length ≤ 1048576) : Ev (fun k => laws_toEntryS.f k l) (l.map conv) := by
  unfold laws_toEntryS.f
  refine ev_pos (by omega) (ev_pos (by rw [toNat_cast]; omega) ?_)
  exact toEntS_l l hl l.length 0 _ (by omega) (by simp) (by simp)
theorem eqEntS_l (l : List S85) (hl : l.length ≤ 1048576) (d : Nat) : ∀ (i : Nat), l.length = i + d → Ev (fun k => laws_eqEntryS.l0 k l l i) true := by
  induction d with
  | zero =>
    intro i hd
    refine Ev.step (fun k => by rw [laws_eqEntryS.l0]) ?_
    exact ev_neg (by omega) (Ev.now _)
  | succ d ih =>
    intro i hd
    refine Ev.step (fun k => by rw [laws_eqEntryS.l0]) ?_
    rw [wsucc (n := l.length) (by omega) (by omega)]
    exact ev_pos (by omega) (ev_pos (by omega) (ev_pos (by omega) (Ev.bind (a := true) (ev_const (by unfold laws_eqEntry.f; rw [if_pos rfl, if_pos rfl])) (ev_pos rfl (ih (i + 1) (by omega))))))
theorem eqEntS_ev (l : List S85) (hl : l.length ≤ 1048576) : Ev (fun k => laws_eqEntryS.f k l l) true := by
  unfold laws_eqEntryS.f
  exact ev_pos rfl (eqEntS_l l hl l.length 0 (by omega))
theorem in_eq (x a b : Int) : spec_l01In.f x a b = some (decide (a ≤ x ∧ x ≤ b)) := by
  unfold spec_l01In.f
  by_cases h : a ≤ x
  · rw [if_pos h]; congr 1; simp [h]
  · rw [if_neg h, decide_eq_false (fun q => h q.1)]
theorem in_t {x a b : Int} (h : a ≤ x ∧ x ≤ b) : Ev (fun _ => spec_l01In.f x a b) true := ev_const (by rw [in_eq, decide_eq_true h])
theorem in_f {x a b : Int} (h : ¬ (a ≤ x ∧ x ≤ b)) : Ev (fun _ => spec_l01In.f x a b) false := ev_const (by rw [in_eq, decide_eq_false h])
theorem rd85 (l : List S85) (i : Nat) (hi : i < l.length) : l.drop i = rd_T85 l i :: l.drop (i + 1) := by
  rw [List.drop_eq_getElem_cons hi]
  unfold rd_T85
  rw [toNat_cast, getD_lt l i _ hi]

def endS (f0 f4 f5 f6 n : Int) (f7 : Bool) : Bool := if f0 = 0 then (decide (f6 = 0) && !f7 && decide (n = 0)) else if f0 = 1 then (decide (f4 = 0) && decide (f5 = 0) && decide (f6 = 0) && decide (n = 0)) else if f0 = 2 then !f7 else (decide (f5 = 0) && decide (f6 = 0) && decide (n = 0))
theorem end_spec (f0 f4 f5 f6 n : Int) (f7 : Bool) : (if f0 = 0 then (if f6 = 0 then (if f7 = true then (some false) else (some (n == 0))) else (some false)) else (if f0 = 1 then (if f4 = 0 then (if f5 = 0 then (if f6 = 0 then (some (n == 0)) else (some false)) else (some false)) else (some false)) else (if f0 = 2 then (some (!f7)) else (if f5 = 0 then (if f6 = 0 then (some (n == 0)) else (some false)) else (some false))))) = some (endS f0 f4 f5 f6 n f7) := by
  have e : (n == 0) = decide (n = 0) := by rw [Bool.eq_iff_iff]; simp
  rw [e]
  unfold endS
  by_cases h0 : f0 = 0
  · by_cases h6 : f6 = 0 <;> cases f7 <;> simp [h0, h6]
  by_cases h1 : f0 = 1
  · by_cases h4 : f4 = 0 <;> by_cases h5 : f5 = 0 <;> by_cases h6 : f6 = 0 <;> simp [h1, h4, h5, h6]
  by_cases h2 : f0 = 2
  · simp [h2]
  · by_cases h5 : f5 = 0 <;> by_cases h6 : f6 = 0 <;> simp [h0, h1, h2, h5, h6]
theorem end_impl (f0 f4 f5 f6 n : Int) (f7 : Bool) (hf : 0 ≤ f0 ∧ f0 ≤ 3) (hn : 0 ≤ n) : (if f0 = 2 then (if f0 = 0 then (if f0 = 1 then (if f4 = 0 then (if f7 = true then (some true) else (some true)) else (some false)) else (if f7 = true then (some (f0 == 3)) else (some true))) else (if f0 = 1 then (if f4 = 0 then (if f7 = true then (some true) else (some true)) else (some false)) else (if f7 = true then (some (f0 == 3)) else (some true)))) else (if f6 = 0 then (if n > 0 then (some false) else (if f0 = 0 then (if f0 = 1 then (if f4 = 0 then (if f7 = true then (some true) else (some true)) else (some false)) else (if f7 = true then (some (f0 == 3)) else (some true))) else (if f5 = 0 then (if f0 = 1 then (if f4 = 0 then (if f7 = true then (some true) else (some true)) else (some false)) else (if f7 = true then (some (f0 == 3)) else (some true))) else (some false)))) else (some false))) = some (endS f0 f4 f5 f6 n f7) := by
  unfold endS
  have hn' : n = 0 ∨ (n > 0 ∧ n ≠ 0) := by omega
  have hf' : f0 = 0 ∨ f0 = 1 ∨ f0 = 2 ∨ f0 = 3 := by omega
  clear hn hf
  rcases hf' with rfl | rfl | rfl | rfl <;> rcases hn' with rfl | ⟨h8, h9⟩ <;> by_cases h4 : f4 = 0 <;> by_cases h5 : f5 = 0 <;> by_cases h6 : f6 = 0 <;> cases f7 <;> simp [*]
theorem ent_spec (y : S85) : spec_l05Entry.f y.f0 y.f1 = some (impl_Entry.ent y) := by
  unfold spec_l05Entry.f impl_Entry.ent
  rw [in_eq, Option.bind_some]
  by_cases h1 : y.f0 > 0
  · by_cases h2 : y.f0 ≤ 1000000
    · rw [if_pos (decide_eq_true (by omega))]; simp [h1, h2]
    · rw [if_neg (by rw [decide_eq_false (by omega)]; simp)]; simp [h1, h2]
  · rw [if_neg (by rw [decide_eq_false (by omega)]; simp)]; simp [h1]
theorem msgS_l (l : List S85) (hl : l.length ≤ 1048576) (f0 f1 f2 f3 f4 f5 f6 : Int) (f7 : Bool) (d : Nat) : ∀ i : Nat, l.length = i + d → Ev (fun k => spec_MsgOk.l0 k i f0 f1 f2 f3 f4 f5 f6 f7 l) (!(l.drop i).any (impl_Entry.p f3) && endS f0 f4 f5 f6 l.length f7) := by
  induction d with
  | zero =>
    intro i hd
    refine Ev.step (fun k => by rw [spec_MsgOk.l0]) ?_
    rw [List.drop_of_length_le (by omega), List.any_nil, Bool.not_false, Bool.true_and]
    exact ev_neg (by omega) (ev_const (end_spec f0 f4 f5 f6 l.length f7))
  | succ d ih =>
    intro i hd
    refine Ev.step (fun k => by rw [spec_MsgOk.l0]) ?_
    rw [wsucc (n := l.length) (by omega) (by omega), rd85 l i (by omega), List.any_cons]
    refine ev_pos (by omega) (ev_pos (by omega) (Ev.bind (ev_const (ent_spec _)) ?_))
    cases h1 : impl_Entry.ent (rd_T85 l i) with
    | false =>
      have : impl_Entry.p f3 (rd_T85 l i) = true := by unfold impl_Entry.p; rw [h1]; rfl
      rw [this]
      exact ev_neg (by simp) (Ev.now _)
    | true =>
      refine ev_pos rfl ?_
      by_cases h2 : (rd_T85 l i).f0 > f3
      · have : impl_Entry.p f3 (rd_T85 l i) = true := by unfold impl_Entry.p; rw [h1]; simp [h2]
        rw [this]
        exact ev_pos h2 (Ev.now _)
      · have : impl_Entry.p f3 (rd_T85 l i) = false := by unfold impl_Entry.p; rw [h1]; simp; omega
        rw [this, Bool.false_or]
        exact ev_neg h2 (ih (i + 1) (by omega))
theorem msg_ev (l : List S85) (hl : l.length ≤ 1048576) (f0 f1 f2 f3 f4 f5 f6 : Int) (f7 : Bool) (n : Int) : ∃ r, Ev (fun k => spec_MsgOk.f k f0 f1 f2 f3 f4 f5 f6 f7 l n) r ∧ Ev (fun k => impl_isMsg.f k f0 f1 f2 f3 f4 f5 f6 f7 l n) r := by
  have i0 : ∀ x : Bool, x = true → Ev (fun k => impl_isMsg.j0 k x f0 f1 f2 f3 f4 f5 f6 f7 l) false := fun x h => by
    refine Ev.step (fun k => by rw [impl_isMsg.j0]) ?_
    exact ev_pos h (Ev.now _)
  have i1 : ∀ x : Bool, x = true → Ev (fun k => impl_isMsg.j1 k x f0 f1 f2 f3 f4 f5 f6 f7 l) false := fun x h => by
    refine Ev.step (fun k => by rw [impl_isMsg.j1]) ?_
    exact ev_pos h (Ev.now _)
  have s0 : ∀ x : Bool, x = true → Ev (fun k => spec_MsgOk.j0 k x f0 f1 f2 f3 f4 f5 f6 f7 l) false := fun x h => by
    refine Ev.step (fun k => by rw [spec_MsgOk.j0]) ?_
    exact ev_pos h (Ev.now _)
  have s1 : ∀ x : Bool, x = true → Ev (fun k => spec_MsgOk.j1 k x f0 f1 f2 f3 f4 f5 f6 f7 l) false := fun x h => by
    refine Ev.step (fun k => by rw [spec_MsgOk.j1]) ?_
    exact ev_pos h (Ev.now _)
  have z := i0 true rfl
  have y := s0 true rfl
  have nt : ¬ (false = true) := by simp
  have sz_t : (1 ≤ n ∧ n ≤ 5) → Ev (fun _ => spec_l07Size.f n) true := fun h => by unfold spec_l07Size.f; exact Ev.bind (in_t h) (Ev.now _)
  have sz_f : ¬ (1 ≤ n ∧ n ≤ 5) → Ev (fun _ => spec_l07Size.f n) false := fun h => by unfold spec_l07Size.f; exact Ev.bind (in_f h) (Ev.now _)
  unfold spec_MsgOk.f impl_isMsg.f
  by_cases h1 : n < 1
  · exact ⟨false, Ev.bind (sz_f (by omega)) (ev_neg nt y), ev_pos h1 z⟩
  by_cases h2 : n > 5
  · exact ⟨false, Ev.bind (sz_f (by omega)) (ev_neg nt y), ev_neg h1 (ev_pos h2 z)⟩
  have hw : wrap64 (n - 1) = n - 1 := w64 (by omega) (by omega)
  rw [hw]
  by_cases h3 : f0 < 0
  · exact ⟨false, Ev.bind (sz_t (by omega)) (ev_pos rfl (Ev.bind (in_f (by omega)) (ev_neg nt y))), ev_neg h1 (ev_neg h2 (ev_pos h3 z))⟩
  by_cases h4 : f0 > 3
  · exact ⟨false, Ev.bind (sz_t (by omega)) (ev_pos rfl (Ev.bind (in_f (by omega)) (ev_neg nt y))), ev_neg h1 (ev_neg h2 (ev_neg h3 (ev_pos h4 z)))⟩
  by_cases h5 : f1 < 0
  · exact ⟨false, Ev.bind (sz_t (by omega)) (ev_pos rfl (Ev.bind (in_t (by omega)) (ev_pos rfl (Ev.bind (in_f (by omega)) (ev_neg nt y))))), ev_neg h1 (ev_neg h2 (ev_neg h3 (ev_neg h4 (ev_pos h5 z))))⟩
  by_cases h6 : f1 ≥ n
  · exact ⟨false, Ev.bind (sz_t (by omega)) (ev_pos rfl (Ev.bind (in_t (by omega)) (ev_pos rfl (Ev.bind (in_f (by omega)) (ev_neg nt y))))), ev_neg h1 (ev_neg h2 (ev_neg h3 (ev_neg h4 (ev_neg h5 (ev_pos h6 z)))))⟩
  by_cases h7 : f2 < 0
  · exact ⟨false, Ev.bind (sz_t (by omega)) (ev_pos rfl (Ev.bind (in_t (by omega)) (ev_pos rfl (Ev.bind (in_t (by omega)) (ev_pos rfl (Ev.bind (in_f (by omega)) (ev_neg nt y))))))), ev_neg h1 (ev_neg h2 (ev_neg h3 (ev_neg h4 (ev_neg h5 (ev_neg h6 (ev_pos h7 z))))))⟩
  by_cases h8 : f2 ≥ n
  · exact ⟨false, Ev.bind (sz_t (by omega)) (ev_pos rfl (Ev.bind (in_t (by omega)) (ev_pos rfl (Ev.bind (in_t (by omega)) (ev_pos rfl (Ev.bind (in_f (by omega)) (ev_neg nt y))))))), ev_neg h1 (ev_neg h2 (ev_neg h3 (ev_neg h4 (ev_neg h5 (ev_neg h6 (ev_neg h7 (ev_pos h8 z)))))))⟩
  -- what stands ahead of the second part
  have pre : ∀ {r : Bool} (b : Bool), f1 ≠ f2 → Ev (fun k => (spec_l01In.f f3 1 1000000).bind fun t114 => spec_MsgOk.j0 k (!t114) f0 f1 f2 f3 f4 f5 f6 f7 l) r → Ev (fun k => impl_isMsg.j0 k false f0 f1 f2 f3 f4 f5 f6 f7 l) r → ∃ r, Ev (fun k => (spec_l07Size.f n).bind fun t110 => (if t110 = true then ((spec_l01In.f f0 0 3).bind fun t111 => (if t111 = true then ((spec_l01In.f f1 0 (n - 1)).bind fun t112 => (if t112 = true then ((spec_l01In.f f2 0 (n - 1)).bind fun t113 => (if t113 = true then (if f1 = f2 then (spec_MsgOk.j0 k true f0 f1 f2 f3 f4 f5 f6 f7 l) else ((spec_l01In.f f3 1 1000000).bind fun t114 => (spec_MsgOk.j0 k (!t114) f0 f1 f2 f3 f4 f5 f6 f7 l))) else (spec_MsgOk.j0 k true f0 f1 f2 f3 f4 f5 f6 f7 l))) else (spec_MsgOk.j0 k true f0 f1 f2 f3 f4 f5 f6 f7 l))) else (spec_MsgOk.j0 k true f0 f1 f2 f3 f4 f5 f6 f7 l))) else (spec_MsgOk.j0 k true f0 f1 f2 f3 f4 f5 f6 f7 l))) r ∧ Ev (fun k => if n < 1 then (impl_isMsg.j0 k true f0 f1 f2 f3 f4 f5 f6 f7 l) else (if n > 5 then (impl_isMsg.j0 k true f0 f1 f2 f3 f4 f5 f6 f7 l) else (if f0 < 0 then (impl_isMsg.j0 k true f0 f1 f2 f3 f4 f5 f6 f7 l) else (if f0 > 3 then (impl_isMsg.j0 k true f0 f1 f2 f3 f4 f5 f6 f7 l) else (if f1 < 0 then (impl_isMsg.j0 k true f0 f1 f2 f3 f4 f5 f6 f7 l) else (if f1 ≥ n then (impl_isMsg.j0 k true f0 f1 f2 f3 f4 f5 f6 f7 l) else (if f2 < 0 then (impl_isMsg.j0 k true f0 f1 f2 f3 f4 f5 f6 f7 l) else (if f2 ≥ n then (impl_isMsg.j0 k true f0 f1 f2 f3 f4 f5 f6 f7 l) else (impl_isMsg.j0 k (f1 == f2) f0 f1 f2 f3 f4 f5 f6 f7 l))))))))) r := fun {r} _ hne a b => by
    refine ⟨r, Ev.bind (sz_t (by omega)) (ev_pos rfl (Ev.bind (in_t (by omega)) (ev_pos rfl (Ev.bind (in_t (by omega)) (ev_pos rfl (Ev.bind (in_t (by omega)) (ev_pos rfl (ev_neg hne a)))))))), ?_⟩
    rw [show (f1 == f2) = false by simpa using hne]
    exact ev_neg h1 (ev_neg h2 (ev_neg h3 (ev_neg h4 (ev_neg h5 (ev_neg h6 (ev_neg h7 (ev_neg h8 b)))))))
  by_cases h9 : f1 = f2
  · refine ⟨false, Ev.bind (sz_t (by omega)) (ev_pos rfl (Ev.bind (in_t (by omega)) (ev_pos rfl (Ev.bind (in_t (by omega)) (ev_pos rfl (Ev.bind (in_t (by omega)) (ev_pos rfl (ev_pos h9 y)))))))), ?_⟩
    exact ev_neg h1 (ev_neg h2 (ev_neg h3 (ev_neg h4 (ev_neg h5 (ev_neg h6 (ev_neg h7 (ev_neg h8 (i0 _ (by simp [h9])))))))))
  have ij : ∀ {r : Bool}, Ev (fun k => (if f3 < 1 then (impl_isMsg.j1 k true f0 f1 f2 f3 f4 f5 f6 f7 l) else (if f3 > 1000000 then (impl_isMsg.j1 k true f0 f1 f2 f3 f4 f5 f6 f7 l) else (if f4 < 0 then (impl_isMsg.j1 k true f0 f1 f2 f3 f4 f5 f6 f7 l) else (if f4 > 60 then (impl_isMsg.j1 k true f0 f1 f2 f3 f4 f5 f6 f7 l) else (if f5 < 0 then (impl_isMsg.j1 k true f0 f1 f2 f3 f4 f5 f6 f7 l) else (if f5 > 1000000 then (impl_isMsg.j1 k true f0 f1 f2 f3 f4 f5 f6 f7 l) else (if f6 < 0 then (impl_isMsg.j1 k true f0 f1 f2 f3 f4 f5 f6 f7 l) else (if f6 > 1000000 then (impl_isMsg.j1 k true f0 f1 f2 f3 f4 f5 f6 f7 l) else (impl_isMsg.j1 k (decide ((l.length : Int) > 10)) f0 f1 f2 f3 f4 f5 f6 f7 l)))))))))) r → Ev (fun k => impl_isMsg.j0 k false f0 f1 f2 f3 f4 f5 f6 f7 l) r := fun {r} h => by
    refine Ev.step (fun k => by rw [impl_isMsg.j0]) ?_
    exact ev_neg nt h
  have zz := i1 true rfl
  have yy := s1 true rfl
  by_cases k1 : f3 < 1
  · exact pre true h9 (Ev.bind (in_f (by omega)) (s0 _ rfl)) (ij (ev_pos k1 zz))
  by_cases k2 : f3 > 1000000
  · exact pre true h9 (Ev.bind (in_f (by omega)) (s0 _ rfl)) (ij (ev_neg k1 (ev_pos k2 zz)))
  have sj : ∀ {r : Bool}, Ev (fun k => ((spec_l01In.f f4 0 60).bind fun t115 => (if t115 = true then ((spec_l01In.f f5 0 1000000).bind fun t116 => (if t116 = true then ((spec_l01In.f f6 0 1000000).bind fun t117 => (if t117 = true then (spec_MsgOk.j1 k (decide ((l.length : Int) > 10)) f0 f1 f2 f3 f4 f5 f6 f7 l) else (spec_MsgOk.j1 k true f0 f1 f2 f3 f4 f5 f6 f7 l))) else (spec_MsgOk.j1 k true f0 f1 f2 f3 f4 f5 f6 f7 l))) else (spec_MsgOk.j1 k true f0 f1 f2 f3 f4 f5 f6 f7 l)))) r → Ev (fun k => (spec_l01In.f f3 1 1000000).bind fun t114 => spec_MsgOk.j0 k (!t114) f0 f1 f2 f3 f4 f5 f6 f7 l) r := fun {r} h => by
    refine Ev.bind (in_t (by omega)) ?_
    refine Ev.step (fun k => by rw [spec_MsgOk.j0]) ?_
    exact ev_neg (by simp) h
  by_cases k3 : f4 < 0
  · exact pre true h9 (sj (Ev.bind (in_f (by omega)) (ev_neg nt yy))) (ij (ev_neg k1 (ev_neg k2 (ev_pos k3 zz))))
  by_cases k4 : f4 > 60
  · exact pre true h9 (sj (Ev.bind (in_f (by omega)) (ev_neg nt yy))) (ij (ev_neg k1 (ev_neg k2 (ev_neg k3 (ev_pos k4 zz)))))
  by_cases k5 : f5 < 0
  · exact pre true h9 (sj (Ev.bind (in_t (by omega)) (ev_pos rfl (Ev.bind (in_f (by omega)) (ev_neg nt yy))))) (ij (ev_neg k1 (ev_neg k2 (ev_neg k3 (ev_neg k4 (ev_pos k5 zz))))))
  by_cases k6 : f5 > 1000000
  · exact pre true h9 (sj (Ev.bind (in_t (by omega)) (ev_pos rfl (Ev.bind (in_f (by omega)) (ev_neg nt yy))))) (ij (ev_neg k1 (ev_neg k2 (ev_neg k3 (ev_neg k4 (ev_neg k5 (ev_pos k6 zz)))))))
  by_cases k7 : f6 < 0
  · exact pre true h9 (sj (Ev.bind (in_t (by omega)) (ev_pos rfl (Ev.bind (in_t (by omega)) (ev_pos rfl (Ev.bind (in_f (by omega)) (ev_neg nt yy))))))) (ij (ev_neg k1 (ev_neg k2 (ev_neg k3 (ev_neg k4 (ev_neg k5 (ev_neg k6 (ev_pos k7 zz))))))))
  by_cases k8 : f6 > 1000000
  · exact pre true h9 (sj (Ev.bind (in_t (by omega)) (ev_pos rfl (Ev.bind (in_t (by omega)) (ev_pos rfl (Ev.bind (in_f (by omega)) (ev_neg nt yy))))))) (ij (ev_neg k1 (ev_neg k2 (ev_neg k3 (ev_neg k4 (ev_neg k5 (ev_neg k6 (ev_neg k7 (ev_pos k8 zz)))))))))
  refine pre (r := !decide ((l.length : Int) > 10) && (!l.any (impl_Entry.p f3) && endS f0 f4 f5 f6 l.length f7)) true h9 (sj (Ev.bind (in_t (by omega)) (ev_pos rfl (Ev.bind (in_t (by omega)) (ev_pos rfl (Ev.bind (in_t (by omega)) (ev_pos rfl ?_))))))) (ij (ev_neg k1 (ev_neg k2 (ev_neg k3 (ev_neg k4 (ev_neg k5 (ev_neg k6 (ev_neg k7 (ev_neg k8 ?_)))))))))
  · by_cases k9 : (l.length : Int) > 10
    · rw [decide_eq_true k9]; exact yy
    · rw [decide_eq_false k9, Bool.not_false, Bool.true_and]
      refine Ev.step (fun k => by rw [spec_MsgOk.j1]) ?_
      exact ev_neg nt (msgS_l l hl f0 f1 f2 f3 f4 f5 f6 f7 l.length 0 (by omega))
  · by_cases k9 : (l.length : Int) > 10
    · rw [decide_eq_true k9]; exact zz
    · rw [decide_eq_false k9, Bool.not_false, Bool.true_and]
      refine Ev.step (fun k => by rw [impl_isMsg.j1]) ?_
      refine ev_neg nt (Ev.bind (a := l.any (impl_Entry.p f3)) (ev_const rfl) ?_)
      cases l.any (impl_Entry.p f3) with
      | true => exact ev_pos rfl (Ev.now _)
      | false =>
        rw [Bool.not_false, Bool.true_and]
        exact ev_neg nt (ev_const (end_impl f0 f4 f5 f6 l.length f7 (by omega) (by omega)))

theorem FnExactMsgOk : Stated := by
  rintro ⟨f0, f1, f2, f3, f4, f5, f6, f7, l⟩ n ⟨_, _, _, _, _, _, _, _, wl, we⟩ _
  refine Ev.rounds (?_ : Ev (fun k => laws_FnExactMsgOk.f k f0 f1 f2 f3 f4 f5 f6 f7 l n) true)
  obtain ⟨r, hr, r1, r2⟩ := szEntS_ev l wl (fun x hx => (we x hx).2) 1048576 (by omega) (by omega)
  unfold laws_FnExactMsgOk.f
  by_cases h0 : r < 0
  · refine Ev.bind (a := -1) ?_ (ev_pos (by omega) (Ev.now _))
    exact Ev.bind hr (ev_pos h0 (Ev.now _))
  have hl := r2 (by omega)
  have hT : Ev (fun k => laws_toMsg.f k f0 f1 f2 f3 f4 f5 f6 f7 l) (f0, f1, f2, f3, f4, f5, f6, f7, l.map conv) := Ev.bind (toEntS_ev l hl) (Ev.now _)
  obtain ⟨z, hz1, hz2⟩ := msg_ev (l.map conv) (by simpa using hl) f0 f1 f2 f3 f4 f5 f6 f7 n
  have hE : Ev (fun k => laws_eqMsg.f k f0 f1 f2 f3 f4 f5 f6 f7 (l.map conv) f0 f1 f2 f3 f4 f5 f6 f7 (l.map conv)) true := by
    unfold laws_eqMsg.f
    refine ev_pos rfl (ev_pos rfl (ev_pos rfl (ev_pos rfl (ev_pos rfl (ev_pos rfl (ev_pos rfl (ev_neg (by simp) (Ev.bind (eqEntS_ev _ (by simpa using hl)) (ev_pos rfl (Ev.now _))))))))))
  refine Ev.bind (a := r) (Ev.bind hr (ev_neg h0 (Ev.now _))) (ev_neg h0 (Ev.bind hT (Ev.bind hz1 (Ev.bind hT (Ev.bind (a := z) (Ev.bind hz2 (Ev.now _)) (ev_neg (by simp) (Ev.bind hT (Ev.bind hE (ev_pos rfl (Ev.now _))))))))))

end Go.Proofs.Ytkcadcoohmofcaa.Pure
