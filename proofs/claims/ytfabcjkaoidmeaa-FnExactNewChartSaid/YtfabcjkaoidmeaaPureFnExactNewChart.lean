/- The program's NewChart and the reference's answer alike at every group, and the answer owns its memory. No condition. -/
import Derived.Test.YtfabcjkaoidmeaaOpnFnExactNewChart
import Derived.Test.YtfabcjkaoidmeaaBase
namespace Go.Proofs.Ytfabcjkaoidmeaa.Pure
open Go.RowKit Go.Proofs.Ytfabcjkaoidmeaa.QFnExactNewChart Go.Proofs.Ytfabcjkaoidmeaa.OpnFnExactNewChart Go.Proofs.Ytfabcjkaoidmeaa.Base Go.Proofs.YtfabcjkaoidmeaaW.PrintWords Go.Proofs.YtfabcjkaoidmeaaW.PrintLast
set_option linter.unusedVariables false

theorem eqRangeS_l (l : List S26) (hl : l.length ≤ 1048576) (d : Nat) : ∀ (i : Nat), l.length = i + d → Ev (fun k => laws_eqRangeS.l0 k l l i) true := by
  induction d with
  | zero =>
    intro i hd
    refine Ev.step (fun k => by rw [laws_eqRangeS.l0]) ?_
    exact ev_neg (by omega) (Ev.now _)
  | succ d ih =>
    intro i hd
    refine Ev.step (fun k => by rw [laws_eqRangeS.l0]) ?_
    refine ev_pos (by omega) (ev_pos (by omega) (ev_pos (by omega) ?_))
    refine Ev.bind (a := true) (ev_const (by unfold laws_eqRange.f; rw [if_pos rfl, if_pos rfl, if_pos rfl])) ?_
    refine ev_pos rfl ?_
    rw [wsucc (n := l.length) (by omega) (by omega)]
    exact ih (i + 1) (by omega)
theorem eqRangeS_ev (l : List S26) (hl : l.length ≤ 1048576) : Ev (fun k => laws_eqRangeS.f k l l) true := by
  unfold laws_eqRangeS.f
  refine ev_pos rfl ?_
  exact eqRangeS_l l hl l.length 0 (by omega)

theorem rd_set_self (xs : List S26) (i : Nat) (v : S26) (h : i < xs.length) : rd_T26 (xs.set i v) (i : Int) = v := by
  unfold rd_T26
  rw [toNat_cast, getD_lt _ _ _ (by simpa using h), List.getElem_set_self]
theorem mark_l (d : Nat) : ∀ (i : Nat) (xs : List S26) (c : Int), xs.length = i + d → xs.length ≤ 1048576 → 0 ≤ c → c ≤ 1 + 3 * (i : Int) →
    ∃ m ys, Ev (fun k => laws_markRangeS.l0 k xs c i) (m, ys) ∧ ys.length = xs.length ∧ 0 ≤ m ∧ (∀ j, j < i → ys[j]? = xs[j]?) ∧ Ev (fun k => laws_heldRangeS.l0 k ys c i) m := by
  induction d with
  | zero =>
    intro i xs c hd hl h0 h1
    refine ⟨c, xs, ?_, rfl, h0, fun _ _ => rfl, ?_⟩
    · refine Ev.step (fun k => by rw [laws_markRangeS.l0]) ?_
      exact ev_neg (by omega) (Ev.now _)
    · refine Ev.step (fun k => by rw [laws_heldRangeS.l0]) ?_
      exact ev_neg (by omega) (Ev.now _)
  | succ d ih =>
    intro i xs c hd hl h0 h1
    obtain ⟨m, ys, hm, hy, hm0, hk, hh⟩ := ih (i + 1) (xs.set i ⟨IntKind.u64.wrap c, IntKind.u64.wrap (wrap64 (c + 1)), wrap64 (wrap64 (c + 1) + 1)⟩) (c + 3) (by simp; omega) (by simpa using hl) (by omega) (by omega)
    have e1 : wrap64 (wrap64 (wrap64 (c + 1) + 1) + 1) = c + 3 := by unfold wrap64; omega
    refine ⟨m, ys, ?_, by simpa using hy, hm0, fun j hj => ?_, ?_⟩
    · refine Ev.step (fun k => by rw [laws_markRangeS.l0]) ?_
      refine ev_pos (by omega) (ev_pos (by omega) ?_)
      refine Ev.bind (Ev.now _) (Ev.bind (Ev.now _) ?_)
      rw [toNat_cast, rd_set_self _ _ _ (by omega), List.set_set, rd_set_self _ _ _ (by simpa using (show i < xs.length by omega)), List.set_set, e1, wsucc (n := xs.length) (by omega) (by omega)]
      exact hm
    · rw [hk j (by omega), List.getElem?_set_ne (by omega)]
    · have hi : rd_T26 ys (i : Int) = ⟨IntKind.u64.wrap c, IntKind.u64.wrap (wrap64 (c + 1)), wrap64 (wrap64 (c + 1) + 1)⟩ := by
        unfold rd_T26
        rw [toNat_cast, List.getD_eq_getElem?_getD, hk i (by omega), List.getElem?_set_self (by omega)]
        rfl
      have hyl : ys.length = xs.length := by simpa using hy
      refine Ev.step (fun k => by rw [laws_heldRangeS.l0]) ?_
      refine ev_pos (by omega) (ev_pos (by omega) ?_)
      rw [hi]
      refine ev_pos rfl (ev_pos rfl (ev_pos rfl ?_))
      rw [e1, wsucc (n := ys.length) (by omega) (by omega)]
      exact hh
theorem mark_ev (xs : List S26) (hl : xs.length ≤ 1048576) : ∃ m ys, Ev (fun k => laws_markRangeS.f k xs 1) (m, ys) ∧ 0 ≤ m ∧ Ev (fun k => laws_heldRangeS.f k ys 1) m := by
  obtain ⟨m, ys, h1, _, h2, _, h3⟩ := mark_l xs.length 0 xs 1 (by omega) hl (by omega) (by omega)
  exact ⟨m, ys, h1, h2, h3⟩

theorem FnExactNewChart : Stated := by
  intro g _
  refine Ev.rounds (?_ : Ev (fun k => laws_FnExactNewChart.f k g) true)
  have key : ∃ r : Int × List S26 × Bool × Int × Int, spec_NewChart.f g = some r ∧ impl_NewChart.f g = some r ∧ r.2.1.length ≤ 1048576 := by
    unfold spec_NewChart.f impl_NewChart.f spec_l01In.f impl_isGroupId.f
    by_cases h : 0 ≤ g
    · rw [if_pos h]
      simp only [Option.bind_some]
      by_cases h2 : g ≤ 99
      · exact ⟨_, by rw [if_pos (by simpa using h2)], by rw [if_pos (by simpa using h2)], by simp⟩
      · exact ⟨_, by rw [if_neg (by simpa using h2)], by rw [if_neg (by simpa using h2)], by simp⟩
    · rw [if_neg h]
      exact ⟨_, by rw [Option.bind_some, if_neg (by simp)], by rw [Option.bind_some, if_neg (by simp)], by simp⟩
  obtain ⟨r, h1, h2, hl⟩ := key
  have heq : Ev (fun k => laws_eqChart.f k r.1 r.2.1 r.2.2.1 r.2.2.2.1 r.2.2.2.2 r.1 r.2.1 r.2.2.1 r.2.2.2.1 r.2.2.2.2) true := by
    unfold laws_eqChart.f
    exact ev_pos rfl (Ev.bind (eqRangeS_ev _ hl) (ev_pos rfl (ev_neg (by simp) (ev_pos rfl (ev_pos rfl (Ev.now _))))))
  obtain ⟨m, ys, hm1, hm2, hm3⟩ := mark_ev r.2.1 hl
  have hmark : Ev (fun k => laws_markChart.f k r.1 r.2.1 r.2.2.1 r.2.2.2.1 r.2.2.2.2 1) (m, ys) := by
    unfold laws_markChart.f
    exact Ev.bind hm1 (Ev.now _)
  have hheld : Ev (fun k => laws_heldChart.f k r.1 ys r.2.2.1 r.2.2.2.1 r.2.2.2.2 1) m := by
    unfold laws_heldChart.f
    exact Ev.bind hm3 (ev_neg (by omega) (Ev.now _))
  unfold laws_FnExactNewChart.f
  refine Ev.bind (ev_const h1) (Ev.bind (ev_const h2) (Ev.bind heq (ev_pos rfl ?_)))
  refine Ev.bind hmark (Ev.bind hheld (ev_neg (by omega) (ev_pos rfl ?_)))
  refine Ev.bind (ev_const h2) (Ev.bind heq (ev_pos rfl (Ev.bind hheld (ev_neg (by omega) (ev_pos rfl (Ev.now _))))))

end Go.Proofs.Ytfabcjkaoidmeaa.Pure
