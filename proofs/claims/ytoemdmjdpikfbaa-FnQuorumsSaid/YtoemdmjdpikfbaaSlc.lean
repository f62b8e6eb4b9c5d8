/- Rows of flat elements (no row inside an element): clear, copy, overlaps and stores at cells, and how a row reads before and behind them. No condition. -/
import Derived.Test.YtoemdmjdpikfbaaWMore
import Derived.Test.YtoemdmjdpikfbaaWKept
import Derived.Lib.SliceRun
import Derived.Lib.Overlaps
import Derived.Lib.AppendZerosOnto
import Derived.Lib.JoinLaws
import Derived.Laws.IdiomCopy
import Derived.Laws.NewBlocks
import Derived.Laws.Externs
namespace Go.Proofs.Ytoemdmjdpikfbaa.Slc
open Go Go.RowKit Go.Lib Go.Proofs.YtoemdmjdpikfbaaW.PrintWords

theorem setCell_drewN (w : World) (n : Nat) (p : Addr) (v : Value) : (w.drewN n).setCell p v = World.drewN (w.setCell p v) n := rfl
theorem cell_of {W W' : World} {n : Nat} {p : Addr} {v : Option Value} (e : W = World.drewN W' n) (h : W'.cell? p = v) : W.cell? p = v := by rw [e]; exact h

theorem zero_one (zs : Array Value) : Builtin.zeroCells zs 1 = zs := by
  unfold Builtin.zeroCells
  apply Array.ext
  · simp
  · intro i h1 h2
    simp [Nat.mod_eq_of_lt h2, h2]

theorem run_clear_one {P : Program} (w : World) (t e ty : TypeId) (z : Value) (ht : P.underlying t = some (.slice e)) (hv : ∀ w, (zeroValue e).run P w = .ok z w) (b o c : Nat) (h1 : ∀ v ∈ z.cells.toList, v.oneCell' = true)
    (hc : ∀ j, j < z.cells.toList.length → (w.cell? ⟨b, o + j, none⟩).isSome = true) (hf : ∀ j, j < z.cells.toList.length → w.frozen? ⟨b, o + j, none⟩ = false) :
    (Builtin.clear_ #[t] ty #[.slice (some ⟨b, o, none⟩) 1 c]).run P w = .ok (.tuple #[]) (w.setCells b o z.cells.toList) := by
  have hst := run_storeCells_cells (P := P) b o z.cells.toList 0 w (by simpa using hc) (by simpa using hf) h1
  simp only [Nat.add_zero] at hst
  simp [Builtin.clear_, run_underlying ht, hv, zero_one, hst]

theorem run_copy_k {P : Program} (w : World) (dT sT ty elem : TypeId) (sz b o dLen dCap : Nat) (a : Addr) (sLen sCap : Nat) (cs : List Value) (m : Nat)
    (hu : P.underlying dT = some (.slice elem)) (hs : (P.info? elem).map (·.size) = some sz) (hm : m = Nat.min sLen dLen) (hn : cs.length = m * sz)
    (hsrc : ∀ j v, cs[j]? = some v → w.cell? (a.add j) = some v) (hc : ∀ j, j < cs.length → (w.cell? ⟨b, o + j, none⟩).isSome = true) (hf : ∀ j, j < cs.length → w.frozen? ⟨b, o + j, none⟩ = false) (h1 : ∀ v ∈ cs, v.oneCell' = true) :
    (Builtin.copy_ #[dT, sT] ty #[.slice (some ⟨b, o, none⟩) dLen dCap, .slice (some a) sLen sCap]).run P w = .ok (goInt m) (w.setCells b o cs) := by
  have hl := run_loadCells_list (P := P) w a cs hsrc
  have hst := run_storeCells_cells (P := P) b o cs 0 w (by simpa using hc) (by simpa using hf) h1
  cases hq : P.info? elem with
  | none => simp [hq] at hs
  | some i =>
    have hi : i.size = sz := by simpa [hq] using hs
    simp [Builtin.copy_, run_underlying hu, Builtin.lenOf, Builtin.firstCells, sizeOf, typeInfo, hq, hi, ← hm, ← hn, hl, hst]

theorem setCells_blk (g : Nat) (t : TypeId) : ∀ (vs : List Value) (o : Nat) (w : World) (cur : Array Value), w.heap[g]? = some (.cells cur t (0, 0)) →
    ∃ cur', (w.setCells g o vs).heap[g]? = some (.cells cur' t (0, 0)) ∧ cur'.size = cur.size ∧ (∀ j, j < o ∨ o + vs.length ≤ j → cur'[j]? = cur[j]?) ∧ (∀ j, j < vs.length → o + j < cur.size → cur'[o + j]? = vs[j]?)
  | [], o, w, cur, h => ⟨cur, h, rfl, fun _ _ => rfl, fun j hj => absurd hj (Nat.not_lt_zero _)⟩
  | v :: r, o, w, cur, h => by
    obtain ⟨cur', h1, h2, h3, h4⟩ := setCells_blk g t r (o + 1) (w.setCell ⟨g, o, none⟩ v) _ (blk_set h o v)
    refine ⟨cur', h1, by rw [h2]; simp, fun j hj => ?_, fun j hj hs => ?_⟩
    · simp only [List.length_cons] at hj
      rw [h3 j (by omega), Array.getElem?_setIfInBounds_ne (by omega)]
    · cases j with
      | zero =>
        rw [h3 _ (.inl (by omega))]
        simp only [Nat.add_zero] at hs ⊢
        rw [Array.getElem?_setIfInBounds_self_of_lt hs]
        rfl
      | succ j =>
        have := h4 j (by simpa using hj) (by simp; omega)
        rw [show o + (j + 1) = o + 1 + j by omega]
        simpa using this

theorem setCells_other (g : Nat) : ∀ (vs : List Value) (o : Nat) (w : World) (i : Nat), i ≠ g → (w.setCells g o vs).heap[i]? = w.heap[i]?
  | [], _, _, _, _ => rfl
  | v :: r, o, w, i, h => (setCells_other g r (o + 1) (w.setCell ⟨g, o, none⟩ v) i h).trans (Below.heap_setCell w ⟨g, o, none⟩ v i h)

theorem setCells_size (g : Nat) : ∀ (vs : List Value) (o : Nat) (w : World), (w.setCells g o vs).heap.size = w.heap.size
  | [], _, _ => rfl
  | v :: r, o, w => (setCells_size g r (o + 1) (w.setCell ⟨g, o, none⟩ v)).trans (by simp [World.setCell])

theorem kept_setCells {w W : World} {S : Nat → Prop} {g : Nat} (hg : S g ∨ w.heap.size ≤ g) : ∀ (vs : List Value) (o : Nat), Kept w W S → Kept w (W.setCells g o vs) S := by
  intro vs
  induction vs generalizing W with
  | nil => exact fun _ h => h
  | cons v r ih => exact fun o h => ih (o + 1) (h.setCell (p := ⟨g, o, none⟩) hg v)

theorem below_setCells {w W : World} {g : Nat} (hg : w.heap.size ≤ g) : ∀ (vs : List Value) (o : Nat), Below w.heap.size w W → Below w.heap.size w (W.setCells g o vs) := by
  intro vs
  induction vs generalizing W with
  | nil => exact fun _ h => h
  | cons v r ih => exact fun o h => ih (o + 1) (below_set h hg)

structure Flat {α : Type} (d : Kd α) (enc : α → List Value) : Prop where
  made : ∀ (w : World) (base : Nat) (ok : Nat → Prop) (x : α), d.M w base ok x (enc x)
  opened : ∀ {w : World} {x : α} {cs : List Value}, d.K w x cs → cs = enc x

section
variable {α : Type} {d : Kd α} {enc : α → List Value} {e : TypeId} {w : World} {base : Nat} {ok : Nat → Prop} {xs : List α} {v : Value}
theorem Flat.len (F : Flat d enc) (x : α) : (enc x).length = d.sz := d.K_len (d.K_of_M (F.made { heap := #[], tape := fun _ _ => 0, drawn := 0, os := default, output := #[] } 0 (fun _ => True) x))
theorem Flat.one (F : Flat d enc) (x : α) : ∀ u ∈ enc x, u.oneCell' = true := d.K_one (d.K_of_M (F.made { heap := #[], tape := fun _ _ => 0, drawn := 0, os := default, output := #[] } 0 (fun _ => True) x))

/-- The cells of xs, one element behind the other. -/
def cellsOf (enc : α → List Value) (xs : List α) : List Value := xs.flatMap enc
theorem Flat.cells_len (F : Flat d enc) (xs : List α) : (cellsOf enc xs).length = xs.length * d.sz := by
  induction xs with
  | nil => simp [cellsOf]
  | cons x xs ih =>
    simp only [cellsOf, List.flatMap_cons, List.length_append, List.length_cons] at ih ⊢
    rw [ih, F.len x, Nat.add_mul]
    omega
theorem Flat.cells_one (F : Flat d enc) (xs : List α) : ∀ u ∈ cellsOf enc xs, u.oneCell' = true := fun u hu => by
  obtain ⟨x, _, hx⟩ := List.mem_flatMap.1 hu
  exact F.one x u hx
theorem Flat.cells_take (F : Flat d enc) (xs : List α) (i : Nat) : cellsOf enc (xs.take i) = (cellsOf enc xs).take (i * d.sz) := by
  induction xs generalizing i with
  | nil => simp [cellsOf]
  | cons x xs ih =>
    cases i with
    | zero => simp [cellsOf]
    | succ i =>
      have h := ih i
      simp only [cellsOf] at h
      simp only [cellsOf, List.take_succ_cons, List.flatMap_cons]
      rw [h, List.take_append, F.len x, List.take_of_length_le (l := enc x) (by rw [F.len x, Nat.add_mul]; omega), show (i + 1) * d.sz - d.sz = i * d.sz by rw [Nat.add_mul]; omega]
theorem Flat.cells_drop (F : Flat d enc) (xs : List α) (i : Nat) : cellsOf enc (xs.drop i) = (cellsOf enc xs).drop (i * d.sz) := by
  induction xs generalizing i with
  | nil => simp [cellsOf]
  | cons x xs ih =>
    cases i with
    | zero => simp [cellsOf]
    | succ i =>
      have h := ih i
      simp only [cellsOf] at h
      simp only [cellsOf, List.drop_succ_cons, List.flatMap_cons]
      rw [h, List.drop_append, F.len x, List.drop_of_length_le (l := enc x) (by rw [F.len x, Nat.add_mul]; omega), show (i + 1) * d.sz - d.sz = i * d.sz by rw [Nat.add_mul]; omega, List.nil_append]

/-- A row of the call's own whose block is known. -/
theorem Flat.row (F : Flat d enc) {g n cap : Nat} {cur : Array Value} (hb : w.heap[g]? = some (.cells cur e (0, 0))) (hg : base ≤ g) (hok : ok g) (hn : xs.length = n) (hc : n ≤ cap) (hm : cap ≤ maxLen) (hs : cur.size = cap * d.sz)
    (ht : cur.toList.take (n * d.sz) = cellsOf enc xs) : d.R e w base ok (.slice (some ⟨g, 0, none⟩) n cap) xs := by
  refine ⟨fun k hk => ?_, cellsOf enc xs, ⟨by rw [F.cells_len], .inr ⟨g, cap, cur, by rw [hn], hg, hb, by rw [hn]; exact hc, hm, hs, by rw [hn]; exact ht⟩⟩, by rw [F.cells_len], fun j p hj => ?_⟩
  · have : g = k := by simpa [Value.ownBlock] using hk
    subst this
    exact hok
  · have hlt : j < xs.length := (List.getElem?_eq_some_iff.1 hj).1
    have e1 : ((cellsOf enc xs).drop (j * d.sz)).take d.sz = enc p := by
      rw [← F.cells_drop, List.drop_eq_getElem_cons hlt]
      simp only [cellsOf, List.flatMap_cons]
      have hp : xs[j] = p := by
        rw [List.getElem?_eq_getElem hlt] at hj
        injection hj
      rw [hp, List.take_append_of_le_length (by rw [F.len]; exact Nat.le_refl _), List.take_of_length_le (by rw [F.len]; exact Nat.le_refl _)]
    rw [e1]
    exact F.made _ _ _ _

/-- .. and back. -/
theorem Flat.blockG (F : Flat d enc) {g n cap : Nat} (h : d.R e w base ok (.slice (some ⟨g, 0, none⟩) n cap) xs) : n = xs.length ∧ base ≤ g ∧ ok g ∧ n ≤ cap ∧ cap ≤ maxLen ∧ ∃ cur, w.heap[g]? = some (.cells cur e (0, 0)) ∧ cur.size = cap * d.sz ∧ cur.toList.take (xs.length * d.sz) = cellsOf enc xs := by
  obtain ⟨h0, inner, ⟨hl, ho⟩, hr⟩ := h
  rcases ho with ⟨he, hz⟩ | ⟨g', cap', cur, he, hg, hb, hc, hm, hs, ht⟩
  · cases he
  · injection he with e1 e2 e3
    injection e1 with e1
    injection e1 with e1
    subst e1 e2 e3
    refine ⟨rfl, hg, h0 g (by simp [Value.ownBlock]), hc, hm, cur, hb, hs, ?_⟩
    rw [ht]
    apply List.ext_getElem?
    intro q
    by_cases hz : d.sz = 0
    · rw [List.eq_nil_of_length_eq_zero (by rw [hl, hz]; rfl : inner.length = 0), List.eq_nil_of_length_eq_zero (by rw [F.cells_len, hz]; rfl : (cellsOf enc xs).length = 0)]
    by_cases hq : q < xs.length * d.sz
    · have hj : q / d.sz < xs.length := Nat.div_lt_of_lt_mul (by rw [Nat.mul_comm]; exact hq)
      have hx : xs[q / d.sz]? = some xs[q / d.sz] := List.getElem?_eq_getElem hj
      have h1 := F.opened (d.K_of_M (hr.2 _ _ hx))
      have h2 : ((cellsOf enc xs).drop (q / d.sz * d.sz)).take d.sz = enc xs[q / d.sz] := by
        rw [← F.cells_drop, List.drop_eq_getElem_cons hj]
        simp only [cellsOf, List.flatMap_cons]
        rw [List.take_append_of_le_length (by rw [F.len]; exact Nat.le_refl _), List.take_of_length_le (by rw [F.len]; exact Nat.le_refl _)]
      have hmod : q % d.sz < d.sz := Nat.mod_lt _ (by omega)
      have hqe : q = q / d.sz * d.sz + q % d.sz := by rw [Nat.mul_comm]; exact (Nat.div_add_mod q d.sz).symm
      have a1 : inner[q]? = (enc xs[q / d.sz])[q % d.sz]? := by
        rw [← h1, List.getElem?_take_of_lt hmod, List.getElem?_drop, ← hqe]
      have a2 : (cellsOf enc xs)[q]? = (enc xs[q / d.sz])[q % d.sz]? := by
        rw [← h2, List.getElem?_take_of_lt hmod, List.getElem?_drop, ← hqe]
      rw [a1, a2]
    · rw [List.getElem?_eq_none (by rw [hl]; omega), List.getElem?_eq_none (by rw [F.cells_len]; omega)]
theorem Flat.block (F : Flat d enc) (h : d.R e w base ok v xs) (hp : 0 < xs.length) : ∃ g cap cur, v = .slice (some ⟨g, 0, none⟩) xs.length cap ∧ base ≤ g ∧ ok g ∧ w.heap[g]? = some (.cells cur e (0, 0)) ∧ xs.length ≤ cap ∧ cap ≤ maxLen ∧ cur.size = cap * d.sz ∧ cur.toList.take (xs.length * d.sz) = cellsOf enc xs := by
  obtain ⟨g, cap, rfl, _⟩ := Kd.R_form h hp
  obtain ⟨_, h1, h2, h3, h4, cur, h5, h6, h7⟩ := F.blockG h
  exact ⟨g, cap, cur, rfl, h1, h2, h5, h3, h4, h6, h7⟩
end
/-- copy, where its run is known, as a step of a region that draws .. -/
theorem step_copy {P : Program} {ops : Array Oper} {o : Oper} {a : Act} {w : World} {K : Act → World → Prop} {Q : Exit → Act → World → Prop} {E : Prop}
    (hg : o.guard = none) (d x : Operand) (dT sT : TypeId) (hop : o.op = Op.call { callee := Callee.builtin Builtin.copy, args := #[d, x], argTypes := #[dT, sT] })
    (v u : Value) (hd : a.eval d = v) (hx : a.eval x = u) {v' : Value} {w' : World} (hr : (Builtin.copy_ #[dT, sT] o.type #[v, u]).run P w = .ok v' w') (hK : K (a.put o.dst v') w') :
    if Region.wanted o (yielded ops a.tmps) = true then Oper.wp P o a w K Q else E := by
  have hw : Region.wanted o (yielded ops a.tmps) = true := by simp [Region.wanted, hg]
  rw [if_pos hw]
  unfold Oper.wp
  simp [execOp, hop, resolve, invoke, builtin, hd, hx, hr, Result.andThen]
  exact hK

/-- .. and of one that does not. -/
theorem list_copy {P : Program} (w : World) {ops : Array Oper} {rest : List Oper} {o : Oper} {a : Act} {Q : Exit → Act → World → Prop} (hgd : o.guard = none) (d s : Operand) (t t' : TypeId)
    (ho : o.op = .call { callee := .builtin .copy, args := #[d, s], argTypes := #[t, t'] }) (v u : Value) (hd : a.eval d = v) (hs : a.eval s = u) {v' : Value} {w' : World}
    (hr : (Builtin.copy_ #[t, t'] o.type #[v, u]).run P w = .ok v' w') (h : wpList P ops Q rest (a.put o.dst v') w') : wpList P ops Q (o :: rest) a w :=
  wpList_plain hgd fun _ hK => by
    unfold Oper.wp execOp
    simp only [ho, resolve, invoke, builtin, Sem.run_bind, Sem.run_pure, Result.andThen_ok, List.map_toArray, List.map_cons, List.map_nil, hd, hs, hr]
    exact hK _ _ h

section
variable {α : Type} {d : Kd α} {enc : α → List Value} {xs : List α}
/-- A row with one more element at place i. -/
theorem Flat.ins_cells (F : Flat d enc) {n i : Nat} {y : α} {cur : Array Value} (hn : xs.length = n) (hi : i ≤ n)
    (h1 : ∀ q, q < i * d.sz → cur[q]? = (cellsOf enc xs)[q]?) (h2 : ∀ j, j < d.sz → cur[i * d.sz + j]? = (enc y)[j]?) (h3 : ∀ j, j < (n - i) * d.sz → cur[(i + 1) * d.sz + j]? = (cellsOf enc xs)[i * d.sz + j]?) :
    cur.toList.take ((n + 1) * d.sz) = cellsOf enc (xs.take i ++ y :: xs.drop i) := by
  have hc : cellsOf enc (xs.take i ++ y :: xs.drop i) = (cellsOf enc xs).take (i * d.sz) ++ (enc y ++ (cellsOf enc xs).drop (i * d.sz)) := by
    rw [← F.cells_take, ← F.cells_drop]
    simp [cellsOf]
  rw [hc]
  have hL := F.cells_len xs
  have hE := F.len y
  have e1 : (n + 1) * d.sz = n * d.sz + d.sz := by rw [Nat.add_mul]; omega
  have e2 : (i + 1) * d.sz = i * d.sz + d.sz := by rw [Nat.add_mul]; omega
  have e3 : (n - i) * d.sz = n * d.sz - i * d.sz := Nat.sub_mul n i d.sz
  have e4 : i * d.sz ≤ n * d.sz := Nat.mul_le_mul_right _ hi
  rw [hn] at hL
  rw [e1]
  rw [e2, e3] at h3
  generalize i * d.sz = A at *
  generalize n * d.sz = B at *
  generalize d.sz = s at *
  have hT : ((cellsOf enc xs).take A).length = A := by rw [List.length_take]; omega
  apply List.ext_getElem?
  intro q
  by_cases hq : q < B + s
  · rw [List.getElem?_take_of_lt hq, Array.getElem?_toList]
    by_cases hq1 : q < A
    · rw [h1 q hq1, List.getElem?_append_left (by omega), List.getElem?_take_of_lt hq1]
    · rw [List.getElem?_append_right (by omega), hT]
      by_cases hq2 : q < A + s
      · rw [List.getElem?_append_left (by omega), ← h2 (q - A) (by omega)]
        congr 1; omega
      · rw [List.getElem?_append_right (by omega), List.getElem?_drop, hE]
        have := h3 (q - (A + s)) (by omega)
        have e5 : A + s + (q - (A + s)) = q := by omega
        rw [e5] at this
        rw [this]
        congr 1; omega
  · rw [List.getElem?_eq_none (by rw [List.length_take]; omega), List.getElem?_eq_none (by simp only [List.length_append, List.length_drop]; omega)]
end
section
variable {α : Type} {d : Kd α} {enc : α → List Value} {e : TypeId} {w w' : World} {base : Nat} {ok : Nat → Prop} {xs : List α}
/-- The cells of element i. -/
theorem flat_elem (F : Flat d enc) {g n cap i : Nat} {cur : Array Value} (h : d.R e w base ok (.slice (some ⟨g, 0, none⟩) n cap) xs) (hb : w.heap[g]? = some (.cells cur e (0, 0))) (hi : i < xs.length) (z : α) (j : Nat) (hj : j < d.sz) : cur[i * d.sz + j]? = (enc (xs.getD i z))[j]? := by
  obtain ⟨_, _, _, _, _, cur', hb', _, ht⟩ := F.blockG h
  rw [hb] at hb'
  injection hb' with hb'
  injection hb' with hb'
  subst hb'
  have h1 : (i + 1) * d.sz ≤ xs.length * d.sz := Nat.mul_le_mul_right _ hi
  have e1 : (i + 1) * d.sz = i * d.sz + d.sz := by rw [Nat.add_mul]; omega
  have h2 : cur[i * d.sz + j]? = (cellsOf enc xs)[i * d.sz + j]? := by
    rw [← ht, List.getElem?_take_of_lt (by omega), Array.getElem?_toList]
  have h3 : (cellsOf enc xs)[i * d.sz + j]? = ((cellsOf enc xs).drop (i * d.sz))[j]? := by rw [List.getElem?_drop]
  rw [h2, h3, ← F.cells_drop, List.drop_eq_getElem_cons hi]
  simp only [cellsOf, List.flatMap_cons]
  rw [List.getElem?_append_left (by rw [F.len]; exact hj), List.getD_eq_getElem?_getD, List.getElem?_eq_getElem hi]
  rfl
/-- A row whose element i is written anew. -/
theorem flat_upd (F : Flat d enc) {g n cap i : Nat} {y : α} {cur cur' : Array Value} (h : d.R e w base ok (.slice (some ⟨g, 0, none⟩) n cap) xs) (hi : i < xs.length) (hb : w.heap[g]? = some (.cells cur e (0, 0))) (hb' : w'.heap[g]? = some (.cells cur' e (0, 0))) (hs : cur'.size = cur.size)
    (h1 : ∀ j, j < d.sz → cur'[i * d.sz + j]? = (enc y)[j]?) (h2 : ∀ q, q < i * d.sz ∨ i * d.sz + d.sz ≤ q → cur'[q]? = cur[q]?) : d.R e w' base ok (.slice (some ⟨g, 0, none⟩) n cap) (xs.set i y) := by
  obtain ⟨hn, hg, hok, hc, hm, cur0, hb0, hs0, ht⟩ := F.blockG h
  rw [hb] at hb0
  injection hb0 with hb0
  injection hb0 with hb0
  subst hb0
  refine F.row hb' hg hok (by rw [List.length_set]; exact hn.symm) hc hm (hs.trans hs0) ?_
  have hL := F.cells_len xs
  have hE := F.len y
  have e2 : (i + 1) * d.sz = i * d.sz + d.sz := by rw [Nat.add_mul]; omega
  have e4 : (i + 1) * d.sz ≤ xs.length * d.sz := Nat.mul_le_mul_right _ hi
  have hc : cellsOf enc (xs.set i y) = (cellsOf enc xs).take (i * d.sz) ++ (enc y ++ (cellsOf enc xs).drop (i * d.sz + d.sz)) := by
    rw [← e2, ← F.cells_take, ← F.cells_drop, List.set_eq_take_append_cons_drop, if_pos hi]
    simp [cellsOf]
  rw [hc, hn]
  generalize i * d.sz = A at *
  generalize xs.length * d.sz = B at *
  generalize d.sz = s at *
  have hT : ((cellsOf enc xs).take A).length = A := by rw [List.length_take]; omega
  have hq0 : ∀ q, q < B → cur[q]? = (cellsOf enc xs)[q]? := fun q hq => by rw [← ht, List.getElem?_take_of_lt hq, Array.getElem?_toList]
  apply List.ext_getElem?
  intro q
  by_cases hq : q < B
  · rw [List.getElem?_take_of_lt hq, Array.getElem?_toList]
    by_cases hq1 : q < A
    · rw [h2 q (.inl hq1), hq0 q hq, List.getElem?_append_left (by omega), List.getElem?_take_of_lt hq1]
    · rw [List.getElem?_append_right (by omega), hT]
      by_cases hq2 : q < A + s
      · rw [List.getElem?_append_left (by omega), ← h1 (q - A) (by omega)]
        congr 1; omega
      · rw [List.getElem?_append_right (by omega), List.getElem?_drop, hE, h2 q (.inr (by omega)), hq0 q hq]
        congr 1; omega
  · rw [List.getElem?_eq_none (by rw [List.length_take]; omega), List.getElem?_eq_none (by simp only [List.length_append, List.length_drop]; omega)]
end
/-- The place of the first element that p holds of, -1 for none. -/
def idxB {α : Type} (p : α → Bool) (xs : List α) : Int := match xs.findIdx? p with | some i => (i : Int) | none => -1
theorem idxB_hit {α : Type} (p : α → Bool) (xs : List α) (z : α) (i : Nat) (hi : i < xs.length) (h : p (xs.getD i z) = true) (hb : ∀ j, j < i → p (xs.getD j z) = false) : idxB p xs = (i : Int) := by
  have e : xs.findIdx? p = some i := by
    rw [List.findIdx?_eq_some_iff_getElem]
    refine ⟨hi, ?_, fun j hj => ?_⟩
    · rw [List.getD_eq_getElem?_getD, List.getElem?_eq_getElem hi] at h
      exact h
    · have := hb j hj
      rw [List.getD_eq_getElem?_getD, List.getElem?_eq_getElem (by omega)] at this
      simpa using this
  unfold idxB
  rw [e]
theorem idxB_miss {α : Type} (p : α → Bool) (xs : List α) (z : α) (hb : ∀ j, j < xs.length → p (xs.getD j z) = false) : idxB p xs = -1 := by
  have e : xs.findIdx? p = none := by
    rw [List.findIdx?_eq_none_iff]
    intro x hx
    obtain ⟨j, hj, rfl⟩ := List.mem_iff_getElem.1 hx
    have := hb j hj
    rw [List.getD_eq_getElem?_getD, List.getElem?_eq_getElem hj] at this
    exact this
  unfold idxB
  rw [e]
theorem idxB_any {α : Type} (p : α → Bool) (xs : List α) : decide (0 ≤ idxB p xs) = xs.any p := by
  unfold idxB
  cases h : xs.findIdx? p with
  | none =>
    rw [List.findIdx?_eq_none_iff] at h
    have : xs.any p = false := by
      rw [List.any_eq_false]
      intro x hx
      rw [h x hx]
      decide
    rw [this]
    decide
  | some i =>
    obtain ⟨hi, h1, _⟩ := List.findIdx?_eq_some_iff_getElem.1 h
    have : xs.any p = true := List.any_eq_true.2 ⟨_, List.getElem_mem hi, h1⟩
    rw [this]
    exact decide_eq_true (by show (0 : Int) ≤ (i : Int); omega)
end Go.Proofs.Ytoemdmjdpikfbaa.Slc
