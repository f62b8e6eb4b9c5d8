/- How an argument of any type built of whole numbers, bools, texts, slices and structs reads as a kind of the print's words. No condition. -/
import Derived.Test.YtoemdmjdpikfbaaWMore
import Derived.Deep.Slices
import Derived.Lib.SmallJoins
namespace Go.Proofs.Ytoemdmjdpikfbaa.Open
open Go.Proofs.YtoemdmjdpikfbaaW.PrintWords Go.WideShapes Go.ChangeShapes

/-- What can be read at type T is a value of kind d that meets wf. -/
def Opens {α : Type} (P : Program) (T : TypeId) (d : Kd α) (wf : α → Prop) : Prop :=
  P.cellsOf T = d.sz ∧ ∀ (H : Type) (enc : TypeId × Value → H) (w : World) (spare : Nat → Bool) (held : Bool) (fuel : Nat) (cs : List Value) (x : DataW H × List MemPlace),
    DataW.trod enc P w 0 spare held fuel T cs = some x → ∃ a, d.K w a cs ∧ wf a

theorem opens_int {P : Program} {T : TypeId} {k : IntKind} (hu : P.underlying T = some (.int k)) (hc : P.cellsOf T = 1) : Opens P T (Kd.int k) (fun x => (Lit.int k x).wf = true) := by
  refine ⟨hc, fun H enc w spare held fuel cs x h => ?_⟩
  match fuel with
  | 0 => simp [DataW.trod] at h
  | fuel + 1 =>
    unfold DataW.trod at h
    rw [hu] at h
    match cs with
    | [.int k' n] =>
      simp only at h
      split at h
      · rename_i hk
        obtain ⟨rfl, hw⟩ := hk
        exact ⟨n, rfl, hw⟩
      · cases h
    | [] => simp at h
    | _ :: _ :: _ => simp at h

theorem opens_bool {P : Program} {T : TypeId} (hu : P.underlying T = some .bool) (hc : P.cellsOf T = 1) : Opens P T Kd.bool (fun _ => True) := by
  refine ⟨hc, fun H enc w spare held fuel cs x h => ?_⟩
  match fuel with
  | 0 => simp [DataW.trod] at h
  | fuel + 1 =>
    unfold DataW.trod at h
    rw [hu] at h
    match cs with
    | [.bool b] => exact ⟨b, rfl, trivial⟩
    | [] => simp at h
    | _ :: _ :: _ => simp at h

theorem opens_string {P : Program} {T : TypeId} (hu : P.underlying T = some .string) (hc : P.cellsOf T = 1) : Opens P T Kd.string (fun s => s.size ≤ maxLen) := by
  refine ⟨hc, fun H enc w spare held fuel cs x h => ?_⟩
  match fuel with
  | 0 => simp [DataW.trod] at h
  | fuel + 1 =>
    unfold DataW.trod at h
    rw [hu] at h
    match cs with
    | [.string s] =>
      simp only at h
      split at h
      · exact ⟨s, rfl, by assumption⟩
      · cases h
    | [] => simp at h
    | _ :: _ :: _ => simp at h

theorem mapM_some {α β : Type} {f : α → Option β} : ∀ {l : List α} {r : List β}, l.mapM f = some r → r.length = l.length ∧ ∀ (i : Nat) (x : α), l[i]? = some x → ∃ y, r[i]? = some y ∧ f x = some y
  | [], r, h => by
    simp at h
    subst h
    exact ⟨rfl, fun i x hx => by simp at hx⟩
  | a :: l, r, h => by
    rw [List.mapM_cons] at h
    obtain ⟨y, hy, h⟩ := Option.bind_eq_some_iff.1 h
    obtain ⟨ys, hys, h⟩ := Option.bind_eq_some_iff.1 h
    injection h with h
    subst h
    obtain ⟨hl, hi⟩ := mapM_some hys
    refine ⟨by simp [hl], fun i x hx => ?_⟩
    cases i with
    | zero =>
      simp at hx
      subst hx
      exact ⟨y, rfl, hy⟩
    | succ i => exact hi i x (by simpa using hx)

theorem cells_at {w : World} {base : Nat} {a : Addr} {n : Nat} {cs : List Value} (h : w.cells? base a n = some cs) : cs.length = n ∧ ∀ i u, cs[i]? = some u → w.cell? (a.add i) = some u := by
  unfold World.cells? at h
  split at h
  · obtain ⟨hl, hi⟩ := mapM_some h
    rw [List.length_range] at hl
    refine ⟨hl, fun i u hu => ?_⟩
    have hlt : i < n := by rw [← hl]; exact (List.getElem?_eq_some_iff.1 hu).1
    obtain ⟨y, hy, hf⟩ := hi i i (by simp [hlt])
    rw [hu] at hy
    injection hy with hy
    subst hy
    exact hf
  · cases h

theorem opens_slice {α : Type} {P : Program} {T e : TypeId} {d : Kd α} {wf : α → Prop} (hu : P.underlying T = some (.slice e)) (hc : P.cellsOf T = 1) (hd : Opens P e d wf) (z : α) :
    Opens P T (Kd.slice e d) (fun xs => xs.length ≤ maxLen ∧ ∀ x ∈ xs, wf x) := by
  refine ⟨hc, fun H enc w spare held fuel cs x h => ?_⟩
  rcases Go.Deep.open_slice hu h with ⟨rfl, _⟩ | ⟨a, len, cap, m, n, D, Pl, rfl, _, hl, hm, hmm, _, hx⟩
  · exact ⟨[], ⟨none, 0, rfl, Nat.le_refl _, rfl, by simp, fun h => absurd h (Nat.lt_irrefl 0)⟩, Nat.zero_le _, by simp⟩
  · have hle : len ≤ m := by rw [hmm]; split <;> omega
    haveI : Inhabited α := ⟨z⟩
    obtain ⟨f, hf⟩ := Go.Deep.choose_lt (α := α) (n := len) (p := fun i y => ∃ c, d.K w y c ∧ wf y ∧ ∀ j u, c[j]? = some u → w.cell? (a.add (i * d.sz + j)) = some u) (fun i hi => by
      obtain ⟨cs', h1, h2⟩ := hx i (by omega)
      obtain ⟨y, hK, hwf⟩ := hd.2 H enc w spare held n cs' _ h2
      refine ⟨y, cs', hK, hwf, fun j u hj => ?_⟩
      have := (cells_at h1).2 j u hj
      rw [hd.1] at this
      rwa [Go.Deep.add_add] at this)
    have hlen : ((List.range len).map f).length = len := by simp
    have hmax : len ≤ maxLen := Nat.le_trans hl hm
    refine ⟨(List.range len).map f, ⟨some a, cap, by rw [hlen], by rw [hlen]; exact hl, rfl, by rw [hlen]; unfold maxLen at hmax; exact hmax, fun _ => ⟨a, rfl, fun j p hj => ?_⟩⟩, by rw [hlen]; exact hmax, fun x hx => ?_⟩
    · rw [List.getElem?_map] at hj
      obtain ⟨j', hj', rfl⟩ := Option.map_eq_some_iff.1 hj
      have hjl : j < len := by
        have := (List.getElem?_eq_some_iff.1 hj').1
        simpa using this
      have : j' = j := by
        rw [List.getElem?_range hjl] at hj'
        injection hj' with hj'
        exact hj'.symm
      subst this
      obtain ⟨c, hK, _, hcell⟩ := hf j' hjl
      exact ⟨c, d.K_len hK, hK, hcell⟩
    · obtain ⟨i, hi, rfl⟩ := List.mem_map.1 hx
      obtain ⟨c, _, hwf, _⟩ := hf i (List.mem_range.1 hi)
      exact hwf

/-- Fields that lie one behind the other from 'off' on. -/
inductive OpensF (P : Program) : {α : Type} → Nat → List Field → Kd α → (α → Prop) → Prop
  | last {α : Type} {off : Nat} {f : Field} {d : Kd α} {wf : α → Prop} (ho : f.offset = off) (h : Opens P f.type d wf) : OpensF P off [f] d wf
  | more {α β : Type} {off : Nat} {f : Field} {fs : List Field} {d : Kd α} {wf : α → Prop} {d' : Kd β} {wf' : β → Prop} (ho : f.offset = off) (h : Opens P f.type d wf) (ht : OpensF P (off + d.sz) fs d' wf') :
      OpensF P off (f :: fs) (Kd.pair d d') (fun x => wf x.1 ∧ wf' x.2)

theorem opensF_read {P : Program} {α : Type} {off : Nat} {fs : List Field} {d : Kd α} {wf : α → Prop} (h : OpensF P off fs d wf) (H : Type) (enc : TypeId × Value → H) (w : World) (spare : Nat → Bool) (held : Bool) (fuel : Nat) (cs : List Value) (hl : cs.length = off + d.sz) (xs : List (DataW H × List MemPlace))
    (hx : (fs.mapM fun f => DataW.trod enc P w 0 spare held fuel f.type ((cs.drop f.offset).take (P.cellsOf f.type))) = some xs) : ∃ a, d.K w a (cs.drop off) ∧ wf a := by
  induction h generalizing xs with
  | @last α off f d wf ho h =>
    rw [List.mapM_cons] at hx
    obtain ⟨y, hy, _⟩ := Option.bind_eq_some_iff.1 hx
    obtain ⟨a, hK, hwf⟩ := h.2 H enc w spare held fuel _ y hy
    rw [h.1, ho, List.take_of_length_le (by rw [List.length_drop]; omega)] at hK
    exact ⟨a, hK, hwf⟩
  | @more α β off f fs d wf d' wf' ho h ht ih =>
    rw [List.mapM_cons] at hx
    obtain ⟨y, hy, hx⟩ := Option.bind_eq_some_iff.1 hx
    obtain ⟨ys, hys, _⟩ := Option.bind_eq_some_iff.1 hx
    have hl' : cs.length = off + d.sz + d'.sz := by
      have : (Kd.pair d d').sz = d.sz + d'.sz := rfl
      omega
    obtain ⟨a, hK, hwf⟩ := h.2 H enc w spare held fuel _ y hy
    obtain ⟨b, hK', hwf'⟩ := ih hl' ys hys
    rw [h.1, ho] at hK
    refine ⟨(a, b), ⟨_, _, ?_, hK, hK'⟩, hwf, hwf'⟩
    rw [← List.drop_drop, List.take_append_drop]

theorem opens_struct {P : Program} {α : Type} {T : TypeId} {fs : Array Field} {d : Kd α} {wf : α → Prop} (hu : P.underlying T = some (.struct fs)) (hc : P.cellsOf T = d.sz) (h : OpensF P 0 fs.toList d wf) : Opens P T d wf := by
  refine ⟨hc, fun H enc w spare held fuel cs x hx => ?_⟩
  match fuel with
  | 0 => simp [DataW.trod] at hx
  | fuel + 1 =>
    unfold DataW.trod at hx
    rw [hu] at hx
    simp only at hx
    split at hx
    · rename_i hl
      obtain ⟨xs, hxs, _⟩ := Option.map_eq_some_iff.1 hx
      have := opensF_read h H enc w spare held fuel cs (by omega) xs hxs
      simpa using this
    · cases hx

theorem opens_iso {P : Program} {α β : Type} {T : TypeId} {d : Kd α} {wf : α → Prop} (f : β → α) (g : α → β) (hfg : ∀ a, f (g a) = a) (h : Opens P T d wf) : Opens P T (Kd.iso d f) (fun x => wf (f x)) := by
  refine ⟨h.1, fun H enc w spare held fuel cs x hx => ?_⟩
  obtain ⟨a, hK, hwf⟩ := h.2 H enc w spare held fuel cs x hx
  exact ⟨g a, by show d.K w (f (g a)) cs; rw [hfg]; exact hK, by show wf (f (g a)); rw [hfg]; exact hwf⟩

theorem opens_imp {P : Program} {α : Type} {T : TypeId} {d : Kd α} {wf wf' : α → Prop} (h : Opens P T d wf) (hw : ∀ a, wf a → wf' a) : Opens P T d wf' :=
  ⟨h.1, fun H enc w spare held fuel cs x hx => by
    obtain ⟨a, hK, hwf⟩ := h.2 H enc w spare held fuel cs x hx
    exact ⟨a, hK, hw a hwf⟩⟩

/-- An argument of a slice type. -/
theorem opens_slice_arg {α : Type} {P : Program} {T e : TypeId} {d : Kd α} {wf : List α → Prop} (hu : P.underlying T = some (.slice e)) (h : Opens P T (Kd.slice e d) wf) {H : Type} {enc : TypeId × Value → H} {w : World} {r : Reach} {base : Nat} {spare : Nat → Bool} {held : Bool} {v : Value} {x : DataW H} {p : List MemPlace}
    (hv : Value.okWide P w r base T v) (hx : DataW.Trod enc P w 0 spare held T v x p) : ∃ (A : Option Addr) (l : List α) (c : Nat), v = .slice A l.length c ∧ d.C w A l.length l ∧ l.length ≤ c ∧ wf l := by
  obtain ⟨A, n, c, rfl⟩ := okWide_slice hu hv
  obtain ⟨fuel, hf⟩ := hx
  obtain ⟨l, ⟨A', c', he, hc, hC⟩, hwf⟩ := h.2 H enc w spare held fuel _ _ hf
  simp only [Value.cells] at he
  injection he with he
  injection he with e1 e2 e3
  subst e1 e2 e3
  exact ⟨A, l, c, rfl, hC, hc, hwf⟩

/-- An argument of a struct type. -/
theorem opens_struct_arg {α : Type} {P : Program} {T : TypeId} {fs : Array Field} {d : Kd α} {wf : α → Prop} (hu : P.underlying T = some (.struct fs)) (h : Opens P T d wf) {H : Type} {enc : TypeId × Value → H} {w : World} {r : Reach} {base : Nat} {spare : Nat → Bool} {held : Bool} {v : Value} {x : DataW H} {p : List MemPlace}
    (hv : Value.okWide P w r base T v) (hx : DataW.Trod enc P w 0 spare held T v x p) : ∃ (a : α) (cs : List Value), v = .agg cs.toArray ∧ d.K w a cs ∧ wf a := by
  obtain ⟨cs, rfl, _⟩ := okWide_struct hu hv
  obtain ⟨fuel, hf⟩ := hx
  obtain ⟨a, hK, hwf⟩ := h.2 H enc w spare held fuel _ _ hf
  simp only [Value.cells] at hK
  exact ⟨a, cs.toList, by simp, hK, hwf⟩

end Go.Proofs.Ytoemdmjdpikfbaa.Open
