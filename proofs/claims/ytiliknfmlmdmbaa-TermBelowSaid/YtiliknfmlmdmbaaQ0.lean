/- A row's arguments opened: slices of constructors, slices, slices of slices, structs in structs; all that is read takes no more than memory has. -/
import Derived.Deep.Slices
import Derived.Deep.Fields
import Derived.ChangeSame
import Derived.ChangeArms
import Derived.SizedLaws
import Derived.Test.YtiliknfmlmdmbaaP0
import Derived.Test.YtiliknfmlmdmbaaTx0
namespace Go.Proofs.Ytiliknfmlmdmbaa.T
open Go.ChangeShapes Go.WideShapes Go.Deep Go.RowKit Go.Proofs.YtiliknfmlmdmbaaW.PrintWords Go.Proofs.YtiliknfmlmdmbaaW.PrintLast
set_option linter.unusedVariables false
set_option linter.unusedSimpArgs false
section
variable {H : Type} {enc : TypeId × Value → H} {P : Program} {w : World} {base : Nat} {spare : Nat → Bool} {held : Bool}
theorem list_of {α : Type} {P : Nat → α → Prop} : ∀ (n : Nat), (∀ i, i < n → ∃ x, P i x) → ∃ xs : List α, xs.length = n ∧ ∀ j x, xs[j]? = some x → P j x
  | 0, _ => ⟨[], rfl, fun j x h => by simp at h⟩
  | n + 1, h => by
    obtain ⟨xs, hl, hx⟩ := list_of n (fun i hi => h i (by omega))
    obtain ⟨y, hy⟩ := h n (by omega)
    refine ⟨xs ++ [y], by simp [hl], fun j x hj => ?_⟩
    by_cases hjl : j < xs.length
    · rw [List.getElem?_append_left hjl] at hj; exact hx j x hj
    · rw [List.getElem?_append_right (by omega)] at hj
      by_cases h0 : j = n
      · subst h0; rw [hl, Nat.sub_self] at hj; simp at hj; rw [← hj]; exact hy
      · rw [List.getElem?_eq_none (by simp; omega)] at hj; cases hj
/-- Cells of every field of every element. -/
theorem rows_fields {t e : TypeId} {fs : Array Field} {fuel : Nat} {cs : List Value} {x : DataW H × List MemPlace} (ht : P.underlying t = some (.slice e)) (he : P.underlying e = some (.struct fs))
    (hone : oneCellFields P fs = true) (hC : P.cellsOf e = fs.size) (h : DataW.trod enc P w base spare held fuel t cs = some x) :
    cs = [.slice none 0 0] ∨ ∃ (a : Addr) (len cap : Nat), cs = [.slice (some a) len cap] ∧ len ≤ cap ∧ cap ≤ maxLen ∧
      ∀ i, i < len → ∃ n, ∀ (j : Nat) (f : Field), fs[j]? = some f → ∃ (v : Value) (y : DataW H × List MemPlace), w.cell? (a.add (i * fs.size + j)) = some v ∧ DataW.trod enc P w base spare held n f.type [v] = some y := by
  rcases open_slice ht h with h0 | ⟨a, len, cap, m, n, D, Pl, hcs, hb, hl, hm, hmm, hx, hi⟩
  · exact .inl h0.1
  refine .inr ⟨a, len, cap, hcs, hl, hm, fun i him => ?_⟩
  have hlm : len ≤ m := by rw [hmm]; split <;> omega
  obtain ⟨ds, hc, ht'⟩ := hi i (by omega)
  rw [hC] at hc
  obtain ⟨ys, n', hn', hy, hlen, hyl, hf⟩ := DataW.trod_struct he ht'
  obtain ⟨_, hcl, hat⟩ := World.cells?_some hc
  refine ⟨n', fun j f hj => ?_⟩
  obtain ⟨ho, hk⟩ := hone_of hone j f hj
  have hjl : j < fs.size := (Array.getElem?_eq_some_iff.1 hj).1
  have hdl : j < ds.length := by omega
  have h1 := hf j f hj
  rw [ho, hk, take1_drop ds j (.bool false) hdl] at h1
  refine ⟨ds.getD j (.bool false), ys[j]'(by omega), ?_, by rw [h1]; exact List.getElem?_eq_getElem (by omega)⟩
  rw [← Go.Deep.add_add, hat j hjl, List.getD_eq_getElem?_getD, List.getElem?_eq_getElem hdl]
  rfl
/-- All that a datum takes is no more than memory has. -/
def Light (P : Program) (t : TypeId) (d : DataW H) : Prop := ∀ n ∈ d.weights P t, n ≤ reachBytes
theorem all_mem {e : TypeId} : ∀ {elems : List (DataW H)} {d : DataW H}, d ∈ elems → ∀ n ∈ d.weights P e, n ∈ DataW.weightsAll P e elems
  | x :: xs, d, h, n, hn => by
    simp only [DataW.weightsAll, List.mem_append]
    rcases List.mem_cons.1 h with rfl | h
    · exact .inl hn
    · exact .inr (all_mem h n hn)
theorem Light.elem {t e : TypeId} {elems spare : List (DataW H)} (hu : P.underlying t = some (.slice e)) (h : Light P t (.slice elems spare)) : elems.length * P.bytesOf e ≤ reachBytes ∧ ∀ d ∈ elems, Light P e d := by
  have h2 : ∀ n ∈ (elems.length + spare.length) * P.bytesOf e :: (DataW.weightsAll P e elems ++ DataW.weightsAll P e spare), n ≤ reachBytes := by
    intro n hn
    refine h n ?_
    simpa [DataW.weights, hu] using hn
  refine ⟨Nat.le_trans (Nat.mul_le_mul_right _ (Nat.le_add_right _ _)) (h2 _ List.mem_cons_self), fun d hd n hn => h2 n (List.mem_cons_of_mem _ (List.mem_append_left _ (all_mem hd n hn)))⟩
theorem Light.part {t : TypeId} {fs : Array Field} {parts : List (DataW H)} (hu : P.underlying t = some (.struct fs)) (h : Light P t (.agg parts)) {j : Nat} {f : Field} {d : DataW H} (hf : fs[j]? = some f) (hd : parts[j]? = some d) : Light P f.type d := fun n hn => by
  refine h n ?_
  have : (fs.toList.map (·.type))[j]? = some f.type := by simp [hf]
  have h2 := DataW.weights_mem_each this hd n hn
  simpa [DataW.weights, hu] using h2
/-- A struct's fields, each by its cells. -/
theorem open_fields {t : TypeId} {fs : Array Field} {fuel : Nat} {cs : List Value} {x : DataW H × List MemPlace} (hu : P.underlying t = some (.struct fs)) (h : DataW.trod enc P w base spare held fuel t cs = some x) (hw : Light P t x.1) :
    cs.length = P.cellsOf t ∧ ∃ n, ∀ (j : Nat) (f : Field), fs[j]? = some f → ∃ y : DataW H × List MemPlace, DataW.trod enc P w base spare held n f.type ((cs.drop f.offset).take (P.cellsOf f.type)) = some y ∧ Light P f.type y.1 := by
  obtain ⟨ys, n, hn, hy, hlen, hyl, hf⟩ := DataW.trod_struct hu h
  refine ⟨hlen, n, fun j f hj => ?_⟩
  have hjl : j < ys.length := by have := (Array.getElem?_eq_some_iff.1 hj).1; omega
  have h1 := hf j f hj
  rw [List.getElem?_eq_getElem hjl] at h1
  refine ⟨ys[j], h1, ?_⟩
  rw [hy] at hw
  exact hw.part hu hj (by simp [hjl])
theorem open_agg {r : Reach} {b0 : Nat} {t : TypeId} {fs : Array Field} {v : Value} {d : DataW H} {p : List MemPlace} (hu : P.underlying t = some (.struct fs)) (hv : Value.okWide P w r b0 t v) (h : DataW.Trod enc P w base spare held t v d p) (hw : Light P t d) :
    ∃ cs : Array Value, v = .agg cs ∧ cs.size = P.cellsOf t ∧ ∃ n, ∀ (j : Nat) (f : Field), fs[j]? = some f → ∃ y : DataW H × List MemPlace, DataW.trod enc P w base spare held n f.type ((cs.toList.drop f.offset).take (P.cellsOf f.type)) = some y ∧ Light P f.type y.1 := by
  obtain ⟨cs, rfl, hsz⟩ := okWide_struct hu hv
  obtain ⟨fuel, hf⟩ := h
  exact ⟨cs, rfl, hsz, (open_fields hu hf hw).2⟩
end
theorem arr2 {cs : Array Value} (h : cs.size = 2) : ∃ a b, cs = #[a, b] := by
  obtain ⟨l⟩ := cs
  match l, h with
  | [a, b], _ => exact ⟨a, b, rfl⟩
theorem arr9 {cs : Array Value} (h : cs.size = 9) : ∃ a b c d e f g i j, cs = #[a, b, c, d, e, f, g, i, j] := by
  obtain ⟨l⟩ := cs
  match l, h with
  | [a, b, c, d, e, f, g, i, j], _ => exact ⟨a, b, c, d, e, f, g, i, j, rfl⟩
section
variable {H : Type} {enc : TypeId × Value → H} {w : World} {base : Nat} {spare : Nat → Bool} {held : Bool}
theorem one_int {k : IntKind} {t : TypeId} {n : Nat} {v : Value} {y : DataW H × List MemPlace} (ht : Try.prog.underlying t = some (.int k)) (h : DataW.trod enc Try.prog w base spare held n t [v] = some y) : ∃ x, v = .int k x ∧ (Lit.int k x).wf = true := by
  obtain ⟨x, hx, _, hw⟩ := DataW.trod_int ht h
  exact ⟨x, by injection hx, hw⟩
theorem one_string {t : TypeId} {n : Nat} {v : Value} {y : DataW H × List MemPlace} (ht : Try.prog.underlying t = some .string) (h : DataW.trod enc Try.prog w base spare held n t [v] = some y) : ∃ x, v = .string x ∧ x.size ≤ maxLen := by
  obtain ⟨x, hx, _, hw⟩ := DataW.trod_string ht h
  exact ⟨x, by injection hx, hw⟩
theorem slice_of {e t : TypeId} {n : Nat} {v : Value} {y : DataW H × List MemPlace} (ht : Try.prog.underlying t = some (.slice e)) (h : DataW.trod enc Try.prog w base spare held n t [v] = some y) : ∃ a len cap, v = .slice a len cap := by
  rcases open_slice ht h with h0 | ⟨a, len, cap, m, k, D, Pl, hcs, _⟩
  · exact ⟨none, 0, 0, by injection h0.1⟩
  · exact ⟨some a, len, cap, by injection hcs⟩
/-- A slice of constructors. -/
theorem open22 {a : Option Addr} {len cap fuel : Nat} {x : DataW H × List MemPlace} (h : DataW.trod enc Try.prog w base spare held fuel 22 [.slice a len cap] = some x) :
    ∃ xs : List S62, Kd.C k62 w a xs.length xs ∧ len = xs.length ∧ xs.length ≤ cap ∧ xs.length ≤ 9223372036854775807 ∧ ∀ x ∈ xs, x.f1.size ≤ 9223372036854775807 := by
  rcases rows_fields Try.underlying22 Try.underlying62 (by kernel_rfl) (by kernel_rfl) h with h0 | ⟨b, l, c, hcs, hl, hm, hi⟩
  · simp at h0
    obtain ⟨rfl, rfl, rfl⟩ := h0
    exact ⟨[], ⟨rfl, by simp, fun h => absurd h (by simp)⟩, rfl, by simp, by simp, by simp⟩
  · simp at hcs
    obtain ⟨rfl, rfl, rfl⟩ := hcs
    have hm' : cap ≤ 9223372036854775807 := hm
    obtain ⟨xs, hlen, hx⟩ := list_of (P := fun i (x : S62) => (w.cell? (b.add (i * 2 + 0)) = some (.string x.f0) ∧ w.cell? (b.add (i * 2 + 1)) = some (.string x.f1)) ∧ x.f1.size ≤ 9223372036854775807) len (fun i hil => by
      obtain ⟨n, hn⟩ := hi i hil
      obtain ⟨v0, y0, c0, t0⟩ := hn 0 _ rfl
      obtain ⟨v1, y1, c1, t1⟩ := hn 1 _ rfl
      obtain ⟨n0, rfl, _⟩ := one_string (by kernel_rfl) t0
      obtain ⟨n1, rfl, hs⟩ := one_string (by kernel_rfl) t1
      exact ⟨⟨n0, n1⟩, ⟨c0, c1⟩, hs⟩)
    refine ⟨xs, ⟨rfl, by omega, fun _ => ⟨b, rfl, fun j p hj => ⟨_, rfl, k62_mk w p, fun i u hiu => ?_⟩⟩⟩, by omega, by omega, by omega, fun x hxm => ?_⟩
    · obtain ⟨⟨h0, h1⟩, _⟩ := hx j p hj
      match i, hiu with
      | 0, hiu => cases hiu; exact h0
      | 1, hiu => cases hiu; exact h1
    · obtain ⟨j, hj, rfl⟩ := List.getElem_of_mem hxm
      exact (hx j _ (List.getElem?_eq_getElem hj)).2
/-- A slice of whole numbers. -/
theorem open24 {a : Option Addr} {len cap fuel : Nat} {x : DataW H × List MemPlace} (h : DataW.trod enc Try.prog w base spare held fuel 24 [.slice a len cap] = some x) (hw : Light Try.prog 24 x.1) :
    ∃ xs : List Int, Kd.C (Kd.int .i64) w a xs.length xs ∧ len = xs.length ∧ xs.length ≤ cap ∧ Sh xs := by
  rcases open_slice Try.underlying24 h with h0 | ⟨b, l, c, m, n, D, Pl, hcs, hb, hl, hm, hmm, hx, hi⟩
  · have h1 := h0.1
    simp at h1
    obtain ⟨rfl, rfl, rfl⟩ := h1
    exact ⟨[], ⟨rfl, by simp, fun h => absurd h (by simp)⟩, rfl, by simp, by unfold Sh; simp⟩
  · simp at hcs
    obtain ⟨rfl, rfl, rfl⟩ := hcs
    have hlm : len ≤ m := by rw [hmm]; split <;> omega
    rw [hx] at hw
    have hw1 := (hw.elem Try.underlying24).1
    rw [show Try.prog.bytesOf 3 = 8 from by kernel_rfl, List.length_map, List.length_range] at hw1
    have hr : reachBytes = 140737488351232 := rfl
    have hC : Try.prog.cellsOf 3 = 1 := by kernel_rfl
    rw [hC] at hi
    obtain ⟨xs, hlen, hxs⟩ := list_of (P := fun i (x : Int) => w.cell? (b.add (i * 1 + 0)) = some (.int .i64 x)) len (fun i hil => by
      obtain ⟨ds, hc, ht⟩ := hi i (by omega)
      obtain ⟨_, hcl, hat⟩ := World.cells?_some hc
      match ds, hcl with
      | [v], _ =>
        obtain ⟨y, rfl, _⟩ := one_int (k := .i64) Try.underlying3 ht
        refine ⟨y, ?_⟩
        have := hat 0 (by omega)
        rw [Go.Deep.add_add] at this
        exact this)
    refine ⟨xs, ⟨rfl, by omega, fun _ => ⟨b, rfl, fun j p hj => ⟨[.int .i64 p], rfl, rfl, fun i u hiu => ?_⟩⟩⟩, by omega, by omega, by unfold Sh; omega⟩
    match i, hiu with
    | 0, hiu => cases hiu; exact hxs j p hj
/-- A slice of slices of whole numbers. -/
theorem open23 {a : Option Addr} {len cap fuel : Nat} {x : DataW H × List MemPlace} (h : DataW.trod enc Try.prog w base spare held fuel 23 [.slice a len cap] = some x) (hw : Light Try.prog 23 x.1) :
    ∃ xs : List (List Int), Kd.C (Kd.slice 3 (Kd.int .i64)) w a xs.length xs ∧ len = xs.length ∧ xs.length ≤ cap ∧ Keys xs := by
  rcases open_slice Try.underlying23 h with h0 | ⟨b, l, c, m, n, D, Pl, hcs, hb, hl, hm, hmm, hx, hi⟩
  · have h1 := h0.1
    simp at h1
    obtain ⟨rfl, rfl, rfl⟩ := h1
    exact ⟨[], ⟨rfl, by simp, fun h => absurd h (by simp)⟩, rfl, by simp, ⟨by unfold Sh; simp, fun q hq => by cases hq⟩⟩
  · simp at hcs
    obtain ⟨rfl, rfl, rfl⟩ := hcs
    have hlm : len ≤ m := by rw [hmm]; split <;> omega
    rw [hx] at hw
    have hw1 := hw.elem Try.underlying23
    have hw2 := hw1.1
    rw [show Try.prog.bytesOf 24 = 24 from by kernel_rfl, List.length_map, List.length_range] at hw2
    have hr : reachBytes = 140737488351232 := rfl
    have hC : Try.prog.cellsOf 24 = 1 := by kernel_rfl
    rw [hC] at hi
    obtain ⟨xs, hlen, hxs⟩ := list_of (P := fun i (x : List Int) => (∃ A c, w.cell? (b.add (i * 1 + 0)) = some (.slice A x.length c) ∧ x.length ≤ c ∧ Kd.C (Kd.int .i64) w A x.length x) ∧ Sh x) len (fun i hil => by
      obtain ⟨ds, hc, ht⟩ := hi i (by omega)
      obtain ⟨_, hcl, hat⟩ := World.cells?_some hc
      match ds, hcl with
      | [v], _ =>
        obtain ⟨A, l, c, rfl⟩ := slice_of Try.underlying24 ht
        obtain ⟨ys, hC, rfl, hle, hsh⟩ := open24 ht (hw1.2 (D i) (List.mem_map.2 ⟨i, List.mem_range.2 hil, rfl⟩))
        refine ⟨ys, ⟨A, c, ?_, hle, hC⟩, hsh⟩
        have := hat 0 (by omega)
        rw [Go.Deep.add_add] at this
        exact this)
    refine ⟨xs, ⟨rfl, by omega, fun _ => ⟨b, rfl, fun j p hj => ?_⟩⟩, by omega, by omega, ⟨by unfold Sh; omega, fun q hq => ?_⟩⟩
    · obtain ⟨⟨A, c, h1, h2, h3⟩, _⟩ := hxs j p hj
      refine ⟨[.slice A p.length c], rfl, ⟨A, c, rfl, h2, h3⟩, fun i u hiu => ?_⟩
      match i, hiu with
      | 0, hiu => cases hiu; exact h1
    · obtain ⟨j, hj, rfl⟩ := List.getElem_of_mem hq
      exact (hxs j _ (List.getElem?_eq_getElem hj)).2
/-- A table: two cells. -/
theorem open26 {v0 v1 : Value} {fuel : Nat} {x : DataW H × List MemPlace} (h : DataW.trod enc Try.prog w base spare held fuel 26 [v0, v1] = some x) (hw : Light Try.prog 26 x.1) :
    ∃ A0 c0 A1 c1, ∃ (keys : List (List Int)) (slots : List Int), v0 = .slice A0 keys.length c0 ∧ v1 = .slice A1 slots.length c1 ∧ Kd.C (Kd.slice 3 (Kd.int .i64)) w A0 keys.length keys ∧ keys.length ≤ c0 ∧ Keys keys ∧ Kd.C (Kd.int .i64) w A1 slots.length slots ∧ slots.length ≤ c1 ∧ Sh slots := by
  obtain ⟨_, n, hf⟩ := open_fields Try.underlying26 h hw
  obtain ⟨y0, t0, l0⟩ := hf 0 _ rfl
  obtain ⟨y1, t1, l1⟩ := hf 1 _ rfl
  replace t0 : DataW.trod enc Try.prog w base spare held n 23 [v0] = some y0 := t0
  replace t1 : DataW.trod enc Try.prog w base spare held n 24 [v1] = some y1 := t1
  obtain ⟨A0, n0, c0, rfl⟩ := slice_of Try.underlying23 t0
  obtain ⟨A1, n1, c1, rfl⟩ := slice_of Try.underlying24 t1
  obtain ⟨keys, h1, rfl, h2, h3⟩ := open23 t0 l0
  obtain ⟨slots, h4, rfl, h5, h6⟩ := open24 t1 l1
  exact ⟨A0, c0, A1, c1, keys, slots, rfl, rfl, h1, h2, h3, h4, h5, h6⟩
end
end Go.Proofs.Ytiliknfmlmdmbaa.T
