/- slices.Backward over a row of nodes: its contract as an iterator; the sides of nodes as a plain function. -/
import Derived.Test.YtgbickkmfjngbaaGa
import Derived.Test.YtgbickkmfjngbaaGb
import Derived.Test.YtgbickkmfjngbaaKx3
namespace Go.Proofs.Ytgbickkmfjngbaa.K
open Go.RowKit Go.Shelf Go.Proofs.YtgbickkmfjngbaaW.PrintWords Go.Proofs.YtgbickkmfjngbaaW.PrintLast Go.Proofs.YtgbickkmfjngbaaG.Words
attribute [local go_sem] Oper.semAt_some
set_option linter.unusedVariables false
set_option linter.unusedSimpArgs false

/-! ### slices.Backward over nodes -/
abbrev Bn (len : Nat) := { i : Nat // i < len }
/-- What slices.Backward over nodes reads between two rounds: its box; the nodes came in (w₀). -/
def KpN (n₀ Bs : Nat) (A : Option Addr) (len cap : Nat) (W W' : World) : Prop := (W.cell? ⟨Bs, 0, none⟩ = some (.slice A len cap) → W'.cell? ⟨Bs, 0, none⟩ = some (.slice A len cap)) ∧ Below n₀ W W'
theorem KpN.trans {n₀ Bs len cap : Nat} {A : Option Addr} {X Y Z : World} (h : KpN n₀ Bs A len cap X Y) (k : KpN n₀ Bs A len cap Y Z) : KpN n₀ Bs A len cap X Z := ⟨fun x => k.1 (h.1 x), h.2.trans k.2⟩
theorem KpN.put {n₀ Bs len cap : Nat} {A : Option Addr} {w : World} (hn : n₀ ≤ w.heap.size) (W : World) (l : Nat) (o o' : Obj) (hl : w.heap.size ≤ l) (h : W.heap[l]? = some o) (ho : o.isCells = false) (hw : o.isWalk = false) : KpN n₀ Bs A len cap W (W.putObj l o') :=
  ⟨fun hc => cell_kept hc (grownBy_putObj' W l o') (fun r e => by cases e; exact ⟨o, h, ho⟩), belowK_b hn W l o o' hl h ho hw⟩
def nodeV (x : S38) : Value := .agg #[.int .i64 x.f0, .string x.f1, .int .i64 x.f2]

set_option maxRecDepth 100000 in
set_option maxHeartbeats 2000000 in
theorem back44_in (F : Fence) (n : Nat) (h44 : F.fn 44) (hro : F.round = none) (hn : 1 ≤ n) (l Bs n₀ len cap : Nat) (A : Option Addr) (es : List S38) (w0 : World) (hn0 : w0.heap.size = n₀) (hC : Kd.C k38 w0 A len es) (J Jx : List (Bn len) → World → Prop)
    (hY : ∀ pre x W, J pre W → pre.length < len → YieldAt F (n - 1) Try.prog l #[.int .i64 ((x : Bn len).1 : Int), nodeV (rd_T38 es x.1)] W fun e W' =>
      (e = .returned (.bool true) ∧ J (pre ++ [x]) W' ∧ KpN n₀ Bs A len cap W W') ∨ (e = .returned (.bool false) ∧ Jx (pre ++ [x]) W'))
    (W : World) (hb0 : W.cell? ⟨Bs, 0, none⟩ = some (.slice A len cap)) (hB0 : Below n₀ w0 W) (h0 : J [] W) :
    CallsIn F n Try.prog 44 #[.func (.yield l) #[] #[], .pointer (some ⟨Bs, 0, none⟩)] W fun e W' => (∃ v, e = .returned v) ∧
      ((∃ ys, ys.map (fun p : Bn len => p.1) = down len len ∧ J ys W') ∨ (∃ pre, True ∧ Jx pre W')) := by
  have hu38 := Try.underlying38
  have hM := Kd.C_max hC
  have HC := Aside0.mk hC
  clear hC
  refine callsIn_of_wp Try.func44 rfl h44 ?_ hro
  simp only [Try.ntmps44, List.size_toArray, List.length_cons, List.length_nil, Nat.reduceAdd, Nat.reduceSub, Array.replicate_succ, Array.replicate_zero, List.push_toArray, List.append_toArray, List.nil_append, List.cons_append]
  have hb := hb0
  gi_wp2
  gi_loopw [3] (fun i wr => ∃ (k : Nat) (pre : List (Bn len)), k ≤ len ∧ i = .int .i64 ((k : Int) - 1) ∧ pre.map (fun p : Bn len => p.1) = down len (len - k) ∧ J pre wr ∧ wr.cell? ⟨Bs, 0, none⟩ = some (.slice A len cap) ∧ Below n₀ w0 wr)
    (fun i _ => (intOf i + 1).toNat)
  case atStart => exact ⟨len, [], Nat.le_refl _, by simp, by simp [down], h0, hb0, hB0⟩
  case round =>
    obtain ⟨k, pre, hk, rfl, hpre, hJs, hKr, hBr⟩ := hrel
    by_cases hlt : 0 < k
    · have hge : 0 ≤ (k : Int) - 1 := by omega
      have hlt2 : (k : Int) - 1 < len := by omega
      obtain ⟨ad, ea, hx0, hx1, hx2⟩ := at_T38 HC.out ((k - 1 : Nat) : Int) (by omega) (by omega)
      have hlen' : pre.length = len - k := by simpa [down] using congrArg List.length hpre
      obtain ⟨fn, tmps, assign, body, hy, hR⟩ := hY pre ⟨k - 1, by omega⟩ wr hJs (by omega)
      dsimp only [nodeV] at hy
      have e1 : ((k - 1 : Nat) : Int) = (k : Int) - 1 := by omega
      rw [Int.toNat_natCast] at hx0 hx1 hx2
      rw [e1] at hy hx0 hx1 hx2
      subst ea
      replace hx0 := (hBr.cell (by rw [← hn0]; exact World.block_lt_of_cell? w0 _ hx0)).trans hx0
      replace hx1 := (hBr.cell (by rw [← hn0]; exact World.block_lt_of_cell? w0 _ hx1)).trans hx1
      replace hx2 := (hBr.cell (by rw [← hn0]; exact World.block_lt_of_cell? w0 _ hx2)).trans hx2
      clear e1
      gi_wp2
      refine hR.mono ?_
      rintro e W3 (⟨rfl, hJ3, hk3⟩ | ⟨rfl, hJx3⟩)
      · have hK3 := hk3.1 hKr
        have hB3 := hBr.trans hk3.2
        gi_wp2
        go_roundw
        case rel => exact ⟨k - 1, _, by omega, by congr 1; omega, by rw [List.map_append, hpre, show len - (k - 1) = len - k + 1 by omega, down_succ]; simp; omega, hJ3, hK3, hB3⟩
        case measure => simp [intOf]; omega
      · gi_wp2
        refine bodyPost_ret (results_none rfl _ _ _) rfl ?_
        exact ⟨⟨_, rfl⟩, .inr ⟨_, trivial, hJx3⟩⟩
    · obtain rfl : k = 0 := by omega
      have hge : ¬ 0 ≤ ((0 : Nat) : Int) - 1 := by omega
      gi_wp2
      go_end0
      exact ⟨⟨_, rfl⟩, .inl ⟨_, by simpa using hpre, hJs⟩⟩

theorem back44_stops (F : Fence) (n : Nat) (h44 : F.fn 44) (hro : F.round = none) (hn : 1 ≤ n) (Bs len cap : Nat) (A : Option Addr) (es : List S38) (w0 w : World) (hC : Kd.C k38 w0 A len es) (hb : w.cell? ⟨Bs, 0, none⟩ = some (.slice A len cap)) (hB : Below w0.heap.size w0 w) :
    SeqStopsK F n Try.prog 44 #[.pointer (some ⟨Bs, 0, none⟩)] (fun x : Bn len => #[.int .i64 (x.1 : Int), nodeV (rd_T38 es x.1)]) (KpN w0.heap.size Bs A len cap)
      (fun ys => ys.map (fun p : Bn len => p.1) = down len len) (fun _ => True) len w := fun l J Jx W hW _ _ hY h0 =>
  back44_in F n h44 hro hn l Bs w0.heap.size len cap A es w0 rfl hC J Jx hY W (pw_cell_below hW hb) (below_step hB hW) h0

set_option maxHeartbeats 1000000 in
theorem back27 (a : Option Addr) (len cap : Nat) (w : World) :
    Calls Try.prog 27 #[.slice a len cap] w fun e w' => e = .returned (.func (.func 44) #[] #[.pointer (some ⟨w.heap.size, 0, none⟩)]) ∧ w' = w.alloc (.cells #[.slice a len cap] 23) := by
  go_enter Try.func27, Try.ntmps27
  go_wp2
  go_ret
  exact ⟨rfl, rfl⟩

/-! ### The sides, plainly -/
def varyAt (tw : Bool) (p : ByteArray) (is : Bool) (k : Int) : Option Int :=
  if tw = true then (if is = true then (if 0 ≤ k then (if k < (p.size : Int) then some (bt p k) else none) else none) else some 61) else some 43
def innerL (st : List Int) (vary : Int → Option Int) (i : Nat) : Nat → Int → List Int → Option (List Int)
  | 0, _, out => some out
  | k + 1, en, out => if 0 ≤ en then (if en < (out.length : Int) then (if en < (st.length : Int) then (vary (k : Int)).bind fun v => (side_turned.f (rd out i) v).bind fun s =>
      innerL st vary i k (wrap64 (rd st en - 1)) (out.set en.toNat s) else none) else none) else none
def roundL (l : List S52) (e : List S38) (st : List Int) (i : Nat) (out : List Int) : Option (List Int) :=
  if 0 ≤ (rd_T38 e i).f2 then (if (rd_T38 e i).f2 ≤ 9223372036854775807 then
    (if (rd_T38 e i).f0 = 6 then (side_parts.f l (rd_T38 e i).f0 (rd_T38 e i).f1 (rd_T38 e i).f2).bind fun pr => innerL st (varyAt true pr.1 pr.2) i 1 ((i : Int) - 1) out
    else if (rd_T38 e i).f0 = 3 then (side_parts.f l (rd_T38 e i).f0 (rd_T38 e i).f1 (rd_T38 e i).f2).bind fun pr => innerL st (varyAt true pr.1 pr.2) i (rd_T38 e i).f2.toNat ((i : Int) - 1) out
    else innerL st (varyAt false ByteArray.empty false) i (rd_T38 e i).f2.toNat ((i : Int) - 1) out) else none) else none
def ofL (l : List S52) (e : List S38) (st : List Int) : Nat → List Int → Option (List Int)
  | 0, out => some out
  | k + 1, out => (roundL l e st k out).bind fun o => ofL l e st k o
def side_Of.f (l0 : List S52) (l1 : List S38) (a2 : Int) : Option (List Int) := (expr_Starts.f l1).bind fun st =>
  if 0 < l1.length then (if l1.length ≤ 35184372088832 then (if st.length = l1.length then ofL l0 l1 st l1.length ((List.replicate l1.length 0).set (l1.length - 1) (if a2 = 76 then 76 else if a2 = 82 then 82 else 66)) else none) else none) else none

/-- All that stands on a side: L, R, B, or nothing yet. -/
def Good (out : List Int) : Prop := ∀ x ∈ out, x = 76 ∨ x = 82 ∨ x = 66 ∨ x = 0
theorem Good.at_ {out : List Int} (h : Good out) (i : Int) : rd out i = 76 ∨ rd out i = 82 ∨ rd out i = 66 ∨ rd out i = 0 := by
  unfold rd
  rw [List.getD_eq_getElem?_getD]
  cases e : out[i.toNat]? with
  | none => simp
  | some x => exact h x (List.mem_of_getElem? e)
theorem Good.set {out : List Int} (h : Good out) (i : Nat) {x : Int} (hx : x = 76 ∨ x = 82 ∨ x = 66 ∨ x = 0) : Good (out.set i x) := fun y hy => by
  rcases List.mem_or_eq_of_mem_set hy with hy | rfl
  · exact h y hy
  · exact hx
theorem turned_some {a v : Int} (h : a = 76 ∨ a = 82 ∨ a = 66 ∨ a = 0) : ∃ s, side_turned.f a v = some s ∧ (s = 76 ∨ s = 82 ∨ s = 66 ∨ s = 0) := by
  unfold side_turned.f
  rw [if_pos h]
  refine ⟨_, rfl, ?_⟩
  by_cases h1 : v = 43 <;> by_cases h2 : v = 45 <;> rcases h with rfl | rfl | rfl | rfl <;> simp [h1, h2]
theorem innerL_safe {st : List Int} {vary : Int → Option Int} {i : Nat} : ∀ {k : Nat} {en : Int} {out r : List Int}, innerL st vary i k en out = some r → Good out → ∀ out2, Good out2 → out2.length = out.length →
    Good r ∧ r.length = out.length ∧ ∃ r2, innerL st vary i k en out2 = some r2 ∧ Good r2 ∧ r2.length = out.length
  | 0, en, out, r, h, hg, out2, hg2, hl => by cases h; exact ⟨hg, rfl, out2, rfl, hg2, hl⟩
  | k + 1, en, out, r, h, hg, out2, hg2, hl => by
    unfold innerL at h ⊢
    by_cases h0 : 0 ≤ en
    case neg => rw [if_neg h0] at h; cases h
    rw [if_pos h0] at h ⊢
    by_cases h1 : en < (out.length : Int)
    case neg => rw [if_neg h1] at h; cases h
    rw [if_pos h1] at h
    rw [if_pos (by rw [hl]; exact h1)]
    by_cases h2 : en < (st.length : Int)
    case neg => rw [if_neg h2] at h; cases h
    rw [if_pos h2] at h ⊢
    replace h := Option.bind_eq_some_iff.mp h
    obtain ⟨v, hv, h⟩ := h
    replace h := Option.bind_eq_some_iff.mp h
    obtain ⟨s, hs, h⟩ := h
    obtain ⟨s1, hs1, hg1⟩ := turned_some (v := v) (hg.at_ i)
    rw [hs] at hs1
    obtain rfl := Option.some.inj hs1
    obtain ⟨s2, hs2, hgs2⟩ := turned_some (v := v) (hg2.at_ i)
    rw [hv, Option.bind_some, hs2, Option.bind_some]
    have := innerL_safe h (hg.set _ hg1) (out2.set en.toNat s2) (hg2.set _ hgs2) (by simp [hl])
    simpa using this
theorem roundL_safe {l : List S52} {e : List S38} {st : List Int} {i : Nat} {out r : List Int} (h : roundL l e st i out = some r) (hg : Good out) (out2 : List Int) (hg2 : Good out2) (hl : out2.length = out.length) :
    Good r ∧ r.length = out.length ∧ ∃ r2, roundL l e st i out2 = some r2 ∧ Good r2 ∧ r2.length = out.length := by
  unfold roundL at h ⊢
  by_cases h0 : 0 ≤ (rd_T38 e i).f2
  case neg => rw [if_neg h0] at h; cases h
  rw [if_pos h0] at h ⊢
  by_cases h1 : (rd_T38 e i).f2 ≤ 9223372036854775807
  case neg => rw [if_neg h1] at h; cases h
  rw [if_pos h1] at h ⊢
  by_cases h6 : (rd_T38 e i).f0 = 6
  · rw [if_pos h6] at h ⊢
    replace h := Option.bind_eq_some_iff.mp h
    obtain ⟨pr, hp, h⟩ := h
    rw [hp, Option.bind_some]
    exact innerL_safe h hg out2 hg2 hl
  · rw [if_neg h6] at h ⊢
    by_cases h3 : (rd_T38 e i).f0 = 3
    · rw [if_pos h3] at h ⊢
      replace h := Option.bind_eq_some_iff.mp h
      obtain ⟨pr, hp, h⟩ := h
      rw [hp, Option.bind_some]
      exact innerL_safe h hg out2 hg2 hl
    · rw [if_neg h3] at h ⊢
      exact innerL_safe h hg out2 hg2 hl
theorem ofL_all {l : List S52} {e : List S38} {st : List Int} : ∀ {k : Nat} {out r : List Int}, ofL l e st k out = some r → Good out → ∀ i, i < k → ∀ out2, Good out2 → out2.length = out.length → ∃ r2, roundL l e st i out2 = some r2 ∧ Good r2 ∧ r2.length = out.length
  | 0, _, _, _, _, i, hi, _, _, _ => absurd hi (Nat.not_lt_zero i)
  | k + 1, out, r, h, hg, i, hi, out2, hg2, hl => by
    unfold ofL at h
    replace h := Option.bind_eq_some_iff.mp h
    obtain ⟨o, ho, h⟩ := h
    obtain ⟨hgo, hlo, hr2⟩ := roundL_safe ho hg out2 hg2 hl
    by_cases hk : i = k
    · subst hk; exact hr2
    · have := ofL_all h hgo i (by omega) out2 hg2 (by omega)
      rwa [hlo] at this
/-- What the rounds have come to. -/
def outAt (l : List S52) (e : List S38) (st : List Int) {len : Nat} (pre : List (Bn len)) (out : List Int) : List Int := pre.foldl (fun o x => (roundL l e st x.1 o).getD o) out
theorem outAt_snoc (l : List S52) (e : List S38) (st : List Int) {len : Nat} (pre : List (Bn len)) (x : Bn len) (out : List Int) : outAt l e st (pre ++ [x]) out = (roundL l e st x.1 (outAt l e st pre out)).getD (outAt l e st pre out) := by simp [outAt]
theorem outAt_good {l : List S52} {e : List S38} {st : List Int} {len : Nat} (HS : ∀ i, i < len → ∀ out2, Good out2 → out2.length = len → ∃ r2, roundL l e st i out2 = some r2 ∧ Good r2 ∧ r2.length = len) :
    ∀ (pre : List (Bn len)) (out : List Int), Good out → out.length = len → Good (outAt l e st pre out) ∧ (outAt l e st pre out).length = len
  | [], out, hg, hl => ⟨hg, hl⟩
  | x :: pre, out, hg, hl => by
    obtain ⟨r2, hr, hg2, hl2⟩ := HS x.1 x.2 out hg hl
    have := outAt_good HS pre r2 hg2 hl2
    simpa [outAt, hr] using this
theorem down_rev : ∀ len, down len len = (List.range len).reverse := fun len => by
  apply List.ext_getElem
  · simp [down]
  · intro i h1 h2
    simp [down, List.getElem_reverse]
theorem fold_ofL {l : List S52} {e : List S38} {st : List Int} : ∀ (k : Nat) {out r : List Int}, ofL l e st k out = some r → (List.range k).reverse.foldl (fun o i => (roundL l e st i o).getD o) out = r
  | 0, out, r, h => by cases h; rfl
  | k + 1, out, r, h => by
    unfold ofL at h
    replace h := Option.bind_eq_some_iff.mp h
    obtain ⟨o, ho, h⟩ := h
    rw [List.range_succ, List.reverse_append]
    simp only [List.reverse_cons, List.reverse_nil, List.nil_append, List.singleton_append, List.foldl_cons, ho, Option.getD_some]
    exact fold_ofL k h
theorem outAt_down {l : List S52} {e : List S38} {st : List Int} {len : Nat} {pre : List (Bn len)} {out r : List Int} (hp : pre.map (fun p => p.1) = down len len) (h : ofL l e st len out = some r) : outAt l e st pre out = r := by
  have h1 := fold_ofL len h
  rw [← down_rev, ← hp, List.foldl_map] at h1
  exact h1

end Go.Proofs.Ytgbickkmfjngbaa.K
