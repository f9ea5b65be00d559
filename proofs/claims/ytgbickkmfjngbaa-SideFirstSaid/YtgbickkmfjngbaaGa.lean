/- slices.Backward over a row of whole numbers: its contract as an iterator; expr.kids, expr.Starts. -/
import Derived.RangeFuncNested
import Derived.RangeFuncBound
import Derived.RangeFuncCalls
import Derived.RangeFuncLeaves
import Derived.RangeFuncBox
import Derived.Shelf.Abstract
import Derived.Shelf.RegionOpen
import Derived.WalkKit
import Derived.OwnWalkIn
import Derived.TacticsInMore
import Derived.LoopNIn
import Derived.LoopIn
import Derived.Outline
import Derived.Test.YtgbickkmfjngbaaKx1
namespace Go.Proofs.Ytgbickkmfjngbaa.K
open Go.RowKit Go.Shelf Go.Proofs.YtgbickkmfjngbaaW.PrintWords Go.Proofs.YtgbickkmfjngbaaW.PrintLast Go.Proofs.YtgbickkmfjngbaaG.Words

attribute [local go_sem] Oper.semAt_some
set_option linter.unusedVariables false
set_option linter.unusedSimpArgs false

/-- The first j of len - 1, len - 2, .. -/
def down (len j : Nat) : List Nat := (List.range j).map fun i => len - 1 - i
theorem down_succ (len j : Nat) : down len (j + 1) = down len j ++ [len - 1 - j] := by simp [down, List.range_succ]
theorem down_length (len j : Nat) : (down len j).length = j := by simp [down]

/-- Ranged over: a number below len, and some whole number. -/
abbrev Bk (len : Nat) := { p : Nat × Int // p.1 < len }

/-- The row is there: each of its cells holds a whole number. -/
def RowI (A : Option Addr) (len : Nat) (W : World) : Prop := ∀ i, i < len → ∃ ad x, A = some ad ∧ W.cell? (ad.add i) = some (.int .i64 x)
/-- What slices.Backward reads between two rounds. -/
def KpI (Bs : Nat) (A : Option Addr) (len cap : Nat) (W : World) : Prop := W.cell? ⟨Bs, 0, none⟩ = some (.slice A len cap) ∧ RowI A len W

set_option maxRecDepth 100000 in
set_option maxHeartbeats 2000000 in
theorem back56_in (F : Fence) (n : Nat) (h56 : F.fn 56) (hro : F.round = none) (hn : 1 ≤ n) (l Bs len cap : Nat) (A : Option Addr) (hlen : len ≤ 9223372036854775807) (J Jx : List (Bk len) → World → Prop)
    (hY : ∀ pre x W, J pre W → pre.length < len → YieldAt F (n - 1) Try.prog l #[.int .i64 ((x : Bk len).1.1 : Int), .int .i64 x.1.2] W fun e W' =>
      (e = .returned (.bool true) ∧ J (pre ++ [x]) W' ∧ (KpI Bs A len cap W → KpI Bs A len cap W')) ∨ (e = .returned (.bool false) ∧ Jx (pre ++ [x]) W'))
    (W : World) (hK : KpI Bs A len cap W) (h0 : J [] W) :
    CallsIn F n Try.prog 56 #[.func (.yield l) #[] #[], .pointer (some ⟨Bs, 0, none⟩)] W fun e W' => (∃ v, e = .returned v) ∧
      ((∃ ys, ys.map (fun p : Bk len => p.1.1) = down len len ∧ J ys W') ∨ (∃ pre, True ∧ Jx pre W')) := by
  refine callsIn_of_wp Try.func56 rfl h56 ?_ hro
  simp only [Try.ntmps56, List.size_toArray, List.length_cons, List.length_nil, Nat.reduceAdd, Nat.reduceSub, Array.replicate_succ, Array.replicate_zero, List.push_toArray, List.append_toArray, List.nil_append, List.cons_append]
  have hb := hK.1
  gi_wp2
  gi_loopw [3] (fun i wr => ∃ (k : Nat) (pre : List (Bk len)), k ≤ len ∧ i = .int .i64 ((k : Int) - 1) ∧ pre.map (fun p : Bk len => p.1.1) = down len (len - k) ∧ J pre wr ∧ KpI Bs A len cap wr)
    (fun i _ => (intOf i + 1).toNat)
  case atStart => exact ⟨len, [], Nat.le_refl _, by simp, by simp [down], h0, hK⟩
  case round =>
    obtain ⟨k, pre, hk, rfl, hpre, hJs, hKr⟩ := hrel
    by_cases hlt : 0 < k
    · obtain ⟨ad, x, hA, hcx⟩ := hKr.2 (k - 1) (by omega)
      have hlen' : pre.length = len - k := by simpa [down] using congrArg List.length hpre
      obtain ⟨fn, tmps, assign, body, hy, hR⟩ := hY pre ⟨(k - 1, x), by omega⟩ wr hJs (by omega)
      dsimp only at hy
      have e1 : ((k - 1 : Nat) : Int) = (k : Int) - 1 := by omega
      rw [e1] at hy
      subst hA
      have hbr := hKr.1
      have hge : 0 ≤ (k : Int) - 1 := by omega
      have hlt2 : (k : Int) - 1 < len := by omega
      clear e1
      gi_wp2
      refine hR.mono ?_
      rintro e W3 (⟨rfl, hJ3, hk3⟩ | ⟨rfl, hJx3⟩)
      · have hK3 := hk3 hKr
        gi_wp2
        go_roundw
        case rel => exact ⟨k - 1, _, by omega, by congr 1; omega, by rw [List.map_append, hpre, show len - (k - 1) = len - k + 1 by omega, down_succ]; simp; omega, hJ3, hK3⟩
        case measure => simp [intOf]; omega
      · gi_wp2
        refine bodyPost_ret (results_none rfl _ _ _) rfl ?_
        exact ⟨⟨_, rfl⟩, .inr ⟨_, trivial, hJx3⟩⟩
    · obtain rfl : k = 0 := by omega
      have hge : ¬ 0 ≤ ((0 : Nat) : Int) - 1 := by omega
      gi_wp2
      go_end0
      exact ⟨⟨_, rfl⟩, .inl ⟨_, by simpa using hpre, hJs⟩⟩

theorem KpI.below {Bs len cap : Nat} {A : Option Addr} {w W : World} (h : KpI Bs A len cap w) (hb : Below w.heap.size w W) : KpI Bs A len cap W :=
  ⟨pw_cell_below hb h.1, fun i hi => by obtain ⟨ad, x, e, hc⟩ := h.2 i hi; exact ⟨ad, x, e, pw_cell_below hb hc⟩⟩
theorem KpI.put {Bs len cap : Nat} {A : Option Addr} {W : World} {l : Nat} {o : Obj} (o' : Obj) (h : KpI Bs A len cap W) (hl : W.heap[l]? = some o) (ho : o.isCells = false) : KpI Bs A len cap (W.putObj l o') :=
  ⟨cell_kept h.1 (grownBy_putObj' W l o') (fun r e => by cases e; exact ⟨o, hl, ho⟩), fun i hi => by obtain ⟨ad, x, e, hc⟩ := h.2 i hi; exact ⟨ad, x, e, cell_kept hc (grownBy_putObj' W l o') (fun r e => by cases e; exact ⟨o, hl, ho⟩)⟩⟩

theorem back56_stops (F : Fence) (n : Nat) (h56 : F.fn 56) (hro : F.round = none) (hn : 1 ≤ n) (Bs len cap : Nat) (A : Option Addr) (hlen : len ≤ 9223372036854775807) (w : World) (hK : KpI Bs A len cap w) :
    SeqStopsK F n Try.prog 56 #[.pointer (some ⟨Bs, 0, none⟩)] (fun x : Bk len => #[.int .i64 (x.1.1 : Int), .int .i64 x.1.2]) (fun W W' => KpI Bs A len cap W → KpI Bs A len cap W')
      (fun ys => ys.map (fun p : Bk len => p.1.1) = down len len) (fun _ => True) len w := fun l J Jx W hW _ _ hY h0 =>
  back56_in F n h56 hro hn l Bs len cap A hlen J Jx hY W (hK.below hW) h0

set_option maxHeartbeats 1000000 in
theorem back54 (a : Option Addr) (len cap : Nat) (w : World) :
    Calls Try.prog 54 #[.slice a len cap] w fun e w' => e = .returned (.func (.func 56) #[] #[.pointer (some ⟨w.heap.size, 0, none⟩)]) ∧ w' = w.alloc (.cells #[.slice a len cap] 41) := by
  go_enter Try.func54, Try.ntmps54
  go_wp2
  go_ret
  exact ⟨rfl, rfl⟩

/-! ### What a turn of a block that is no cells leaves -/
theorem box_keeps {W W' : World} {b : Nat} {t : TypeId} {v : Value} {row : Option Nat} (h : Boxed W b t v) (hg : W.grownBy W' row) (hr : ∀ r, row = some r → ∃ o : Obj, W.heap[r]? = some o ∧ o.isCells = false) : Boxed W' b t v :=
  h.kept hg (fun e => by obtain ⟨o, ho, hc⟩ := hr b e.symm; rw [show W.heap[b]? = _ from h] at ho; cases ho; cases hc)
theorem box_far {W : World} {b : Nat} {t : TypeId} {v : Value} (h : Boxed W b t v) {p : Addr} (hne : b ≠ p.block) (u : Value) : Boxed (W.setCell p u) b t v := (Below.heap_setCell W p u b hne).trans h
theorem R_keeps {α : Type} {d : Kd α} (hE : d.E = []) {e base : Nat} {ok : Nat → Prop} {W W' : World} {v : Value} {xs : List α} {row : Option Nat} (h : Kd.R d e W base ok v xs) (hg : W.grownBy W' row) (hr : ∀ r, row = some r → ∃ o : Obj, W.heap[r]? = some o ∧ o.isCells = false) : Kd.R d e W' base ok v xs :=
  Kd.R_grown2 h hE hg (fun k ek e' => by
    obtain ⟨o, ho, hc⟩ := hr k ek
    obtain ⟨cells, hcl⟩ := Kd.R_typed h k e'.symm
    rw [hcl] at ho; cases ho; cases hc)
theorem RowI_of_R {e base n c : Nat} {ok : Nat → Prop} {W : World} {A : Option Addr} {xs : List Int} (h : Kd.R (Kd.int .i64) e W base ok (.slice A n c) xs) : RowI A n W := fun i hi => by
  obtain ⟨rfl, _, hc⟩ := Kd.R_reads' h
  obtain ⟨ad, ea, hcell⟩ := Kd.at_int hc (i : Int) (by omega) (by omega)
  exact ⟨ad, _, ea, hcell⟩

/-! ### expr.kids -/
/-- Where the j-th part from behind ends. -/
def endAt (st : List Int) (e : Int) : Nat → Int
  | 0 => e
  | j + 1 => wrap64 (rd st (endAt st e j) - 1)
def kidsL (st : List Int) : Nat → Int → List Int → Option (List Int)
  | 0, _, acc => some acc
  | k + 1, e, acc => if 0 ≤ e then (if e < (st.length : Int) then kidsL st k (wrap64 (rd st e - 1)) (e :: acc) else none) else none
def expr_kids.f (l0 : List S38) (l1 : List Int) (a2 : Int) : Option (List Int) :=
  if 0 ≤ a2 then (if a2 < (l0.length : Int) then ((expr_parts.f (rd_T38 l0 a2).f0 (rd_T38 l0 a2).f1 (rd_T38 l0 a2).f2).bind fun m =>
    if 0 ≤ m then (if m.toNat ≤ 35184372088832 then kidsL l1 m.toNat (wrap64 (a2 - 1)) [] else none) else none) else none) else none
theorem endAt_shift (st : List Int) (e : Int) (j : Nat) : endAt st e (j + 1) = endAt st (wrap64 (rd st e - 1)) j := by
  induction j with
  | zero => rfl
  | succ j ih => rw [endAt, ih]; rfl
theorem kidsL_some {st : List Int} : ∀ {k : Nat} {e : Int} {acc r : List Int}, kidsL st k e acc = some r →
    (∀ j, j < k → 0 ≤ endAt st e j ∧ endAt st e j < (st.length : Int)) ∧ r = ((List.range k).map (endAt st e)).reverse ++ acc
  | 0, e, acc, r, h => by cases h; exact ⟨fun j hj => absurd hj (Nat.not_lt_zero j), rfl⟩
  | k + 1, e, acc, r, h => by
    unfold kidsL at h
    by_cases h0 : 0 ≤ e
    · rw [if_pos h0] at h
      by_cases h1 : e < (st.length : Int)
      · rw [if_pos h1] at h
        obtain ⟨ha, hr⟩ := kidsL_some h
        refine ⟨fun j hj => ?_, ?_⟩
        · cases j with
          | zero => exact ⟨h0, h1⟩
          | succ j => rw [endAt_shift]; exact ha j (by omega)
        · rw [hr, List.range_succ_eq_map]
          simp only [List.map_cons, List.map_map, List.reverse_cons, List.append_assoc, List.singleton_append]
          congr 2
          apply List.map_congr_left
          intro j _
          exact (endAt_shift st e j).symm
      · rw [if_neg h1] at h; cases h
    · rw [if_neg h0] at h; cases h

theorem snoc_of {α : Type} {l : List α} (h : 0 < l.length) : ∃ ini x, l = ini ++ [x] :=
  ⟨l.dropLast, l.getLast (by intro e; subst e; simp at h), (List.dropLast_concat_getLast _).symm⟩
/-- What the rounds have written. -/
def written (st : List Int) (e : Int) {len : Nat} (pre : List (Bk len)) (out : List Int) : List Int := pre.zipIdx.foldl (fun o p => o.set p.1.1.1 (endAt st e p.2)) out
theorem written_snoc (st : List Int) (e : Int) {len : Nat} (pre : List (Bk len)) (x : Bk len) (out : List Int) : written st e (pre ++ [x]) out = (written st e pre out).set x.1.1 (endAt st e pre.length) := by
  simp [written, List.zipIdx_append]
theorem written_length (st : List Int) (e : Int) {len : Nat} (out : List Int) : ∀ (n : Nat) (pre : List (Bk len)), pre.length = n → (written st e pre out).length = out.length
  | 0, pre, h => by rw [List.eq_nil_of_length_eq_zero h]; rfl
  | n + 1, pre, h => by
    obtain ⟨ini, x, rfl⟩ := snoc_of (by omega : 0 < pre.length)
    rw [written_snoc, List.length_set]
    exact written_length st e out n ini (by simpa using h)
theorem written_down (st : List Int) (e : Int) {len : Nat} : ∀ (j : Nat), j ≤ len → ∀ (pre : List (Bk len)), pre.map (fun p => p.1.1) = down len j →
    written st e pre (List.replicate len 0) = List.replicate (len - j) 0 ++ ((List.range j).map (endAt st e)).reverse
  | 0, _, pre, h => by
    have : pre = [] := by simpa [down] using h
    subst this
    simp [written]
  | j + 1, hj, pre, h => by
    have hl : pre.length = j + 1 := by simpa [down] using congrArg List.length h
    obtain ⟨ini, x, rfl⟩ := snoc_of (by omega : 0 < pre.length)
    rw [down_succ, List.map_append] at h
    obtain ⟨h1, h2⟩ := List.append_inj' h rfl
    have hx : x.1.1 = len - 1 - j := by simpa using h2
    have hil : ini.length = j := by simpa using hl
    rw [written_snoc, written_down st e j (by omega) ini h1, hx, hil, List.range_succ, List.map_append, List.reverse_append]
    have e1 : len - j = (len - (j + 1)) + 1 := by omega
    rw [e1, List.replicate_succ', List.append_assoc, List.set_append_right _ _ (by simp; omega)]
    simp [show len - 1 - j - (len - (j + 1)) = 0 by omega]

set_option maxRecDepth 100000 in
set_option maxHeartbeats 4000000 in
theorem kids_calls (A0 : Option Addr) (c0 : Nat) (l0 : List (S38)) (A1 : Option Addr) (c1 : Nat) (l1 : List Int) (a2 : Int) (r : List Int) (w : World) (hr0 : Kd.C k38 w A0 l0.length l0) (hc0 : l0.length ≤ c0) (hr1 : Kd.C (Kd.int .i64) w A1 l1.length l1) (hc1 : l1.length ≤ c1) (h : expr_kids.f l0 l1 a2 = some r) :
    Calls Try.prog 43 #[.slice A0 l0.length c0, .slice A1 l1.length c1, .int .i64 a2] w fun e w' => ∃ v0_ : Value, e = .returned (v0_) ∧ Kd.R (Kd.int .i64) 3 w' w.heap.size (fun _ => True) v0_ r ∧ Below w.heap.size w w' := by
  have hu38 := Try.underlying38
  unfold expr_kids.f at h
  by_cases h0 : 0 ≤ a2
  case neg => rw [if_neg h0] at h; cases h
  rw [if_pos h0] at h
  by_cases h1 : a2 < (l0.length : Int)
  case neg => rw [if_neg h1] at h; cases h
  rw [if_pos h1] at h
  replace h := Option.bind_eq_some_iff.mp h
  obtain ⟨m, hm, h⟩ := h
  by_cases h2 : 0 ≤ m
  case neg => rw [if_neg h2] at h; cases h
  rw [if_pos h2] at h
  by_cases h3 : m.toNat ≤ 35184372088832
  case neg => rw [if_neg h3] at h; cases h
  rw [if_pos h3] at h
  have HK := Aside0.mk (kidsL_some h)
  have HM := Aside0.mk hm
  have HR0 := Aside0.mk hr0
  have HR1 := Aside0.mk hr1
  clear h hm hr0 hr1
  obtain ⟨ad, e, hx0, hx1, hx2⟩ := at_T38 HR0.out a2 h0 h1
  cases e
  have hBx : Below w.heap.size w (w.alloc (.cells #[.slice A1 l1.length c1] 41)) := below_alloc (Below.refl _ _) _
  replace hx0 := pw_cell_below hBx hx0
  replace hx1 := pw_cell_below hBx hx1
  replace hx2 := pw_cell_below hBx hx2
  refine callsIn_wide.1 (callsIn_of_wp_marks (F := Fence.wide) (n := 3) Try.func43 rfl trivial ?_ rfl)
  refine wpIn_wide.2 ?_
  simp only [Try.ntmps43, List.size_toArray, List.length_cons, List.length_nil, Nat.reduceAdd, Nat.reduceSub, Array.replicate_succ, Array.replicate_zero, List.push_toArray, List.append_toArray, List.nil_append, List.cons_append]
  go_wp2_with (first | ((with_reducible refine gate_callee (f := 53) rfl ?_); refine goesL_ (some 14) rfl rfl Try.func53 (by kernel_rfl) rfl #[.agg #[.int .i64 ((rd_T38 l0 a2).f0), .string ((rd_T38 l0 a2).f1), .int .i64 ((rd_T38 l0 a2).f2)]] rfl (by (try simp only [List.map_toArray, List.map_cons, List.map_nil]); first | done | rfl) ?_; (with_reducible refine (expr_parts.calls _ _ _ m _ HM.out).mono ?_); rintro e w10 ⟨rfl, hb10⟩; refine ⟨_, rfl, ?_⟩) | ((with_reducible refine gate_dst (N := 15) rfl ?_); refine Kd.R_make (Kd.int .i64) _ 3 rfl (N := 15) rfl 41 _ _ rfl m rfl rfl Try.underlying41 (.int .i64 0) 8 info3 rfl (by decide) (by omega) 0 (ok := fun _ => True) (okp := fun _ => True) rfl (fun _ hk => hk) trivial h2 (by omega) (Below.refl _ _) (Nat.le_refl _) ?_; intro v11 w11 ho11 hb11 hg_ hnew_; clear hg_ hnew_; obtain ⟨A2, c2, rfl⟩ := Kd.R_slice ho11; rw [List.length_replicate] at ho11 ⊢) | ((with_reducible refine gate_callee (f := 54) rfl ?_); refine goesL_ (some 19) rfl rfl Try.func54 (by kernel_rfl) rfl #[.slice A2 m.toNat c2] rfl (by (try simp only [List.map_toArray, List.map_cons, List.map_nil]); first | done | rfl) ?_; (with_reducible refine (back54 _ _ _ _).mono ?_); rintro e w12 ⟨rfl, hw12⟩; refine ⟨_, rfl, ?_⟩; subst hw12))
  have hb1 : Below w.heap.size w w11 := below_step (below_step hBx hb10) hb11
  have hle := hb1.size
  have hlt : ∀ k, (Value.slice A2 m.toNat c2).ownBlock = some k → k < w11.heap.size := Kd.R_lt ho11
  have hs10 : w.heap.size + 1 ≤ w10.heap.size := by have := hb10.size; simpa using this
  have hro : Kd.R (Kd.int .i64) 3 w11 w10.heap.size (fun k => k < w11.heap.size) (.slice A2 m.toNat c2) (List.replicate m.toNat 0) := Kd.R_reok rfl ho11 hlt
  have hb2 : Below w11.heap.size w11 ((w11.alloc (.cells #[.slice A2 m.toNat c2] 41)).alloc (.cells #[.int .i64 (wrap64 (a2 - 1))] 3)) := below_alloc (below_alloc (Below.refl _ _) _) _
  have hb3 : Below w11.heap.size w11 (((w11.alloc (.cells #[.slice A2 m.toNat c2] 41)).alloc (.cells #[.int .i64 (wrap64 (a2 - 1))] 3)).alloc (.cells #[.slice A2 m.toNat c2] 41)) := below_alloc hb2 _
  have bS : Boxed (((w11.alloc (.cells #[.slice A2 m.toNat c2] 41)).alloc (.cells #[.int .i64 (wrap64 (a2 - 1))] 3)).alloc (.cells #[.slice A2 m.toNat c2] 41)) w.heap.size 41 (.slice A1 l1.length c1) :=
    blk_below (blk_below (blk_below (Boxed.new w 41 (.slice A1 l1.length c1)) hb10) hb11) hb3
  have b7 := Boxed.new w11 41 (.slice A2 m.toNat c2)
  have b8 := Boxed.new (w11.alloc (.cells #[.slice A2 m.toNat c2] 41)) 3 (.int .i64 (wrap64 (a2 - 1)))
  have b9 := Boxed.new ((w11.alloc (.cells #[.slice A2 m.toNat c2] 41)).alloc (.cells #[.int .i64 (wrap64 (a2 - 1))] 3)) 41 (.slice A2 m.toNat c2)
  simp only [World.size_alloc] at b8 b9
  have b7' := (b7.alloc (.cells #[.int .i64 (wrap64 (a2 - 1))] 3)).alloc (.cells #[.slice A2 m.toNat c2] 41)
  have b8' := b8.alloc (.cells #[.slice A2 m.toNat c2] 41)
  have hr3 := Kd.R_below hro hb3
  have hB3 := below_step hb1 hb3
  obtain ⟨W0, hW0⟩ : ∃ W0, (((w11.alloc (.cells #[.slice A2 m.toNat c2] 41)).alloc (.cells #[.int .i64 (wrap64 (a2 - 1))] 3)).alloc (.cells #[.slice A2 m.toNat c2] 41)) = W0 := ⟨_, rfl⟩
  have hsz : W0.heap.size = w11.heap.size + 3 := by rw [← hW0]; simp
  rw [hW0] at bS b7' b8' b9 hr3 hB3 ⊢
  simp only [World.size_alloc]
  have HK1 := HK.out.1
  refine (wpIn_wide (n := 3)).1 (wpIn_rangeFunc_ownG (n := 3) rfl (by omega) (gf := 56) (lb := #[.pointer (some ⟨w11.heap.size + 1 + 1, 0, none⟩)]) rfl trivial (enters_of Try.func56 (by kernel_rfl) rfl)
    (back56_stops Fence.wide (3 - 1) trivial rfl (by omega) (w11.heap.size + 1 + 1) m.toNat c2 A2 (by omega) W0 ⟨b9.cell, ?row⟩) (fun h k x => k (h x)) (fun W l o o' hl h ho _ hk => hk.put o' h ho) (Below.refl _ _) (fun _ => rfl)
    (fun pre W => (Boxed W w.heap.size 41 (.slice A1 l1.length c1) ∧ Boxed W w11.heap.size 41 (.slice A2 m.toNat c2) ∧ Boxed W (w11.heap.size + 1) 3 (.int .i64 (endAt l1 (wrap64 (a2 - 1)) pre.length)) ∧ Boxed W (w11.heap.size + 1 + 1) 41 (.slice A2 m.toNat c2) ∧ Kd.R (Kd.int .i64) 3 W w10.heap.size (fun k => k < w11.heap.size) (.slice A2 m.toNat c2) (written l1 (wrap64 (a2 - 1)) pre (List.replicate m.toNat 0))) ∧ Below w.heap.size w W)
    (fun _ _ _ => False)
    ?own
    (fun _ _ _ _ _ hs _ _ => hs)
    ⟨⟨bS, b7', b8', b9, hr3⟩, hB3⟩
    (fun x => { tmps := #[.slice (some ad) l0.length c0, .slice A1 l1.length c1, .int .i64 a2, undef, .pointer (some ⟨w.heap.size, 0, none⟩), undef, .slice none 0 0, .pointer (some ⟨w11.heap.size, 0, none⟩), .pointer (some ⟨w11.heap.size + 1, 0, none⟩), .int .i64 (x.1.1 : Int), .slice (some ad) l0.length c0, .int .i64 a2, .pointer (some (ad.add (a2.toNat * 3))), .agg #[.int .i64 (rd_T38 l0 a2).f0, .string (rd_T38 l0 a2).f1, .int .i64 (rd_T38 l0 a2).f2], .int .i64 m, .slice A2 m.toNat c2, .int .i64 a2, .int .i64 (wrap64 (a2 - 1)), .slice A2 m.toNat c2, .func (.func 56) #[] #[.pointer (some ⟨w11.heap.size + 1 + 1, 0, none⟩)], .int .i64 (x.1.1 : Int), .int .i64 x.1.2, undef, undef, undef, undef, undef, undef, undef, undef, undef, undef], defers := [] })
    ?assign ?body ?done ?stop)
  case row => exact RowI_of_R hr3
  case own =>
    exact OwnFrom.and (fun s X Y row hs hg hr => ⟨box_keeps hs.1 hg (fun r e => (hr r e).2), box_keeps hs.2.1 hg (fun r e => (hr r e).2), box_keeps hs.2.2.1 hg (fun r e => (hr r e).2), box_keeps hs.2.2.2.1 hg (fun r e => (hr r e).2), R_keeps rfl hs.2.2.2.2 hg (fun r e => (hr r e).2)⟩) (ownFrom_below (Nat.le_refl _) (by omega))
  case assign =>
    intro l x W K hK
    gi_wp2
    exact hK
  case body =>
    clear bS b7 b8 b9 b7' b8' hr3 hB3 hro ho11 hb2 hb3
    rintro l pre x W ⟨⟨bS, b7, b8, b9, hR⟩, hB⟩ hlen
    obtain ⟨hE0, hE1⟩ := HK1 pre.length hlen
    have HES := Aside0.mk (show endAt l1 (wrap64 (a2 - 1)) (pre.length + 1) = wrap64 (rd l1 (endAt l1 (wrap64 (a2 - 1)) pre.length) - 1) from rfl)
    obtain ⟨E, hE⟩ : ∃ E, endAt l1 (wrap64 (a2 - 1)) pre.length = E := ⟨_, rfl⟩
    rw [hE] at hE0 hE1 HES b8
    have HE := Aside0.mk hE
    clear hE
    have hwl := written_length l1 (wrap64 (a2 - 1)) (List.replicate m.toNat 0) _ pre rfl
    rw [List.length_replicate] at hwl
    obtain ⟨g, cc, eg, gb, gl, gc⟩ := Kd.R_form hR (by omega)
    rw [hwl] at eg
    cases eg
    have hgl : g < w11.heap.size := hlt g rfl
    have hx := x.2
    obtain ⟨hcg, hfg⟩ := Kd.R_celln 0 hR (x.1.1 : Int) (by omega) (by omega)
    have hP := Kd.R_putn hR (x.1.1 : Int) E
    rw [Int.toNat_natCast] at hcg hfg hP
    obtain ⟨ad1, e1, hl0⟩ := Kd.at_int HR1.out E hE0 hE1
    cases e1
    have hB1 : Below w.heap.size w (W.setCell ⟨g, x.1.1, none⟩ (.int .i64 E)) := hB.setCell (p := ⟨g, x.1.1, none⟩) (by dsimp only; omega) _
    have hl1 := pw_cell_below hB1 hl0
    have bS1 := box_far bS (p := ⟨g, x.1.1, none⟩) (by dsimp only; omega) (.int .i64 E)
    have b71 := box_far b7 (p := ⟨g, x.1.1, none⟩) (by dsimp only; omega) (.int .i64 E)
    have b81 := box_far b8 (p := ⟨g, x.1.1, none⟩) (by dsimp only; omega) (.int .i64 E)
    have b91 := box_far b9 (p := ⟨g, x.1.1, none⟩) (by dsimp only; omega) (.int .i64 E)
    have hc7 := b7.cell
    have hc8 := b8.cell
    have hcS1 := bS1.cell
    have hc81 := b81.cell
    have hf81 := b81.frozen
    have hxm : (x.1.1 : Int) < (m.toNat : Int) := by omega
    gi_wp2
    have hR2 : Kd.R (Kd.int .i64) 3 ((W.setCell ⟨g, x.1.1, none⟩ (.int .i64 E)).setCell ⟨w11.heap.size + 1, 0, none⟩ (.int .i64 (wrap64 (rd l1 E - 1)))) w10.heap.size (fun k => k < w11.heap.size) (.slice (some ⟨g, 0, none⟩) m.toNat c2) (written l1 (wrap64 (a2 - 1)) (pre ++ [x]) (List.replicate m.toNat 0)) := by
      rw [written_snoc, HE.out]
      exact Kd.R_far hP (fun k hk => by dsimp only; omega) _
    refine ⟨((KeepsOthers.setCell _ _ _).trans (KeepsOthers.setCell _ _ _)).from _, fun hk => ⟨?_, RowI_of_R hR2⟩, ⟨box_far bS1 (by dsimp only; omega) _, box_far b71 (by dsimp only; omega) _, ?_, box_far b91 (by dsimp only; omega) _, hR2⟩, hB1.setCell (p := ⟨w11.heap.size + 1, 0, none⟩) (by dsimp only; omega) _⟩
    · exact (box_far b91 (by dsimp only; omega) _).cell
    · rw [List.length_append, List.length_singleton, HES.out]
      exact b81.set _
  case done =>
    rintro D ys W hD hys ⟨⟨kS, k7, k8, k9, hR⟩, hB⟩ hK
    have hc7 := k7.cell
    go_wp2
    have hfin : written l1 (wrap64 (a2 - 1)) ys (List.replicate m.toNat 0) = r := by
      rw [written_down _ _ m.toNat (Nat.le_refl _) ys hys, Nat.sub_self, HK.out.2]
      simp
    rw [hfin] at hR
    refine ⟨by simp, .inl ⟨_, _, rfl, run_takeDeferred hK, ?_⟩⟩
    have hg := grownBy_putObj' W D (.deferred none)
    have hgr : ∀ r, some D = some r → ∃ o : Obj, W.heap[r]? = some o ∧ o.isCells = false := fun r e => by cases e; exact ⟨_, hK, rfl⟩
    exact ⟨_, results_tmp rfl _ _ _, _, rfl, Kd.R_lower (Kd.R_mono (R_keeps rfl hR hg hgr) (fun _ _ => trivial)) (by omega), hB.trans (belowK_b (w := w) (Nat.le_refl _) W D _ _ (by omega) hK rfl rfl)⟩
  case stop =>
    rintro D c pre W _ _ h _
    exact h.elim

/-! ### expr.Starts -/
def startsL (e : List S38) : Nat → Nat → List Int → Option (List Int)
  | 0, _, st => some st
  | k + 1, j, st => (expr_kids.f e (st.set j j) j).bind fun ks =>
    if 0 < ks.length then (if 0 ≤ rd ks 0 then (if rd ks 0 < (st.length : Int) then startsL e k (j + 1) ((st.set j j).set j (rd (st.set j j) (rd ks 0))) else none) else none)
    else startsL e k (j + 1) (st.set j j)
def expr_Starts.f (l0 : List S38) : Option (List Int) := if l0.length ≤ 35184372088832 then startsL l0 l0.length 0 (List.replicate l0.length 0) else none

set_option maxRecDepth 100000 in
set_option maxHeartbeats 4000000 in
theorem expr_Starts.calls (A0 : Option Addr) (c0 : Nat) (l0 : List (S38)) (r : List Int) (w : World) (hr0 : Kd.C k38 w A0 l0.length l0) (hc0 : l0.length ≤ c0) (h : expr_Starts.f l0 = some r) :
    Calls Try.prog 26 #[.slice A0 l0.length c0] w fun e w' => ∃ v0_ : Value, e = .returned (v0_) ∧ Kd.R (Kd.int .i64) 3 w' w.heap.size (fun _ => True) v0_ r ∧ Below w.heap.size w w' := by
  unfold expr_Starts.f at h
  by_cases h1 : l0.length ≤ 35184372088832
  case neg => rw [if_neg h1] at h; cases h
  rw [if_pos h1] at h
  have HR0 := Aside0.mk hr0
  have H := Aside0.mk h
  clear h hr0
  go_enter Try.func26, Try.ntmps26
  go_wp2_with (first | ((with_reducible refine gate_dst (N := 8) rfl ?_); refine Kd.R_make (Kd.int .i64) _ 3 rfl (N := 8) rfl 41 _ _ rfl (l0.length : Int) rfl rfl Try.underlying41 (.int .i64 0) 8 info3 rfl (by decide) (by omega) 0 (ok := fun _ => True) (okp := fun _ => True) rfl (fun _ hk => hk) trivial (by omega) (by omega) (Below.refl _ _) (Nat.le_refl _) ?_; intro v11 w11 ho11 hb11 hg_ hnew_; clear hg_ hnew_; obtain ⟨A2, c2, rfl⟩ := Kd.R_slice ho11; rw [Int.toNat_natCast] at ho11; rw [Int.toNat_natCast, List.length_replicate] at ⊢))
  go_loopw [11] (fun i wr => ∃ (k j : Nat) (st : List Int), i = .int .i64 j ∧ k + j = l0.length ∧ Aside0 (st.length = l0.length) ∧ Aside0 (startsL l0 k j st = some r) ∧ Aside0 (Kd.R (Kd.int .i64) 3 wr w.heap.size (fun _ => True) (.slice A2 l0.length c2) st) ∧ Aside0 (Below w.heap.size w wr)) (fun i _ => l0.length - (intOf i).toNat)
  case atStart => exact ⟨l0.length, 0, _, rfl, rfl, ⟨List.length_replicate⟩, H, ⟨by rw [List.length_replicate] at ho11; exact ho11⟩, ⟨hb11⟩⟩
  case round =>
    obtain ⟨k, j, st, rfl, hkj, HL, HA, HR, HB⟩ := hrel
    cases k with
    | zero =>
      have : ¬ j < l0.length := by omega
      obtain rfl : st = r := Option.some.inj HA.out
      go_wp2
      go_ret
      exact ⟨_, rfl, HR.out, HB.out⟩
    | succ k =>
      have hjl : j < l0.length := by omega
      have H := HA.out
      clear HA
      unfold startsL at H
      replace H := Option.bind_eq_some_iff.mp H
      obtain ⟨ks, hks, H⟩ := H
      have HKS := Aside0.mk hks
      clear hks
      obtain ⟨g, cc, eg, gb, gl, gc⟩ := Kd.R_form HR.out (by rw [HL.out]; omega)
      rw [HL.out] at eg
      cases eg
      obtain ⟨hcg, hfg⟩ := Kd.R_celln 0 HR.out (j : Int) (by omega) (by omega)
      have hP := Aside0.mk (Kd.R_putn HR.out (j : Int) (j : Int))
      rw [Int.toNat_natCast] at hcg hfg hP
      have hB1 := Aside0.mk (HB.out.setCell (p := ⟨g, j, none⟩) gb (.int .i64 (j : Int)))
      have hC1 := Aside0.mk (Kd.C_below HR0.out hB1.out)
      have hC2 := Aside0.mk (show Kd.C (Kd.int .i64) (wr.setCell ⟨g, j, none⟩ (.int .i64 (j : Int))) (some ⟨g, 0, none⟩) (st.set j (j : Int)).length (st.set j (j : Int)) from (Kd.R_reads' hP.out).2.2)
      have hji : (j : Int) < (l0.length : Int) := by omega
      have hsl : (st.set j (j : Int)).length = l0.length := by rw [List.length_set, HL.out]
      have HSL := Aside0.mk hsl
      have hgb := Aside0.mk gb
      clear hsl gb gl gc
      by_cases hpos : 0 < ks.length
      · rw [if_pos hpos] at H
        by_cases hk0 : 0 ≤ rd ks 0
        case neg => rw [if_neg hk0] at H; cases H
        rw [if_pos hk0] at H
        by_cases hk1 : rd ks 0 < (st.length : Int)
        case neg => rw [if_neg hk1] at H; cases H
        rw [if_pos hk1] at H
        have H' := Aside0.mk H
        clear H
        have hk1' : rd ks 0 < (l0.length : Int) := by rw [HL.out] at hk1; exact hk1
        clear hk1
        go_wp2_with fail
        refine calls_of_args (by rw [HSL.out]) ((kids_calls _ _ l0 _ c2 (st.set j (j : Int)) _ ks _ hC1.out hc0 hC2.out (by have := Kd.R_reads' hP.out; omega) HKS.out).mono ?_)
        rintro e w2 ⟨v2, rfl, hR2, hb2⟩
        obtain ⟨A3, c3, rfl⟩ := Kd.R_slice hR2
        have hB2 := Aside0.mk (below_step hB1.out hb2)
        have hP2 := Aside0.mk (Kd.R_below hP.out hb2)
        obtain ⟨ad3, ea3, hcell3⟩ := Kd.at_int (Kd.R_reads' hR2).2.2 0 (by omega) (by omega)
        cases ea3
        have hc30 : w2.cell? ad3 = some (.int .i64 (rd ks 0)) := by simpa [Addr.add] using hcell3
        clear hcell3
        obtain ⟨hcs2, hfs2⟩ := Kd.R_celln 0 hP2.out (rd ks 0) hk0 hk1'
        obtain ⟨hcj2, hfj2⟩ := Kd.R_celln 0 hP2.out (j : Int) (by omega) hji
        rw [Int.toNat_natCast] at hcj2 hfj2
        have hR2' := Aside0.mk hR2
        clear hR2 hb2
        go_wp2
        go_roundw
        case rel =>
          have hP3 := Kd.R_putn hP2.out (j : Int) (rd (st.set j (j : Int)) (rd ks 0))
          rw [Int.toNat_natCast] at hP3
          exact ⟨k, j + 1, _, by congr 1, by omega, ⟨by rw [List.length_set]; exact HSL.out⟩, H', ⟨hP3⟩, ⟨hB2.out.setCell (p := ⟨g, j, none⟩) hgb.out _⟩⟩
        case measure => simp [intOf]; omega
      · rw [if_neg hpos] at H
        have hk0 : ks.length = 0 := by omega
        have H' := Aside0.mk H
        clear H hpos
        go_wp2_with fail
        refine calls_of_args (by rw [HSL.out]) ((kids_calls _ _ l0 _ c2 (st.set j (j : Int)) _ ks _ hC1.out hc0 hC2.out (by have := Kd.R_reads' hP.out; omega) HKS.out).mono ?_)
        rintro e w2 ⟨v2, rfl, hR2, hb2⟩
        obtain ⟨A3, c3, rfl⟩ := Kd.R_slice hR2
        have hB2 := Aside0.mk (below_step hB1.out hb2)
        have hP2 := Aside0.mk (Kd.R_below hP.out hb2)
        rw [hk0] at hR2 ⊢
        clear hR2 hb2
        go_wp2
        go_roundw
        case rel =>
          exact ⟨k, j + 1, _, by congr 1, by omega, ⟨HSL.out⟩, H', ⟨hP2.out⟩, ⟨hB2.out⟩⟩
        case measure => simp [intOf]; omega

end Go.Proofs.Ytgbickkmfjngbaa.K
