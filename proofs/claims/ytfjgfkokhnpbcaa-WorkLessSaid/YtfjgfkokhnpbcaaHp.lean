/- Pairs: which one is less; the methods of a row of pairs. -/
import Derived.Handy
import Derived.Outline
import Derived.Sort.CutIn
import Derived.Deep.DeepCutAuto
import Derived.Deep.CutBlock
import Derived.Test.YtfjgfkokhnpbcaaUx0
import Derived.Test.YtfjgfkokhnpbcaaUx2
namespace Go.Proofs.Ytfjgfkokhnpbcaa.U
open Go.RowKit Go.Proofs.YtfjgfkokhnpbcaaW.PrintWords Go.Proofs.YtfjgfkokhnpbcaaW.PrintLast Go.Proofs.YtfjgfkokhnpbcaaW.PrintMore
set_option linter.unusedVariables false
set_option linter.unusedSimpArgs false

def less2 (p q : S30) : Bool := decide (p.f0 < q.f0) || (p.f0 == q.f0 && decide (p.f1 < q.f1))
theorem compare_f (a b : Int) : cmp_Compare_int.f a b = some (if a < b then -1 else if a > b then 1 else 0) := by
  unfold cmp_Compare_int.f cmp_isNaN_int.f
  simp only [bne_self_eq_false, Option.bind_some, Bool.false_eq_true, if_false]
  split
  · rfl
  · split <;> rfl
theorem pair_less_f (p q : S30) : work_pair_less.f 3 p.f0 p.f1 q.f0 q.f1 = some (less2 p q) := by
  unfold work_pair_less.f less2
  rw [compare_f, compare_f]
  simp only [Option.bind_some]
  rcases Int.lt_trichotomy p.f0 q.f0 with h | h | h
  · rw [if_pos h]
    simp [cmp_Or_int.f, cmp_Or_int.l0, rd, h]
  · rw [h]
    rcases Int.lt_trichotomy p.f1 q.f1 with h1 | h1 | h1
    · simp [cmp_Or_int.f, cmp_Or_int.l0, rd, h1, wrap64]
    · simp [cmp_Or_int.f, cmp_Or_int.l0, rd, h1, wrap64]
    · have : ¬ p.f1 < q.f1 := by omega
      simp [cmp_Or_int.f, cmp_Or_int.l0, rd, h1, this, wrap64]
  · have h0 : ¬ p.f0 < q.f0 := by omega
    have h1 : ¬ p.f0 = q.f0 := by omega
    simp [cmp_Or_int.f, cmp_Or_int.l0, rd, h, h0, h1]
theorem Less13 (a0 a1 b0 b1 : Int) (w : World) :
    Calls Try.prog 13 #[.agg #[.int .i64 a0, .int .i64 a1], .agg #[.int .i64 b0, .int .i64 b1]] w fun e w' => e = .returned (.bool (less2 ⟨a0, a1⟩ ⟨b0, b1⟩)) ∧ Below w.heap.size w w' := by
  have hu30 := Try.underlying30
  go_enter Try.func13, Try.ntmps13
  go_wp2_with fail
  refine (work_pair_less.calls 3 a0 a1 b0 b1 _ _ (pair_less_f ⟨a0, a1⟩ ⟨b0, b1⟩)).mono ?_
  rintro e w2 ⟨rfl, hb⟩
  go_wp2_with fail
  go_ret
  exact ⟨rfl, below_step (below_alloc (below_alloc (Below.refl _ _) _) _) hb⟩
/-- The pairs of a heap's row, in memory: the block of the row's state, and the pairs. All of it is new since 'base'. -/
def RowAt (base : Nat) (w : World) (g : Nat) (l : List S30) : Prop := ∃ v, w.heap[g]? = some (.cells #[v] 59 (0, 0)) ∧ base ≤ g ∧ k30.R 30 w base (fun k => k ≠ g) v l
theorem RowAt.below {base : Nat} {w w1 : World} {g : Nat} {l : List S30} (h : RowAt base w g l) (hb : Below w.heap.size w w1) : RowAt base w1 g l := by
  obtain ⟨v, h1, h2, h3⟩ := h
  exact ⟨v, blk_below h1 hb, h2, Kd.R_below h3 hb⟩
theorem Len72 (base g : Nat) (l : List S30) (w : World) (h : RowAt base w g l) : Calls Try.prog 72 #[.pointer (some ⟨g, 0, none⟩)] w fun e w' => e = .returned (.int .i64 (l.length : Int)) ∧ w' = w := by
  obtain ⟨v, h1, h2, h3⟩ := h
  obtain ⟨A, c, rfl⟩ := Kd.R_slice h3
  have hc0 := (blk_cell h1 0).trans rfl
  have hu59 := Try.underlying59
  go_enter Try.func72, Try.ntmps72
  go_wp2_with fail
  go_ret
  exact ⟨rfl, rfl⟩
end Go.Proofs.Ytfjgfkokhnpbcaa.U
