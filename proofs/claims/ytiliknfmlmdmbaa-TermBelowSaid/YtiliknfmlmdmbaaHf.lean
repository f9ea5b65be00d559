/- term.may: may a term be, of so many terms ahead? Its map of how many parts a kind has. -/
import Derived.Maps.OwnOps
import Derived.Maps.OwnSet
import Derived.Test.YtiliknfmlmdmbaaHe
import Derived.Test.YtiliknfmlmdmbaaTx0
namespace Go.Proofs.Ytiliknfmlmdmbaa.T
open Go.RowKit Go.Proofs.YtiliknfmlmdmbaaW.PrintWords Go.Proofs.YtiliknfmlmdmbaaW.PrintLast Go.Proofs.YtiliknfmlmdmbaaW.PrintMore
set_option linter.unusedVariables false
set_option linter.unusedSimpArgs false
/-- How many parts a kind has, by the map; is it there? -/
def kindN (a : Int) : Int := if a = 4 ∨ a = 5 then 2 else if a = 6 then 1 else 0
def kindIs (a : Int) : Bool := decide (a = 0 ∨ a = 1 ∨ a = 2 ∨ a = 4 ∨ a = 5 ∨ a = 6)
theorem kinds_map (w : World) : ∃ w1 w2 w3 w4 w5 w6 : World,
    (Instr.mapUpdate 69 (.map (some w.heap.size)) (.int .i64 0) (.int .i64 0)).run Try.prog (w.alloc (.map #[] 0)) = .ok () w1 ∧
    (Instr.mapUpdate 69 (.map (some w.heap.size)) (.int .i64 1) (.int .i64 0)).run Try.prog w1 = .ok () w2 ∧
    (Instr.mapUpdate 69 (.map (some w.heap.size)) (.int .i64 2) (.int .i64 0)).run Try.prog w2 = .ok () w3 ∧
    (Instr.mapUpdate 69 (.map (some w.heap.size)) (.int .i64 4) (.int .i64 2)).run Try.prog w3 = .ok () w4 ∧
    (Instr.mapUpdate 69 (.map (some w.heap.size)) (.int .i64 5) (.int .i64 2)).run Try.prog w4 = .ok () w5 ∧
    (Instr.mapUpdate 69 (.map (some w.heap.size)) (.int .i64 6) (.int .i64 1)).run Try.prog w5 = .ok () w6 ∧
    Below w.heap.size w w6 ∧ ∀ a0 : Int, (Lit.int .i64 a0).wf = true →
      (Instr.lookup 69 (.map (some w.heap.size)) (.int .i64 a0) true).run Try.prog w6 = .ok (.tuple #[.int .i64 (kindN a0), .bool (kindIs a0)]) w6 := by
  have h0 := World.ownsMap_made (H := Unit) w Try.prog 3 (plainElem Try.prog 3)
  have K := Maps.int_keyed (P := Try.prog) Try.underlying3
  have hk : ∀ a : Int, (Lit.int .i64 a).wf = true → keyOf Try.prog 3 (.int .i64 a) = some (.int .i64 a) := fun a h => Maps.keyOf_int_mk Try.underlying3 h
  have hv : ∀ a : Int, (Lit.int .i64 a).wf = true → plainElem (H := Unit) Try.prog 3 (.int .i64 a) = some (.lit (.int .i64 a), []) := fun a h => plainElem_int Try.underlying3 h
  obtain ⟨w1, r1, o1, g1⟩ := h0.update K Try.underlying69 (by decide) (hk 0 (by decide)) (hv 0 (by decide))
  obtain ⟨w2, r2, o2, g2⟩ := o1.update K Try.underlying69 (by decide) (hk 1 (by decide)) (hv 0 (by decide))
  obtain ⟨w3, r3, o3, g3⟩ := o2.update K Try.underlying69 (by decide) (hk 2 (by decide)) (hv 0 (by decide))
  obtain ⟨w4, r4, o4, g4⟩ := o3.update K Try.underlying69 (by decide) (hk 4 (by decide)) (hv 2 (by decide))
  obtain ⟨w5, r5, o5, g5⟩ := o4.update K Try.underlying69 (by decide) (hk 5 (by decide)) (hv 2 (by decide))
  obtain ⟨w6, r6, o6, g6⟩ := o5.update K Try.underlying69 (by decide) (hk 6 (by decide)) (hv 1 (by decide))
  have hb0 : Below w.heap.size w (w.alloc (.map #[] 0)) := below_alloc (Below.refl _ _) _
  have hb1 := hb0.grown g1 hb0.size (fun k e => by cases e; exact Nat.le_refl _)
  have hb2 := hb1.grown g2 hb1.size (fun k e => by cases e; exact Nat.le_refl _)
  have hb3 := hb2.grown g3 hb2.size (fun k e => by cases e; exact Nat.le_refl _)
  have hb4 := hb3.grown g4 hb3.size (fun k e => by cases e; exact Nat.le_refl _)
  have hb5 := hb4.grown g5 hb4.size (fun k e => by cases e; exact Nat.le_refl _)
  have hb6 := hb5.grown g6 hb5.size (fun k e => by cases e; exact Nat.le_refl _)
  refine ⟨w1, w2, w3, w4, w5, w6, r1, r2, r3, r4, r5, r6, hb6, fun a0 ha => ?_⟩
  have hz : (zeroValue 3).run Try.prog w6 = .ok (.int .i64 0) w6 := by kernel_rfl
  obtain ⟨v, ps, hrun, hR⟩ := o6.look_ok K Try.underlying69 hz (hv 0 (by decide)) (hk a0 ha)
  obtain ⟨c, rfl, hc, hwc⟩ := plainElem_int_inv Try.underlying3 hR
  simp only [Prod.mk.injEq] at hc
  have hc := hc.1
  rw [hrun]
  have ne : ∀ x : Int, a0 ≠ x → (Lit.int .i64 a0) ≠ (Lit.int .i64 x) := fun x h e => h (by injection e)
  by_cases e0 : a0 = 0
  · subst e0; injection hc with hc; injection hc with _ hc; rw [← hc]; rfl
  by_cases e1 : a0 = 1
  · subst e1; injection hc with hc; injection hc with _ hc; rw [← hc]; rfl
  by_cases e2 : a0 = 2
  · subst e2; injection hc with hc; injection hc with _ hc; rw [← hc]; rfl
  by_cases e4 : a0 = 4
  · subst e4; injection hc with hc; injection hc with _ hc; rw [← hc]; rfl
  by_cases e5 : a0 = 5
  · subst e5; injection hc with hc; injection hc with _ hc; rw [← hc]; rfl
  by_cases e6 : a0 = 6
  · subst e6; injection hc with hc; injection hc with _ hc; rw [← hc]; rfl
  rw [Maps.atKey_put_other (ne 6 e6), Maps.atKey_put_other (ne 5 e5), Maps.atKey_put_other (ne 4 e4), Maps.atKey_put_other (ne 2 e2), Maps.atKey_put_other (ne 1 e1), Maps.atKey_put_other (ne 0 e0)] at hc
  rw [Maps.has_put_other (ne 6 e6), Maps.has_put_other (ne 5 e5), Maps.has_put_other (ne 4 e4), Maps.has_put_other (ne 2 e2), Maps.has_put_other (ne 1 e1), Maps.has_put_other (ne 0 e0)]
  have hc2 : (DataW.lit (H := Unit) (.int .i64 0)) = .lit (.int .i64 c) := hc
  injection hc2 with hc2
  injection hc2 with _ hc2
  rw [← hc2]
  have k1 : kindN a0 = 0 := by unfold kindN; rw [if_neg (by omega), if_neg e6]
  have k2 : kindIs a0 = false := by unfold kindIs; exact decide_eq_false (by omega)
  rw [k1, k2]
  rfl
/-- How many parts the constructor at a place has; -1: there is none. -/
def arityOf (l : List S62) (sym : Int) : Int := if 0 ≤ sym then (if sym < (l.length : Int) then ((rd_T62 l sym).f1.size : Int) else -1) else -1
def mayN (l : List S62) (k sym : Int) : Int := if k = 3 then arityOf l sym else kindN k
def mayIs (k : Int) : Bool := if k = 3 then true else kindIs k
def mayHead (l : List S62) (k sym part : Int) : Bool :=
  if k = 2 then (if sym ≥ 0 then part == 0 else false) else if k = 3 then (if arityOf l sym ≥ 0 then part == 0 else false)
  else if k = 6 then (if part ≥ 0 then decide (part < arityOf l sym) else false) else (if sym = 0 then part == 0 else false)
def term_may.f (l0 : List S62) (a1 : Int) (a2_0 a2_1 a2_2 : Int) (l2_3 : List Int) : Option Bool :=
  if (Lit.int .i64 a2_0).wf = true then some (if mayIs a2_0 = true then (if mayHead l0 a2_0 a2_1 a2_2 = true then (if (l2_3.length : Int) = mayN l0 a2_0 a2_1 then !(decide (idxI a1 l2_3 0 ≥ 0)) else false) else false) else false) else none
end Go.Proofs.Ytiliknfmlmdmbaa.T
