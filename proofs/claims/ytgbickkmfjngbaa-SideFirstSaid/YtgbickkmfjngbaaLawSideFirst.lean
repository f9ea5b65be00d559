/- tammylaw08.SideFirst returns true whatever constructors, nodes, side and place it is given, and leaves them as they were; no conditions. -/
import Derived.Test.YtgbickkmfjngbaaRows
import Derived.Test.YtgbickkmfjngbaaKx20
import Derived.Test.YtgbickkmfjngbaaQ0
import Derived.Test.YtgbickkmfjngbaaQf
import Derived.WalkKit
import Derived.ProofKit
import Derived.OpenShut
import Derived.ShutString
import Derived.ChangeOld
import Derived.Below
import Derived.SizedLaws
import Derived.Lib.SmallJoins
namespace Go.Proofs.Ytgbickkmfjngbaa.sideFirst
open Go.ChangeShapes Go.WideShapes Go.ChangeAt Go.RowKit Go.Joins
open Go.ChangeMaps (open_string shut_string)
set_option linter.unusedVariables false
theorem own : ownKnob Try.prog.godebug = none := by kernel_rfl
theorem laidOut : laidOutB Try.prog = true := by kernel_rfl
set_option maxRecDepth 100000 in
theorem lifted (os : Os) (started : os.Started) (H : Type) (enc : TypeId × Value → H) :
    ReturnsInHanded {} Try.checked os 8 .any (Rows.sideFirstSpec.pre6 enc Try.prog Try.f8 Rows.sideFirstRow.domain false) (Rows.sideFirstSpec.post enc Try.prog Try.f8 false true false false) := by
  refine returnsInHanded_of_change_sized (C := Try.checked) own started (by kernel_rfl) Try.func8
    (ChangeSpec.witness6 (enc := enc) (C := Try.checked) false ⟨#[], #[.agg #[.slice none 0 0, .slice none 0 0, .int .u8 0, .int .i64 0]], []⟩ 8 (by kernel_rfl) (by kernel_rfl) (by kernel_rfl) (by kernel_rfl)) ?_
  intro W base args ds gs before hval0 hW hcnd hsz0 _
  have hsz : (DataW.weightsEach Try.prog (Try.f8.params.toList ++ Rows.sideFirstSpec.plain.varTypes Try.prog) (ds ++ gs)).all (· ≤ reachBytes) = true := hsz0
  have hval : ∀ (j : Nat) t v, Try.f8.params[j]? = some t → args[j]? = some v → Value.okWide Try.prog W .any base t v := hval0
  have hW' := hW
  obtain ⟨p, q, hA0, hV, rfl, hfz, hnd⟩ := hW
  have hA : DataW.TrodAll enc Try.prog W 0 (fun _ => true) true Try.f8.params.toList args.toList ds p := hA0
  rw [Try.params8] at hA hval hsz
  obtain ⟨v0, vs0, d0, ds0, p0, q0, hargs, rfl, rfl, h0, r0⟩ := trodAll_cons hA
  obtain ⟨rfl, rfl, rfl⟩ := trodAll_nil r0
  obtain rfl : args = #[v0] := by cases args; simp_all
  obtain ⟨rfl, rfl⟩ := trodVars_none hV
  have k0 := h0
  have lt0 : ∀ x ∈ p0, x.block < W.heap.size := by obtain ⟨m, hm⟩ := k0; exact DataW.trod_lt m _ _ _ hm
  have hv0 : Value.okWide Try.prog W .any base 47 v0 := hval 0 47 v0 rfl rfl
  obtain ⟨w0, w1, w2, w3, y0, y1, y2, y3, m, hve, rfl, rfl, g0, g1, g2, g3⟩ := open_agg4 Try.underlying47 (by kernel_rfl) (by kernel_rfl) hv0 h0
  obtain ⟨a0, len0, cap0, rfl⟩ : ∃ a len cap, w0 = .slice a len cap := K.slice_of Try.underlying22 g0
  obtain ⟨l0, hr0, rfl, hc0, hl0⟩ := K.open22 g0
  obtain ⟨a1, len1, cap1, rfl⟩ : ∃ a len cap, w1 = .slice a len cap := K.slice_of Try.underlying23 g1
  obtain ⟨l1, hr1, rfl, hc1, hl1⟩ := K.open23 g1
  obtain ⟨a2, rfl, hw2⟩ := K.one_int (k := .u8) Try.underlying5 g2
  obtain ⟨a3, rfl, hw3⟩ := K.one_int (k := .i64) Try.underlying3 g3
  subst hve
  clear hA0 hval0 hsz0 hsz
  obtain ⟨k, hk⟩ := K.SideFirst_true l0 l1 a2 a3 hl0 hl1 hw2 hw3
  refine (K.tammylaw08_SideFirst.calls k a0 cap0 l0 a1 cap1 l1 a2 a3 true W hr0 hc0 hr1 hc1 hk).mono fun e W' ⟨he, bel⟩ => ?_
  subst he
  exact ⟨_, rfl, _, _, _, [], _, [], hW', trodAll_mk1 (shut_bool Try.underlying4 _), (trodAll_cons_mk (Below.trod laidOut (by kernel_rfl) (of_decide_eq_true (by kernel_rfl)) k0 bel lt0) trodAll_mk0), rfl, bel.frame _, fun h => by cases h⟩
theorem over : Rows.sideFirstRow.holds Try.pinned (OpenSpec.ofChange Rows.sideFirstSpec) :=
  OpenClaim.holds_of_wide 8 Try.f8 rfl rfl rfl rfl rfl rfl rfl ⟨rfl, rfl, rfl, rfl, rfl⟩ rfl rfl rfl rfl rfl (by kernel_rfl) Try.func8 (by kernel_rfl)
    (of_decide_eq_true (by kernel_rfl)) (by unfold Func.isWrapper; first | (rw [if_pos (by decide +kernel)]; kernel_rfl) | (rw [if_neg (by decide +kernel)]; exact ⟨rfl, rfl⟩))
    (fun os started H enc _ => lifted os started H enc)
theorem proved : Rows.SideFirstSaid := over
#print axioms proved
end Go.Proofs.Ytgbickkmfjngbaa.sideFirst
namespace Go.Proofs.Ytgbickkmfjngbaa
/-- The row, under a short name, for the claim. -/
theorem sideFirst_holds : Rows.SideFirstSaid := sideFirst.proved
end Go.Proofs.Ytgbickkmfjngbaa
