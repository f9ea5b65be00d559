/- tammylaw03.TermPuts returns true whatever constructors, table, term, limit and place it is given, and leaves them as they were; no conditions. -/
import Derived.Test.YtiliknfmlmdmbaaRows
import Derived.Test.YtiliknfmlmdmbaaQ0
import Derived.Test.YtiliknfmlmdmbaaPh
import Derived.WalkKit
import Derived.ProofKit
import Derived.OpenShut
import Derived.ShutString
import Derived.ChangeOld
import Derived.Below
import Derived.SizedLaws
import Derived.Lib.SmallJoins
namespace Go.Proofs.Ytiliknfmlmdmbaa.termPuts
open Go.ChangeShapes Go.WideShapes Go.ChangeAt Go.RowKit Go.Joins
open Go.ChangeMaps (open_string shut_string)
set_option linter.unusedVariables false
theorem own : ownKnob Try.prog.godebug = none := by kernel_rfl
theorem laidOut : laidOutB Try.prog = true := by kernel_rfl
set_option maxRecDepth 100000 in
theorem lifted (os : Os) (started : os.Started) (H : Type) (enc : TypeId × Value → H) :
    ReturnsInHanded {} Try.checked os 3 .any (Rows.termPutsSpec.pre6 enc Try.prog Try.f3 Rows.termPutsRow.domain false) (Rows.termPutsSpec.post enc Try.prog Try.f3 false true false false) := by
  refine returnsInHanded_of_change_sized (C := Try.checked) own started (by kernel_rfl) Try.func3
    (ChangeSpec.witness6 (enc := enc) (C := Try.checked) false ⟨#[], #[.agg #[.slice none 0 0, .slice none 0 0, .slice none 0 0, .int .i64 0, .int .i64 0, .int .i64 0, .slice none 0 0, .int .i64 0, .int .i64 0]], []⟩ 8 (by kernel_rfl) (by kernel_rfl) (by kernel_rfl) (by kernel_rfl)) ?_
  intro W base args ds gs before hval0 hW hcnd hsz0 _
  have hsz : (DataW.weightsEach Try.prog (Try.f3.params.toList ++ Rows.termPutsSpec.plain.varTypes Try.prog) (ds ++ gs)).all (· ≤ reachBytes) = true := hsz0
  have hval : ∀ (j : Nat) t v, Try.f3.params[j]? = some t → args[j]? = some v → Value.okWide Try.prog W .any base t v := hval0
  have hW' := hW
  obtain ⟨p, q, hA0, hV, rfl, hfz, hnd⟩ := hW
  have hA : DataW.TrodAll enc Try.prog W 0 (fun _ => true) true Try.f3.params.toList args.toList ds p := hA0
  rw [Try.params3] at hA hval hsz
  obtain ⟨v0, vs0, d0, ds0, p0, q0, hargs, rfl, rfl, h0, r0⟩ := trodAll_cons hA
  obtain ⟨rfl, rfl, rfl⟩ := trodAll_nil r0
  obtain rfl : args = #[v0] := by cases args; simp_all
  obtain ⟨rfl, rfl⟩ := trodVars_none hV
  have lw0 : T.Light Try.prog 30 d0 := fun n hn => by simpa using List.all_eq_true.1 hsz n (DataW.weights_mem_each (j := 0) (t := 30) (d := d0) rfl rfl n hn)
  have k0 := h0
  have lt0 : ∀ x ∈ p0, x.block < W.heap.size := by obtain ⟨m, hm⟩ := k0; exact DataW.trod_lt m _ _ _ hm
  obtain ⟨cs, rfl, hsz1, n, hf⟩ := T.open_agg Try.underlying30 (hval 0 30 v0 rfl rfl) h0 lw0
  obtain ⟨v00, v01, v02, v03, v04, v05, v06, v07, v08, rfl⟩ := T.arr9 (hsz1.trans (by kernel_rfl))
  obtain ⟨y0, t0, w0⟩ := hf 0 _ rfl
  obtain ⟨y1, t1, w1⟩ := hf 1 _ rfl
  obtain ⟨y2, t2, w2⟩ := hf 2 _ rfl
  obtain ⟨y3, t3, w3⟩ := hf 3 _ rfl
  obtain ⟨y4, t4, w4⟩ := hf 4 _ rfl
  replace t0 : DataW.trod enc Try.prog W 0 (fun _ => true) true n 22 [v00] = some y0 := t0
  replace t1 : DataW.trod enc Try.prog W 0 (fun _ => true) true n 26 [v01, v02] = some y1 := t1
  replace t2 : DataW.trod enc Try.prog W 0 (fun _ => true) true n 28 [v03, v04, v05, v06] = some y2 := t2
  replace t3 : DataW.trod enc Try.prog W 0 (fun _ => true) true n 3 [v07] = some y3 := t3
  replace t4 : DataW.trod enc Try.prog W 0 (fun _ => true) true n 3 [v08] = some y4 := t4
  obtain ⟨a0, len0, cap0, rfl⟩ := T.slice_of Try.underlying22 t0
  obtain ⟨l0, hr0, rfl, hc0, hl0, hs0⟩ := T.open22 t0
  obtain ⟨A0, c0, A1, c1, keys, slots, rfl, rfl, hK, hKc, hKK, hS, hSc, hSS⟩ := T.open26 t1 w1
  obtain ⟨_, n2, hf2⟩ := T.open_fields Try.underlying28 t2 w2
  obtain ⟨z0, u0, _⟩ := hf2 0 _ rfl
  obtain ⟨z1, u1, _⟩ := hf2 1 _ rfl
  obtain ⟨z2, u2, _⟩ := hf2 2 _ rfl
  obtain ⟨z3, u3, wz3⟩ := hf2 3 _ rfl
  replace u0 : DataW.trod enc Try.prog W 0 (fun _ => true) true n2 3 [v03] = some z0 := u0
  replace u1 : DataW.trod enc Try.prog W 0 (fun _ => true) true n2 3 [v04] = some z1 := u1
  replace u2 : DataW.trod enc Try.prog W 0 (fun _ => true) true n2 3 [v05] = some z2 := u2
  replace u3 : DataW.trod enc Try.prog W 0 (fun _ => true) true n2 24 [v06] = some z3 := u3
  obtain ⟨b0, rfl, hb0⟩ := T.one_int (k := .i64) Try.underlying3 u0
  obtain ⟨b1, rfl, hb1⟩ := T.one_int (k := .i64) Try.underlying3 u1
  obtain ⟨b2, rfl, hb2⟩ := T.one_int (k := .i64) Try.underlying3 u2
  obtain ⟨A3, n3, c3, rfl⟩ := T.slice_of Try.underlying24 u3
  obtain ⟨l3, hr3, rfl, hc3, hs3⟩ := T.open24 u3 wz3
  obtain ⟨b3, rfl, hb3⟩ := T.one_int (k := .i64) Try.underlying3 t3
  obtain ⟨b4, rfl, hb4⟩ := T.one_int (k := .i64) Try.underlying3 t4
  clear hA0 hval0 hsz0 hsz
  obtain ⟨k, hk⟩ := T.TermPuts_true l0 keys slots b0 b1 b2 l3 b3 b4 hl0 hs0 hKK hSS hb0
  refine (T.tammylaw03_TermPuts.calls k a0 cap0 l0 A0 c0 keys A1 c1 slots b0 b1 b2 A3 c3 l3 b3 b4 true W hr0 hc0 hK hKc hS hSc hr3 hc3 hk).mono fun e W' ⟨he, bel⟩ => ?_
  subst he
  exact ⟨_, rfl, _, _, _, [], _, [], hW', trodAll_mk1 (shut_bool Try.underlying4 _), (trodAll_cons_mk (Below.trod laidOut (by kernel_rfl) (of_decide_eq_true (by kernel_rfl)) k0 bel lt0) trodAll_mk0), rfl, bel.frame _, fun h => by cases h⟩
theorem over : Rows.termPutsRow.holds Try.pinned (OpenSpec.ofChange Rows.termPutsSpec) :=
  OpenClaim.holds_of_wide 3 Try.f3 rfl rfl rfl rfl rfl rfl rfl ⟨rfl, rfl, rfl, rfl, rfl⟩ rfl rfl rfl rfl rfl (by kernel_rfl) Try.func3 (by kernel_rfl)
    (of_decide_eq_true (by kernel_rfl)) (by unfold Func.isWrapper; first | (rw [if_pos (by decide +kernel)]; kernel_rfl) | (rw [if_neg (by decide +kernel)]; exact ⟨rfl, rfl⟩))
    (fun os started H enc _ => lifted os started H enc)
theorem proved : Rows.TermPutsSaid := over
#print axioms proved
end Go.Proofs.Ytiliknfmlmdmbaa.termPuts
namespace Go.Proofs.Ytiliknfmlmdmbaa
/-- The row, under a short name, for the claim. -/
theorem termPuts_holds : Rows.TermPutsSaid := termPuts.proved
end Go.Proofs.Ytiliknfmlmdmbaa
