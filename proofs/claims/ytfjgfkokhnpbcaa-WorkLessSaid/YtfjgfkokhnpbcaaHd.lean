/- slices.Clone of whole numbers: a row of one's own. -/
import Derived.Lib.SliceRun
import Derived.Test.YtfjgfkokhnpbcaaUx0
namespace Go.Proofs.Ytfjgfkokhnpbcaa.U
open Go.RowKit Go.Proofs.YtfjgfkokhnpbcaaW.PrintWords Go.Proofs.YtfjgfkokhnpbcaaW.PrintLast Go.Proofs.YtfjgfkokhnpbcaaW.PrintMore
set_option linter.unusedVariables false
set_option linter.unusedSimpArgs false
def slices_Clone_int_int.f (l0 : List Int) : Option (List Int) := if l0.length < 17592186044416 then some l0 else none
set_option maxHeartbeats 4000000 in
theorem slices_Clone_int_int.calls (A0 : Option Addr) (c0 : Nat) (l0 : List Int) (r : List Int) (w : World) (hr0 : Kd.C (Kd.int .i64) w A0 l0.length l0) (hc0 : l0.length ≤ c0) (h : slices_Clone_int_int.f l0 = some r) :
    Calls Try.prog 40 #[.slice A0 l0.length c0] w fun e w' => ∃ v0_ : Value, e = .returned (v0_) ∧ Kd.R (Kd.int .i64) 3 w' w.heap.size (fun _ => True) v0_ r ∧ Below w.heap.size w w' := by
  unfold slices_Clone_int_int.f at h
  by_cases c2 : l0.length < 17592186044416
  case neg => rw [if_neg c2] at h; cases h
  rw [if_pos c2] at h
  obtain rfl := Option.some.inj h
  clear h
  have HR0 := Aside0.mk hr0
  have LM := Aside0.mk c2
  have HC0 := Aside0.mk hc0
  clear hr0 c2 hc0
  have heq : ∀ W : World, (binOp .eql 24 (.slice A0 l0.length c0) (.slice none 0 0)).run Try.prog W = .ok (.bool A0.isNone) W := fun W => Go.Lib.run_eql_slice_nil W 24 3 A0 l0.length c0 0 0 Try.underlying24
  cases A0 with
  | none =>
    have hl : l0 = [] := by
      have := HR0.out.2.2
      by_cases h0 : 0 < l0.length
      · obtain ⟨ad, e, _⟩ := this h0; cases e
      · exact List.eq_nil_of_length_eq_zero (by omega)
    have HL := Aside0.mk hl
    clear hl
    go_enter Try.func40, Try.ntmps40
    go_wp2
    go_ret
    exact ⟨_, rfl, by rw [HL.out]; exact Kd.R_nil _ _ _ _ _, Below.refl _ _⟩
  | some ad =>
    go_enter Try.func40, Try.ntmps40
    go_wp2_with (first
      | ((with_reducible refine gate_dst (N := 5) rfl ?_); refine Kd.R_lit (Kd.int .i64) _ 3 ?hg (N := 5) ?hd (xs := ([] : List Int)) (inner := []) (ok := fun _ => True) (okp := fun _ => True) ?hr ?hp (fun _ hk => hk) trivial (Below.refl _ _) (Nat.le_refl _) (by simp) ?_; (case hd => rfl); (case hg => rfl); (case hr => first | (go_simp; done) | (go_simp; rfl)); (case hp => exact Reps.none _ _); intro v117 w5 ho6 hb hg_ hnew_; clear hg_ hnew_; have HO := Aside0.mk ho6; have HB := Aside0.mk hb; clear ho6 hb)
      | ((with_reducible refine gate_builtin (b := .append) (xs := #[.tmp 5, .tmp 6]) rfl ?_); at_builtin; refine Kd.R_append_rows (Kd.int .i64) (w0 := w) w.heap.size rfl (.tmp 5) (.tmp 6) 24 3 (.int .i64 0) 8 rfl Try.underlying24 info3 rfl (by decide) (by omega) v117 [] l0 _ _ _ (fun _ => True) (fun _ => False) rfl rfl ?aO ?aR (fun _ _ h => h) (fun _ h => h.elim) ?aF ?aB ?aS ?aL ?_; (case aR => exact Kd.C_below HR0.out HB.out); (case aB => exact HB.out); (case aF => exact (fun _ _ => trivial)); (case aO => exact HO.out); (case aS => exact below_size HB.out); (case aL => have := LM.out; simp; omega); intro v120 w8 ho hb hg hat; have HO2 := Aside0.mk ho; have HB2 := Aside0.mk hb; clear ho hb hg hat))
    go_ret
    exact ⟨_, rfl, by simpa using HO2.out, HB2.out⟩
end Go.Proofs.Ytfjgfkokhnpbcaa.U
