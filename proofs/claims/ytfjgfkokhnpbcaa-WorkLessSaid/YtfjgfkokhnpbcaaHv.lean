/- A heap's row of pairs is laid out of a queue's. -/
import Derived.Lib.SliceRun
import Derived.Test.YtfjgfkokhnpbcaaHu
import Derived.Test.YtfjgfkokhnpbcaaUx0
namespace Go.Proofs.Ytfjgfkokhnpbcaa.U
open Go.RowKit Go.Proofs.YtfjgfkokhnpbcaaW.PrintWords Go.Proofs.YtfjgfkokhnpbcaaW.PrintLast Go.Proofs.YtfjgfkokhnpbcaaW.PrintMore
set_option linter.unusedVariables false
set_option linter.unusedSimpArgs false
set_option maxHeartbeats 4000000 in
theorem Clone43 (A0 : Option Addr) (c0 : Nat) (l0 : List S30) (w : World) (hr0 : Kd.C k30 w A0 l0.length l0) (hc0 : l0.length ≤ c0) (c2 : l0.length < 8796093022208) :
    Calls Try.prog 43 #[.slice A0 l0.length c0] w fun e w' => ∃ v0_ : Value, e = .returned (v0_) ∧ Kd.R k30 30 w' w.heap.size (fun _ => True) v0_ l0 ∧ Below w.heap.size w w' := by
  have HR0 := Aside0.mk hr0
  have LM := Aside0.mk c2
  have HC0 := Aside0.mk hc0
  clear hr0 c2 hc0
  have heq : ∀ W : World, (binOp .eql 22 (.slice A0 l0.length c0) (.slice none 0 0)).run Try.prog W = .ok (.bool A0.isNone) W := fun W => Go.Lib.run_eql_slice_nil W 22 30 A0 l0.length c0 0 0 Try.underlying22
  cases A0 with
  | none =>
    have hl : l0 = [] := by
      have := HR0.out.2.2
      by_cases h0 : 0 < l0.length
      · obtain ⟨ad, e, _⟩ := this h0; cases e
      · exact List.eq_nil_of_length_eq_zero (by omega)
    have HL := Aside0.mk hl
    clear hl
    go_enter Try.func43, Try.ntmps43
    go_wp2
    go_ret
    exact ⟨_, rfl, by rw [HL.out]; exact Kd.R_nil _ _ _ _ _, Below.refl _ _⟩
  | some ad =>
    go_enter Try.func43, Try.ntmps43
    go_wp2_with (first
      | ((with_reducible refine gate_dst (N := 5) rfl ?_); refine Kd.R_lit k30 _ 30 ?hg (N := 5) ?hd (xs := ([] : List S30)) (inner := []) (ok := fun _ => True) (okp := fun _ => True) ?hr ?hp (fun _ hk => hk) trivial (Below.refl _ _) (Nat.le_refl _) (by simp) ?_; (case hd => rfl); (case hg => rfl); (case hr => first | (go_simp; done) | (go_simp; rfl)); (case hp => exact Reps.none _ _); intro v117 w5 ho6 hb hg_ hnew_; clear hg_ hnew_; have HO := Aside0.mk ho6; have HB := Aside0.mk hb; clear ho6 hb)
      | ((with_reducible refine gate_builtin (b := .append) (xs := #[.tmp 5, .tmp 6]) rfl ?_); at_builtin; refine Kd.R_append_rows k30 (w0 := w) w.heap.size rfl (.tmp 5) (.tmp 6) 22 30 (.agg #[(.int .i64 0), (.int .i64 0)]) 16 rfl Try.underlying22 info30 rfl (by decide) (by omega) v117 [] l0 _ _ _ (fun _ => True) (fun _ => False) rfl rfl ?aO ?aR (fun _ _ h => h) (fun _ h => h.elim) ?aF ?aB ?aS ?aL ?_; (case aR => exact Kd.C_below HR0.out HB.out); (case aB => exact HB.out); (case aF => exact (fun _ _ => trivial)); (case aO => exact HO.out); (case aS => exact below_size HB.out); (case aL => have := LM.out; simp; omega); intro v120 w8 ho hb hg hat; have HO2 := Aside0.mk ho; have HB2 := Aside0.mk hb; clear ho hb hg hat))
    go_ret
    exact ⟨_, rfl, by simpa using HO2.out, HB2.out⟩
set_option maxHeartbeats 4000000 in
theorem waits26 (A0 : Option Addr) (c0 : Nat) (l0 : List S30) (w : World) (hr0 : Kd.C k30 w A0 l0.length l0) (hc0 : l0.length ≤ c0) (c2 : l0.length < 8796093022208) :
    Calls Try.prog 26 #[.slice A0 l0.length c0] w fun e w' => ∃ g, e = .returned (.tuple #[.pointer (some ⟨g, 0, none⟩), .iface 52 (.pointer (some ⟨g, 0, none⟩))]) ∧ RowAt w.heap.size w' g l0 ∧ Below w.heap.size w w' := by
  have HC := Aside0.mk (Clone43 A0 c0 l0 w hr0 hc0 c2)
  have hu59 := Try.underlying59
  clear hr0 hc0 c2
  go_enter Try.func26, Try.ntmps26
  go_wp2_with fail
  refine HC.out.mono ?_
  rintro e w2 ⟨v, rfl, ho, hb⟩
  obtain ⟨A, c, rfl⟩ := Kd.R_slice ho
  have HO := Aside0.mk ho
  have HB := Aside0.mk hb
  clear ho hb
  go_wp2_with fail
  refine bodyPost_ret (results_tmp2 rfl _ _ _) rfl ?_
  have hR := Kd.R_alloc (Kd.R_elderB HO.out w2.heap.size (Nat.le_refl _)) (.cells #[.slice A l0.length c] 59)
  exact ⟨w2.heap.size, rfl, ⟨_, blk_new _ _, HB.out.size, Kd.R_mono hR (fun k hk => hk.2)⟩, below_alloc HB.out _⟩
end Go.Proofs.Ytfjgfkokhnpbcaa.U
