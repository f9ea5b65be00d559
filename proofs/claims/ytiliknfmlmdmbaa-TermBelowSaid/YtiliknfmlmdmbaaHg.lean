/- term.may: may a term be? walked. -/
import Derived.Test.YtiliknfmlmdmbaaHf
import Derived.Outline
import Derived.Sort.CutIn
import Derived.Deep.DeepCutAuto
import Derived.Deep.CutBlock
import Derived.Deep.QuietTactic
import Derived.BigQuiet
import Derived.Test.YtiliknfmlmdmbaaTx0
namespace Go.Proofs.Ytiliknfmlmdmbaa.T
open Go.RowKit Go.Proofs.YtiliknfmlmdmbaaW.PrintWords Go.Proofs.YtiliknfmlmdmbaaW.PrintLast Go.Proofs.YtiliknfmlmdmbaaW.PrintMore
set_option linter.unusedVariables false
set_option linter.unusedSimpArgs false
set_option maxRecDepth 100000 in
set_option maxHeartbeats 4000000 in
theorem term_may.calls (A0 : Option Addr) (c0 : Nat) (l0 : List (S62)) (a1 : Int) (a2_0 : Int) (a2_1 : Int) (a2_2 : Int) (A2_3 : Option Addr) (c2_3 : Nat) (l2_3 : List Int) (r : Bool) (w : World) (hr0 : Kd.C k62 w A0 l0.length l0) (hc0 : l0.length ≤ c0) (hr2_3 : Kd.C (Kd.int .i64) w A2_3 l2_3.length l2_3) (hc2_3 : l2_3.length ≤ c2_3) (h : term_may.f l0 a1 a2_0 a2_1 a2_2 l2_3 = some r) :
    Calls Try.prog 33 #[.slice A0 l0.length c0, .int .i64 a1, .agg #[.int .i64 a2_0, .int .i64 a2_1, .int .i64 a2_2, .slice A2_3 l2_3.length c2_3]] w fun e w' => e = .returned (.bool r) ∧ Below w.heap.size w w' := by
  have hu28 := Try.underlying28
  have hu62 := Try.underlying62
  have hmm := @run_makeMap Try.prog
  have HR0 := Aside0.mk hr0
  have HR2 := Aside0.mk hr2_3
  clear hr0 hr2_3
  unfold term_may.f at h
  by_cases hw : (Lit.int .i64 a2_0).wf = true
  case neg => rw [if_neg hw] at h; cases h
  rw [if_pos hw] at h
  have H := Aside0.mk (Option.some.inj h)
  clear h
  obtain ⟨w1, w2, w3, w4, w5, w6, r1, r2, r3, r4, r5, r6, hb, hl⟩ := kinds_map ((w.alloc (.cells #[.int .i64 a1] 3)).alloc (.cells #[.int .i64 a2_0, .int .i64 a2_1, .int .i64 a2_2, .slice A2_3 l2_3.length c2_3] 28))
  have hl0 := hl a2_0 hw
  have bM : Boxed ((w.alloc (.cells #[.int .i64 a1] 3)).alloc (.cells #[.int .i64 a2_0, .int .i64 a2_1, .int .i64 a2_2, .slice A2_3 l2_3.length c2_3] 28)) w.heap.size 3 (.int .i64 a1) := (Boxed.new w 3 (.int .i64 a1)).alloc _
  have bT : ((w.alloc (.cells #[.int .i64 a1] 3)).alloc (.cells #[.int .i64 a2_0, .int .i64 a2_1, .int .i64 a2_2, .slice A2_3 l2_3.length c2_3] 28)).heap[w.heap.size + 1]? = some (.cells #[.int .i64 a2_0, .int .i64 a2_1, .int .i64 a2_2, .slice A2_3 l2_3.length c2_3] 28 (0, 0)) := by
    have := World.alloc_heap_new (w.alloc (.cells #[.int .i64 a1] 3)) (.cells #[.int .i64 a2_0, .int .i64 a2_1, .int .i64 a2_2, .slice A2_3 l2_3.length c2_3] 28)
    rwa [World.size_alloc] at this
  have bM6 : Boxed w6 w.heap.size 3 (.int .i64 a1) := blk_below bM hb
  have bT6 := blk_below bT hb
  have hcM := Aside0.mk bM6.cell
  have hz0 : w6.cell? ⟨w.heap.size + 1, 0, none⟩ = some (.int .i64 a2_0) := (blk_cell bT6 0).trans rfl
  have hz1 : w6.cell? ⟨w.heap.size + 1, 1, none⟩ = some (.int .i64 a2_1) := (blk_cell bT6 1).trans rfl
  have hz2 : w6.cell? ⟨w.heap.size + 1, 2, none⟩ = some (.int .i64 a2_2) := (blk_cell bT6 2).trans rfl
  have hz3 : w6.cell? ⟨w.heap.size + 1, 3, none⟩ = some (.slice A2_3 l2_3.length c2_3) := (blk_cell bT6 3).trans rfl
  clear bM bT bM6 bT6
  have HB := Aside0.mk (show Below w.heap.size w w6 from below_step (below_alloc (below_alloc (Below.refl _ _) _) _) hb)
  clear hl hb hw
  simp only [World.size_alloc] at r1 r2 r3 r4 r5 r6 hl0
  have hC47 := Aside0.mk (contains47 A2_3 c2_3 l2_3 a1 w.heap.size w6 (Kd.C_below HR2.out HB.out) hcM.out)
  have hC47q := fun n : Nat => Aside0.mk (contains47 A2_3 c2_3 l2_3 a1 w.heap.size (w6.drewN n) (Kd.C_drewN (Kd.C_below HR2.out HB.out) n) hcM.out)
  by_cases hin : 0 ≤ a2_1 ∧ a2_1 < (l0.length : Int)
  · have hi0 : 0 ≤ a2_1 := hin.1
    have hi1 : a2_1 < (l0.length : Int) := hin.2
    have HA := Aside0.mk (show arityOf l0 a2_1 = ((rd_T62 l0 a2_1).f1.size : Int) by unfold arityOf; rw [if_pos hi0, if_pos hi1])
    clear hin
    obtain ⟨ad, rfl, hx0, hx1⟩ := at_T62 (Kd.C_below HR0.out HB.out) a2_1 hi0 hi1
    by_cases h3 : a2_0 = 3
    · subst h3
      go_enter Try.func33, Try.ntmps33
      go_upto_region 11 with (fail)
      all_goals go_quiet (fail)
      all_goals go_wp2_with (first | (go_at_call 47; refine ((hC47q _).out).mono ?_; rintro e w7 ⟨rfl, hb7⟩; have HB7 := Aside0.mk (below_step (pw_below_drewN HB.out _) hb7); clear hb7))
      all_goals go_ret
      all_goals refine ⟨?_, ?_⟩
      all_goals (first | exact HB7.out | exact pw_below_drewN HB.out _ | skip)
      all_goals (refine congrArg (fun b => Ending.returned (Value.bool b)) ?_; rw [← H.out]; have HA2 := HA.out; subst_vars; simp [mayIs, mayHead, mayN, kindN, kindIs, HA2, *])
    · have h3b : (a2_0 == 3) = false := beq_eq_false_iff_ne.mpr h3
      by_cases h2 : a2_0 = 2
      · subst h2
        go_enter Try.func33, Try.ntmps33
        go_wp2_with (first | (go_at_call 47; refine (hC47.out).mono ?_; rintro e w7 ⟨rfl, hb7⟩; have HB7 := Aside0.mk (below_step HB.out hb7); clear hb7))
        all_goals go_ret
        all_goals refine ⟨?_, ?_⟩
        all_goals (first | exact HB7.out | exact HB.out | skip)
        all_goals (refine congrArg (fun b => Ending.returned (Value.bool b)) ?_; rw [← H.out]; have HA2 := HA.out; subst_vars; clear hC47 hC47q HB hcM HR0 HR2 hl0 r1 r2 r3 r4 r5 r6 hmm hu28 hu62; first | (simp [mayIs, mayHead, mayN, HA2, *]; done) | (simp [mayIs, mayHead, mayN, HA2, *] <;> (intros; simp_all; done)) | (simp [mayIs, mayHead, mayN, HA2, *] <;> (intros; simp_all <;> omega)))
      · have h2b : (a2_0 == 2) = false := beq_eq_false_iff_ne.mpr h2
        by_cases h6 : a2_0 = 6
        · subst h6
          go_enter Try.func33, Try.ntmps33
          go_wp2_with (first | (go_at_call 47; refine (hC47.out).mono ?_; rintro e w7 ⟨rfl, hb7⟩; have HB7 := Aside0.mk (below_step HB.out hb7); clear hb7))
          all_goals go_ret
          all_goals refine ⟨?_, ?_⟩
          all_goals (first | exact HB7.out | exact HB.out | skip)
          all_goals (refine congrArg (fun b => Ending.returned (Value.bool b)) ?_; rw [← H.out]; have HA2 := HA.out; subst_vars; clear hC47 hC47q HB hcM HR0 HR2 hl0 r1 r2 r3 r4 r5 r6 hmm hu28 hu62; first | (simp [mayIs, mayHead, mayN, HA2, *]; done) | (simp [mayIs, mayHead, mayN, HA2, *] <;> (intros; simp_all; done)) | (simp [mayIs, mayHead, mayN, HA2, *] <;> (intros; simp_all <;> omega)))
        · have h6b : (a2_0 == 6) = false := beq_eq_false_iff_ne.mpr h6
          go_enter Try.func33, Try.ntmps33
          go_wp2_with (first | (go_at_call 47; refine (hC47.out).mono ?_; rintro e w7 ⟨rfl, hb7⟩; have HB7 := Aside0.mk (below_step HB.out hb7); clear hb7))
          all_goals go_ret
          all_goals refine ⟨?_, ?_⟩
          all_goals (first | exact HB7.out | exact HB.out | skip)
          all_goals (refine congrArg (fun b => Ending.returned (Value.bool b)) ?_; rw [← H.out]; have HA2 := HA.out; subst_vars; clear hC47 hC47q HB hcM HR0 HR2 hl0 r1 r2 r3 r4 r5 r6 hmm hu28 hu62; first | (simp [mayIs, mayHead, mayN, HA2, *]; done) | (simp [mayIs, mayHead, mayN, HA2, *] <;> (intros; simp_all; done)) | (simp [mayIs, mayHead, mayN, HA2, *] <;> (intros; simp_all <;> omega)))
  · have HA := Aside0.mk (show arityOf l0 a2_1 = -1 by unfold arityOf; exact (if h : 0 ≤ a2_1 then (by rw [if_pos h, if_neg (fun q2 => hin ⟨h, q2⟩)]) else (by rw [if_neg h])))
    by_cases q : 0 ≤ a2_1
    · have hi1 : ¬ (a2_1 < (l0.length : Int)) := fun q2 => hin ⟨q, q2⟩
      clear hin
      by_cases h3 : a2_0 = 3
      · subst h3
        go_enter Try.func33, Try.ntmps33
        go_upto_region 11 with (fail)
        all_goals go_quiet (fail)
        all_goals go_wp2_with (first | (go_at_call 47; refine ((hC47q _).out).mono ?_; rintro e w7 ⟨rfl, hb7⟩; have HB7 := Aside0.mk (below_step (pw_below_drewN HB.out _) hb7); clear hb7))
        all_goals go_ret
        all_goals refine ⟨?_, ?_⟩
        all_goals (first | exact HB7.out | exact pw_below_drewN HB.out _ | skip)
        all_goals (refine congrArg (fun b => Ending.returned (Value.bool b)) ?_; rw [← H.out]; have HA2 := HA.out; subst_vars; simp [mayIs, mayHead, mayN, kindN, kindIs, HA2, *])
      · have h3b : (a2_0 == 3) = false := beq_eq_false_iff_ne.mpr h3
        by_cases h2 : a2_0 = 2
        · subst h2
          go_enter Try.func33, Try.ntmps33
          go_wp2_with (first | (go_at_call 47; refine (hC47.out).mono ?_; rintro e w7 ⟨rfl, hb7⟩; have HB7 := Aside0.mk (below_step HB.out hb7); clear hb7))
          all_goals go_ret
          all_goals refine ⟨?_, ?_⟩
          all_goals (first | exact HB7.out | exact HB.out | skip)
          all_goals (refine congrArg (fun b => Ending.returned (Value.bool b)) ?_; rw [← H.out]; have HA2 := HA.out; subst_vars; clear hC47 hC47q HB hcM HR0 HR2 hl0 r1 r2 r3 r4 r5 r6 hmm hu28 hu62; first | (simp [mayIs, mayHead, mayN, HA2, *]; done) | (simp [mayIs, mayHead, mayN, HA2, *] <;> (intros; simp_all; done)) | (simp [mayIs, mayHead, mayN, HA2, *] <;> (intros; simp_all <;> omega)))
        · have h2b : (a2_0 == 2) = false := beq_eq_false_iff_ne.mpr h2
          by_cases h6 : a2_0 = 6
          · subst h6
            go_enter Try.func33, Try.ntmps33
            go_wp2_with (first | (go_at_call 47; refine (hC47.out).mono ?_; rintro e w7 ⟨rfl, hb7⟩; have HB7 := Aside0.mk (below_step HB.out hb7); clear hb7))
            all_goals go_ret
            all_goals refine ⟨?_, ?_⟩
            all_goals (first | exact HB7.out | exact HB.out | skip)
            all_goals (refine congrArg (fun b => Ending.returned (Value.bool b)) ?_; rw [← H.out]; have HA2 := HA.out; subst_vars; clear hC47 hC47q HB hcM HR0 HR2 hl0 r1 r2 r3 r4 r5 r6 hmm hu28 hu62; first | (simp [mayIs, mayHead, mayN, HA2, *]; done) | (simp [mayIs, mayHead, mayN, HA2, *] <;> (intros; simp_all; done)) | (simp [mayIs, mayHead, mayN, HA2, *] <;> (intros; simp_all <;> omega)))
          · have h6b : (a2_0 == 6) = false := beq_eq_false_iff_ne.mpr h6
            go_enter Try.func33, Try.ntmps33
            go_wp2_with (first | (go_at_call 47; refine (hC47.out).mono ?_; rintro e w7 ⟨rfl, hb7⟩; have HB7 := Aside0.mk (below_step HB.out hb7); clear hb7))
            all_goals go_ret
            all_goals refine ⟨?_, ?_⟩
            all_goals (first | exact HB7.out | exact HB.out | skip)
            all_goals (refine congrArg (fun b => Ending.returned (Value.bool b)) ?_; rw [← H.out]; have HA2 := HA.out; subst_vars; clear hC47 hC47q HB hcM HR0 HR2 hl0 r1 r2 r3 r4 r5 r6 hmm hu28 hu62; first | (simp [mayIs, mayHead, mayN, HA2, *]; done) | (simp [mayIs, mayHead, mayN, HA2, *] <;> (intros; simp_all; done)) | (simp [mayIs, mayHead, mayN, HA2, *] <;> (intros; simp_all <;> omega)))
    · clear hin
      by_cases h3 : a2_0 = 3
      · subst h3
        go_enter Try.func33, Try.ntmps33
        go_upto_region 11 with (fail)
        all_goals go_quiet (fail)
        all_goals go_wp2_with (first | (go_at_call 47; refine ((hC47q _).out).mono ?_; rintro e w7 ⟨rfl, hb7⟩; have HB7 := Aside0.mk (below_step (pw_below_drewN HB.out _) hb7); clear hb7))
        all_goals go_ret
        all_goals refine ⟨?_, ?_⟩
        all_goals (first | exact HB7.out | exact pw_below_drewN HB.out _ | skip)
        all_goals (refine congrArg (fun b => Ending.returned (Value.bool b)) ?_; rw [← H.out]; have HA2 := HA.out; subst_vars; simp [mayIs, mayHead, mayN, kindN, kindIs, HA2, *])
      · have h3b : (a2_0 == 3) = false := beq_eq_false_iff_ne.mpr h3
        by_cases h2 : a2_0 = 2
        · subst h2
          go_enter Try.func33, Try.ntmps33
          go_wp2_with (first | (go_at_call 47; refine (hC47.out).mono ?_; rintro e w7 ⟨rfl, hb7⟩; have HB7 := Aside0.mk (below_step HB.out hb7); clear hb7))
          all_goals go_ret
          all_goals refine ⟨?_, ?_⟩
          all_goals (first | exact HB7.out | exact HB.out | skip)
          all_goals (refine congrArg (fun b => Ending.returned (Value.bool b)) ?_; rw [← H.out]; have HA2 := HA.out; subst_vars; clear hC47 hC47q HB hcM HR0 HR2 hl0 r1 r2 r3 r4 r5 r6 hmm hu28 hu62; first | (simp [mayIs, mayHead, mayN, HA2, *]; done) | (simp [mayIs, mayHead, mayN, HA2, *] <;> (intros; simp_all; done)) | (simp [mayIs, mayHead, mayN, HA2, *] <;> (intros; simp_all <;> omega)))
        · have h2b : (a2_0 == 2) = false := beq_eq_false_iff_ne.mpr h2
          by_cases h6 : a2_0 = 6
          · subst h6
            go_enter Try.func33, Try.ntmps33
            go_wp2_with (first | (go_at_call 47; refine (hC47.out).mono ?_; rintro e w7 ⟨rfl, hb7⟩; have HB7 := Aside0.mk (below_step HB.out hb7); clear hb7))
            all_goals go_ret
            all_goals refine ⟨?_, ?_⟩
            all_goals (first | exact HB7.out | exact HB.out | skip)
            all_goals (refine congrArg (fun b => Ending.returned (Value.bool b)) ?_; rw [← H.out]; have HA2 := HA.out; subst_vars; clear hC47 hC47q HB hcM HR0 HR2 hl0 r1 r2 r3 r4 r5 r6 hmm hu28 hu62; first | (simp [mayIs, mayHead, mayN, HA2, *]; done) | (simp [mayIs, mayHead, mayN, HA2, *] <;> (intros; simp_all; done)) | (simp [mayIs, mayHead, mayN, HA2, *] <;> (intros; simp_all <;> omega)))
          · have h6b : (a2_0 == 6) = false := beq_eq_false_iff_ne.mpr h6
            go_enter Try.func33, Try.ntmps33
            go_wp2_with (first | (go_at_call 47; refine (hC47.out).mono ?_; rintro e w7 ⟨rfl, hb7⟩; have HB7 := Aside0.mk (below_step HB.out hb7); clear hb7))
            all_goals go_ret
            all_goals refine ⟨?_, ?_⟩
            all_goals (first | exact HB7.out | exact HB.out | skip)
            all_goals (refine congrArg (fun b => Ending.returned (Value.bool b)) ?_; rw [← H.out]; have HA2 := HA.out; subst_vars; clear hC47 hC47q HB hcM HR0 HR2 hl0 r1 r2 r3 r4 r5 r6 hmm hu28 hu62; first | (simp [mayIs, mayHead, mayN, HA2, *]; done) | (simp [mayIs, mayHead, mayN, HA2, *] <;> (intros; simp_all; done)) | (simp [mayIs, mayHead, mayN, HA2, *] <;> (intros; simp_all <;> omega)))
end Go.Proofs.Ytiliknfmlmdmbaa.T
