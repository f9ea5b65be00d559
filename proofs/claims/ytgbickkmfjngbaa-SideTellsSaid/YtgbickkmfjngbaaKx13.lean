-- Laid by a program of this session (wip/gprint.py) over the kit's print of the translation; Lean checks it.
import Derived.Test.YtgbickkmfjngbaaKx0
import Derived.Test.YtgbickkmfjngbaaKx10
import Derived.Test.YtgbickkmfjngbaaKx11
import Derived.Test.YtgbickkmfjngbaaKx12
namespace Go.Proofs.Ytgbickkmfjngbaa.K
open Go.RowKit Go.Proofs.YtgbickkmfjngbaaW.PrintWords Go.Proofs.YtgbickkmfjngbaaW.PrintLast Go.Proofs.YtgbickkmfjngbaaG.Words
set_option linter.unusedVariables false
set_option linter.unusedSimpArgs false

/-! ### tammyref08_Check: function 13 -/
mutual
def tammyref08_Check.l0 : Nat → List (S52) → List (S38) → List Int → Int → Option (Int × Int)
  | 0, _, _, _, _ => none
  | k + 1, x0, x1, x8, x9 => if x9 < (x1.length : Int) then (if 0 ≤ x9 then (if ((rd_T38 x1 x9).f0) = 3 then (tammyref08_Check.j1 k x0 x1 x8 x9 true ((rd_T38 x1 x9).f0) ((rd_T38 x1 x9).f1) ((rd_T38 x1 x9).f2)) else (tammyref08_Check.j1 k x0 x1 x8 x9 (((rd_T38 x1 x9).f0) == 6) ((rd_T38 x1 x9).f0) ((rd_T38 x1 x9).f1) ((rd_T38 x1 x9).f2))) else (none)) else (some (0, 0))
def tammyref08_Check.j1 : Nat → List (S52) → List (S38) → List Int → Int → Bool → Int → ByteArray → Int → Option (Int × Int)
  | 0, _, _, _, _, _, _, _, _ => none
  | k + 1, x0, x1, x8, x9, x33, x277000, x277001, x277002 => if x33 = true then ((tammyref08_Known.f k x0 x277000 x277001 x277002).bind fun t277 => ((tammyref01_Find.f k x0 x277001).bind fun t278 => (if t278 < 0 then (some (x9, 3)) else (if t277 = true then (if x277000 = 4 then (if 0 ≤ x9 then (if x9 < (x8.length : Int) then (if (rd x8 x9) = 76 then (if x277000 = 5 then (if (rd x8 x9) = 82 then (tammyref08_Check.l0 k x0 x1 x8 (wrap64 (x9 + 1))) else (some (x9, 6))) else (if x277000 = 6 then (if (rd x8 x9) = 82 then (tammyref08_Check.l0 k x0 x1 x8 (wrap64 (x9 + 1))) else (some (x9, 6))) else (tammyref08_Check.l0 k x0 x1 x8 (wrap64 (x9 + 1))))) else (some (x9, 6))) else (none)) else (none)) else (if x277000 = 5 then (if 0 ≤ x9 then (if x9 < (x8.length : Int) then (if (rd x8 x9) = 82 then (tammyref08_Check.l0 k x0 x1 x8 (wrap64 (x9 + 1))) else (some (x9, 6))) else (none)) else (none)) else (if x277000 = 6 then (if 0 ≤ x9 then (if x9 < (x8.length : Int) then (if (rd x8 x9) = 82 then (tammyref08_Check.l0 k x0 x1 x8 (wrap64 (x9 + 1))) else (some (x9, 6))) else (none)) else (none)) else (tammyref08_Check.l0 k x0 x1 x8 (wrap64 (x9 + 1)))))) else (some (x9, 5)))))) else (if x277000 = 4 then (if 0 ≤ x9 then (if x9 < (x8.length : Int) then (if (rd x8 x9) = 76 then (if x277000 = 5 then (if (rd x8 x9) = 82 then (tammyref08_Check.l0 k x0 x1 x8 (wrap64 (x9 + 1))) else (some (x9, 6))) else (if x277000 = 6 then (if (rd x8 x9) = 82 then (tammyref08_Check.l0 k x0 x1 x8 (wrap64 (x9 + 1))) else (some (x9, 6))) else (tammyref08_Check.l0 k x0 x1 x8 (wrap64 (x9 + 1))))) else (some (x9, 6))) else (none)) else (none)) else (if x277000 = 5 then (if 0 ≤ x9 then (if x9 < (x8.length : Int) then (if (rd x8 x9) = 82 then (tammyref08_Check.l0 k x0 x1 x8 (wrap64 (x9 + 1))) else (some (x9, 6))) else (none)) else (none)) else (if x277000 = 6 then (if 0 ≤ x9 then (if x9 < (x8.length : Int) then (if (rd x8 x9) = 82 then (tammyref08_Check.l0 k x0 x1 x8 (wrap64 (x9 + 1))) else (some (x9, 6))) else (none)) else (none)) else (tammyref08_Check.l0 k x0 x1 x8 (wrap64 (x9 + 1))))))
end
def tammyref08_Check.f (k : Nat) (l0 : List (S52)) (l1 : List (S38)) (a2 : Int) : Option (Int × Int) := (tammyref08_Of.f k l0 l1 a2).bind fun t272 => (tammyref08_Check.l0 k l0 l1 t272 0)
theorem tammyref08_Check.mono_l : ∀ k, (∀ y0 y1 y2 y3, LeO (tammyref08_Check.l0 k y0 y1 y2 y3) (tammyref08_Check.l0 (k + 1) y0 y1 y2 y3)) ∧ (∀ y0 y1 y2 y3 y4 y5 y6 y7, LeO (tammyref08_Check.j1 k y0 y1 y2 y3 y4 y5 y6 y7) (tammyref08_Check.j1 (k + 1) y0 y1 y2 y3 y4 y5 y6 y7))
  | 0 => ⟨fun _ _ _ _ r h => by simp [tammyref08_Check.l0] at h, fun _ _ _ _ _ _ _ _ r h => by simp [tammyref08_Check.j1] at h⟩
  | k + 1 => by
    obtain ⟨ih0, ih1⟩ := tammyref08_Check.mono_l k
    refine ⟨?_, ?_⟩
    · intro y0 y1 y2 y3
      unfold tammyref08_Check.l0
      repeat' first
      | (with_reducible exact ih0 _ _ _ _)
      | (with_reducible exact ih1 _ _ _ _ _ _ _ _)
      | (with_reducible exact tammyref01_Find.mono _ _ _)
      | (with_reducible exact tammyref08_Known.mono _ _ _ _ _)
      | (with_reducible exact tammyref08_Of.mono _ _ _ _)
      | (with_reducible exact LeO.refl _)
      | (with_reducible exact LeO.none _)
      | (with_reducible refine LeO.ite ?_ ?_)
      | (with_reducible refine LeO.bind ?_ (fun _ => ?_))
      | exact ih0 _ _ _ _
      | exact ih1 _ _ _ _ _ _ _ _
      | exact tammyref01_Find.mono _ _ _
      | exact tammyref08_Known.mono _ _ _ _ _
      | exact tammyref08_Of.mono _ _ _ _
      | exact LeO.none _
      | refine LeO.ite ?_ ?_
      | refine LeO.bind ?_ (fun _ => ?_)
    · intro y0 y1 y2 y3 y4 y5 y6 y7
      unfold tammyref08_Check.j1
      repeat' first
      | (with_reducible exact ih0 _ _ _ _)
      | (with_reducible exact ih1 _ _ _ _ _ _ _ _)
      | (with_reducible exact tammyref01_Find.mono _ _ _)
      | (with_reducible exact tammyref08_Known.mono _ _ _ _ _)
      | (with_reducible exact tammyref08_Of.mono _ _ _ _)
      | (with_reducible exact LeO.refl _)
      | (with_reducible exact LeO.none _)
      | (with_reducible refine LeO.ite ?_ ?_)
      | (with_reducible refine LeO.bind ?_ (fun _ => ?_))
      | exact ih0 _ _ _ _
      | exact ih1 _ _ _ _ _ _ _ _
      | exact tammyref01_Find.mono _ _ _
      | exact tammyref08_Known.mono _ _ _ _ _
      | exact tammyref08_Of.mono _ _ _ _
      | exact LeO.none _
      | refine LeO.ite ?_ ?_
      | refine LeO.bind ?_ (fun _ => ?_)
theorem tammyref08_Check.mono : ∀ a0 a1 a2 k, LeO (tammyref08_Check.f k a0 a1 a2) (tammyref08_Check.f (k + 1) a0 a1 a2) := by
  intro a0 a1 a2 k
  obtain ⟨ih0, ih1⟩ := tammyref08_Check.mono_l k
  unfold tammyref08_Check.f
  repeat' first
      | (with_reducible exact ih0 _ _ _ _)
      | (with_reducible exact ih1 _ _ _ _ _ _ _ _)
      | (with_reducible exact tammyref01_Find.mono _ _ _)
      | (with_reducible exact tammyref08_Known.mono _ _ _ _ _)
      | (with_reducible exact tammyref08_Of.mono _ _ _ _)
      | (with_reducible exact LeO.refl _)
      | (with_reducible exact LeO.none _)
      | (with_reducible refine LeO.ite ?_ ?_)
      | (with_reducible refine LeO.bind ?_ (fun _ => ?_))
      | exact ih0 _ _ _ _
      | exact ih1 _ _ _ _ _ _ _ _
      | exact tammyref01_Find.mono _ _ _
      | exact tammyref08_Known.mono _ _ _ _ _
      | exact tammyref08_Of.mono _ _ _ _
      | exact LeO.none _
      | refine LeO.ite ?_ ?_
      | refine LeO.bind ?_ (fun _ => ?_)
set_option maxHeartbeats 8000000 in
set_option maxRecDepth 100000 in
theorem tammyref08_Check.calls (k : Nat) (A0 : Option Addr) (c0 : Nat) (l0 : List (S52)) (A1 : Option Addr) (c1 : Nat) (l1 : List (S38)) (a2 : Int) (r1 : Int) (r2 : Int) (w : World) (hr0 : Kd.C k52 w A0 l0.length l0) (hc0 : l0.length ≤ c0) (hr1 : Kd.C k38 w A1 l1.length l1) (hc1 : l1.length ≤ c1) (h : tammyref08_Check.f k l0 l1 a2 = some (r1, r2)) :
    Calls Try.prog 13 #[.slice A0 l0.length c0, .slice A1 l1.length c1, .int .u8 a2] w fun e w' => e = .returned (.tuple #[.int .i64 r1, .int .i64 r2]) ∧ Below w.heap.size w w' := by
  have hu38 := Try.underlying38
  have HR0 := Aside0.mk hr0
  have HC0 := Aside0.mk hc0
  clear hr0 hc0
  have HR1 := Aside0.mk hr1
  have HC1 := Aside0.mk hc1
  clear hr1 hc1
  have HB := Aside0.mk (Below.refl w.heap.size w)
  have H : ((tammyref08_Of.f k l0 l1 a2).bind fun t272 => (tammyref08_Check.l0 k l0 l1 t272 0)) = some (r1, r2) := h
  clear h
  replace H := Option.bind_eq_some_iff.mp H
  obtain ⟨t272, A40, H⟩ := H
  replace H : (tammyref08_Check.l0 k l0 l1 t272 0) = some (r1, r2) := H
  have A4 := Aside0.mk A40
  clear A40
  have H' := Aside0.mk H
  clear H
  go_enter Try.func13, Try.ntmps13
  go_wp2_with (first | ((with_reducible refine gate_callee (f := 15) rfl ?_); refine goesL_ (some 15) rfl rfl Try.func15 (by kernel_rfl) rfl #[.slice A0 l0.length c0, .slice A1 l1.length c1, .int .u8 a2] rfl (by (try simp only [List.map_toArray, List.map_cons, List.map_nil]); first | done | rfl | (simp only [List.length_drop, List.length_take]; rfl)) ?_; (with_reducible refine (tammyref08_Of.calls k _ _ l0 _ _ l1 a2 t272 _ ?side1 ?side2 ?side3 ?side4 A4.out).mono ?_); (case side1 => repeat (first | exact HR0.out | (with_reducible refine Kd.C_alloc ?_ _) | (with_reducible refine Kd.C_drewN ?_ _) | (with_reducible refine Kd.C_drew ?_))); (case side2 => exact HC0.out); (case side3 => repeat (first | exact HR1.out | (with_reducible refine Kd.C_alloc ?_ _) | (with_reducible refine Kd.C_drewN ?_ _) | (with_reducible refine Kd.C_drew ?_))); (case side4 => exact HC1.out); rintro e w5 ⟨v273, rfl, ho0, hb⟩; refine ⟨_, rfl, ?_⟩; have n0_ := Aside0.mk (Kd.R_lower ho0 (below_size (by repeat (first | (with_reducible first | exact HB.out | apply below_alloc | apply pw_below_drewN | apply below_drew1) | exact HB.out)))); have n1_ := Aside0.mk (below_step (by repeat (first | (with_reducible first | exact HB.out | apply below_alloc | apply pw_below_drewN | apply below_drew1) | exact HB.out)) hb); clear HB; have HO274 := n0_; have HB := n1_; clear n0_ n1_; (try clear hb); (try clear hb2); (try clear hk); (try clear hi); (try clear ho0)))
  go_loopg [9] k (fun kq v9 w' => ∃ (x9_1 : Int), v9 = .int .i64 x9_1 ∧ Aside0 (tammyref08_Check.l0 kq l0 l1 t272 x9_1 = some (r1, r2)) ∧ Aside0 (kq ≤ k) ∧ Aside0 (Kd.R (Kd.int .u8) 5 w' w.heap.size (fun _ => True) v273 t272) ∧ Aside0 (Below w.heap.size w w'))
  case atStart => exact ⟨(0), (by first | rfl | (simp; done) | (simp [*]; done)), H', ⟨Nat.le_refl _⟩, ⟨by (with_reducible repeat (first | apply Kd.R_alloc | apply Kd.R_drewN | apply Kd.R_drew)); exact HO274.out⟩, ⟨by repeat (first | (with_reducible first | exact HB.out | apply below_alloc | apply pw_below_drewN | apply below_drew1) | exact HB.out)⟩⟩
  case round =>
    clear H'
    try clear c1
    try clear p2
    obtain ⟨x9_1, rfl, HA, HK1, HO_8, HB⟩ := hrel
    cases gk with
    | zero => exact absurd HA.out (by simp [tammyref08_Check.l0])
    | succ k1 =>
      have H := HA.out
      clear HA
      simp only [tammyref08_Check.l0] at H
      by_cases c6 : x9_1 < (l1.length : Int)
      · rw [if_pos c6] at H
        have c6b0 : decide (x9_1 < (l1.length : Int)) = true := decide_eq_true c6
        clear c6
        by_cases c7 : 0 ≤ x9_1
        · rw [if_pos c7] at H
          have c7b0 : decide (0 ≤ x9_1) = true := decide_eq_true c7
          clear c7
          have HC8 := Aside0.mk H
          clear H
          have p275 : 0 ≤ (x9_1 : Int) := of_decide_eq_true (by first | (with_reducible assumption) | assumption)
          have q275 : x9_1 < (l1.length : Int) := of_decide_eq_true (by first | (with_reducible assumption) | assumption)
          obtain ⟨ad275, e275, hx275_0, hx275_1, hx275_2⟩ := at_T38 HR1.out x9_1 p275 q275
          cases e275
          replace hx275_0 := (HB.out.cell (World.block_lt_of_cell? w _ hx275_0)).trans hx275_0
          replace hx275_1 := (HB.out.cell (World.block_lt_of_cell? w _ hx275_1)).trans hx275_1
          replace hx275_2 := (HB.out.cell (World.block_lt_of_cell? w _ hx275_2)).trans hx275_2
          replace p275 := eq_true p275
          replace q275 := eq_true q275
          go_upto_region 6 with (first | ((with_reducible refine gate_dst (N := 10) rfl ?_); refine box_event ?hg (N := 10) ?hd (cs := #[.int .i64 0, .string (⟨#[]⟩ : ByteArray), .int .i64 0]) (t := 38) ?hr ?_; (case hd => rfl); (case hg => rfl); (case hr => first | (go_simp; done) | (go_simp; rfl)); intro gb276 hg w9 hbox hb; have n0_ := Aside0.mk (Kd.R_below (by (with_reducible repeat (first | apply Kd.R_alloc | apply Kd.R_drewN | apply Kd.R_drew)); exact HO_8.out) hb); have n1_ := Aside0.mk (below_step (by repeat (first | (with_reducible first | exact HB.out | apply below_alloc | apply pw_below_drewN | apply below_drew1) | exact HB.out)) hb); have n2_ := Aside0.mk (hbox); have n3_ := Aside0.mk ((by rw [hg]; exact (below_size (by repeat (first | (with_reducible first | exact HB.out | apply below_alloc | apply pw_below_drewN | apply below_drew1) | exact HB.out))) : w.heap.size ≤ gb276)); have n4_ := Aside0.mk ((by rw [hg]; exact (below_size (by repeat (first | (with_reducible first | exact HB.out | apply below_alloc | apply pw_below_drewN | apply below_drew1) | exact HB.out))) : w.heap.size ≤ gb276)); clear HO_8; clear HB; have HO_8 := n0_; have HB := n1_; have BK276 := n2_; have GW276 := n3_; have GE276 := n4_; clear n0_ n1_ n2_ n3_ n4_; clear hb hbox hg; have hcz10_0 : w9.cell? ⟨gb276, 0, none⟩ = some (.int .i64 0) := (blk_cell BK276.out 0).trans rfl; have hcz10_1 : w9.cell? ⟨gb276, 1, none⟩ = some (.string (⟨#[]⟩ : ByteArray)) := (blk_cell BK276.out 1).trans rfl; have hcz10_2 : w9.cell? ⟨gb276, 2, none⟩ = some (.int .i64 0) := (blk_cell BK276.out 2).trans rfl; have hfz10_0 := blk_frozen BK276.out 0; have hfz10_1 := blk_frozen BK276.out 1; have hfz10_2 := blk_frozen BK276.out 2))
          (try simp only [Act.put, List.setIfInBounds_toArray, List.set_cons_zero, List.set_cons_succ])
          go_cut [33] (fun v33 wc => ∃ (kq : Nat) (x33_7 : Bool), v33 = .bool x33_7 ∧ Aside0 (tammyref08_Check.j1 kq l0 l1 t272 x9_1 x33_7 ((rd_T38 l1 x9_1).f0) ((rd_T38 l1 x9_1).f1) ((rd_T38 l1 x9_1).f2) = some (r1, r2)) ∧ Aside0 (kq ≤ k1) ∧ Aside0 (Kd.R (Kd.int .u8) 5 wc w.heap.size (fun _ => True) v273 t272) ∧ Aside0 (wc.heap[gb276]? = some (.cells #[.int .i64 ((rd_T38 l1 x9_1).f0), .string ((rd_T38 l1 x9_1).f1), .int .i64 ((rd_T38 l1 x9_1).f2)] 38 (0, 0))) ∧ Aside0 (Below w.heap.size w wc))
          case first =>
            have H := HC8.out
            clear HC8
            by_cases c11 : ((rd_T38 l1 x9_1).f0) = 3
            · rw [if_pos c11] at H
              have c11b0 : (((rd_T38 l1 x9_1).f0) == 3) = true := beq_iff_eq.mpr c11
              have c11b1 : (((rd_T38 l1 x9_1).f0) != 3) = false := bne_eq_false_iff_eq.mpr c11
              clear c11
              (first | rw [c11b0] | (simp only [i64_w, i32_w]; rw [c11b0]) | skip)
              have H' := Aside0.mk H
              clear H
              have hcz12_0 : w9.cell? ⟨gb276, 0, none⟩ = some (.int .i64 0) := (blk_cell BK276.out 0).trans rfl
              have hcz12_1 : w9.cell? ⟨gb276, 1, none⟩ = some (.string (⟨#[]⟩ : ByteArray)) := (blk_cell BK276.out 1).trans rfl
              have hcz12_2 : w9.cell? ⟨gb276, 2, none⟩ = some (.int .i64 0) := (blk_cell BK276.out 2).trans rfl
              have hfz12_0 := blk_frozen BK276.out 0
              have hfz12_1 := blk_frozen BK276.out 1
              have hfz12_2 := blk_frozen BK276.out 2
              go_wp2
              go_meet
              case rel => exact ⟨_, (true), (by first | rfl | (simp; done) | (simp [*]; done)), H', ⟨by have := HK1.out; first | omega | exact Nat.le_refl _⟩, ⟨by (with_reducible repeat (first | apply Kd.R_alloc | apply Kd.R_drewN | apply Kd.R_drew)); exact Kd.R_mono (Kd.R_far (p := ⟨gb276, 2, none⟩) (Kd.R_far (p := ⟨gb276, 1, none⟩) (Kd.R_far (p := ⟨gb276, 0, none⟩) (Kd.R_types HO_8.out BK276.out (by decide)) (fun _ hk => hk.2) (.int .i64 ((rd_T38 l1 x9_1).f0))) (fun _ hk => hk.2) (.string ((rd_T38 l1 x9_1).f1))) (fun _ hk => hk.2) (.int .i64 ((rd_T38 l1 x9_1).f2))) (fun _ hk => trivial)⟩, ⟨by (with_reducible repeat (first | refine blk_drewN ?_ _ | refine blk_drew ?_ | refine blk_alloc ?_ _)); refine blk_put (cs := #[.int .i64 ((rd_T38 l1 x9_1).f0), .string ((rd_T38 l1 x9_1).f1), .int .i64 0]) ?_ 2 _ rfl; (with_reducible repeat (first | refine blk_drewN ?_ _ | refine blk_drew ?_ | refine blk_alloc ?_ _)); refine blk_put (cs := #[.int .i64 ((rd_T38 l1 x9_1).f0), .string (⟨#[]⟩ : ByteArray), .int .i64 0]) ?_ 1 _ rfl; (with_reducible repeat (first | refine blk_drewN ?_ _ | refine blk_drew ?_ | refine blk_alloc ?_ _)); refine blk_put (cs := #[.int .i64 0, .string (⟨#[]⟩ : ByteArray), .int .i64 0]) ?_ 0 _ rfl; (with_reducible repeat (first | refine blk_drewN ?_ _ | refine blk_drew ?_ | refine blk_alloc ?_ _)); exact BK276.out⟩, ⟨by repeat (first | (with_reducible first | exact HB.out | apply below_alloc | apply pw_below_drewN | apply below_drew1 | refine below_set ?_ GE276.out) | exact HB.out)⟩⟩
            · rw [if_neg c11] at H
              have c11b0 : (((rd_T38 l1 x9_1).f0) == 3) = false := beq_eq_false_iff_ne.mpr c11
              have c11b1 : (((rd_T38 l1 x9_1).f0) != 3) = true := bne_iff_ne.mpr c11
              (first | rw [c11b0] | (simp only [i64_w, i32_w]; rw [c11b0]) | skip)
              have H' := Aside0.mk H
              clear H
              have hcz13_0 : w9.cell? ⟨gb276, 0, none⟩ = some (.int .i64 0) := (blk_cell BK276.out 0).trans rfl
              have hcz13_1 : w9.cell? ⟨gb276, 1, none⟩ = some (.string (⟨#[]⟩ : ByteArray)) := (blk_cell BK276.out 1).trans rfl
              have hcz13_2 : w9.cell? ⟨gb276, 2, none⟩ = some (.int .i64 0) := (blk_cell BK276.out 2).trans rfl
              have hfz13_0 := blk_frozen BK276.out 0
              have hfz13_1 := blk_frozen BK276.out 1
              have hfz13_2 := blk_frozen BK276.out 2
              go_wp2
              go_meet
              case rel => exact ⟨_, ((((rd_T38 l1 x9_1).f0) == 6)), (by first | rfl | (simp; done) | (simp [*]; done)), H', ⟨by have := HK1.out; first | omega | exact Nat.le_refl _⟩, ⟨by (with_reducible repeat (first | apply Kd.R_alloc | apply Kd.R_drewN | apply Kd.R_drew)); exact Kd.R_mono (Kd.R_far (p := ⟨gb276, 2, none⟩) (Kd.R_far (p := ⟨gb276, 1, none⟩) (Kd.R_far (p := ⟨gb276, 0, none⟩) (Kd.R_types HO_8.out BK276.out (by decide)) (fun _ hk => hk.2) (.int .i64 ((rd_T38 l1 x9_1).f0))) (fun _ hk => hk.2) (.string ((rd_T38 l1 x9_1).f1))) (fun _ hk => hk.2) (.int .i64 ((rd_T38 l1 x9_1).f2))) (fun _ hk => trivial)⟩, ⟨by (with_reducible repeat (first | refine blk_drewN ?_ _ | refine blk_drew ?_ | refine blk_alloc ?_ _)); refine blk_put (cs := #[.int .i64 ((rd_T38 l1 x9_1).f0), .string ((rd_T38 l1 x9_1).f1), .int .i64 0]) ?_ 2 _ rfl; (with_reducible repeat (first | refine blk_drewN ?_ _ | refine blk_drew ?_ | refine blk_alloc ?_ _)); refine blk_put (cs := #[.int .i64 ((rd_T38 l1 x9_1).f0), .string (⟨#[]⟩ : ByteArray), .int .i64 0]) ?_ 1 _ rfl; (with_reducible repeat (first | refine blk_drewN ?_ _ | refine blk_drew ?_ | refine blk_alloc ?_ _)); refine blk_put (cs := #[.int .i64 0, .string (⟨#[]⟩ : ByteArray), .int .i64 0]) ?_ 0 _ rfl; (with_reducible repeat (first | refine blk_drewN ?_ _ | refine blk_drew ?_ | refine blk_alloc ?_ _)); exact BK276.out⟩, ⟨by repeat (first | (with_reducible first | exact HB.out | apply below_alloc | apply pw_below_drewN | apply below_drew1 | refine below_set ?_ GE276.out) | exact HB.out)⟩⟩
          case rest =>
            clear HC8
            try clear c1
            try clear p2
            try clear q2
            try clear hx2
            try clear c6
            try clear c6b0
            try clear c7
            try clear c7b0
            try clear c11
            try clear c11b0
            try clear c11b1
            try clear c13
            try clear hcz10_0
            try clear hcz10_1
            try clear hcz10_2
            try clear hcz12_0
            try clear hcz12_1
            try clear hcz12_2
            try clear hcz13_0
            try clear hcz13_1
            try clear hcz13_2
            try clear hfz10_0
            try clear hfz10_1
            try clear hfz10_2
            try clear hfz12_0
            try clear hfz12_1
            try clear hfz12_2
            try clear hfz13_0
            try clear hfz13_1
            try clear hfz13_2
            try clear hx275_0
            try clear hx275_1
            try clear hx275_2
            try clear p2
            try clear p275
            try clear q275
            obtain ⟨kq, x33_7, rfl, HA, HJ7, HO_8, BK276, HB⟩ := hcut
            cases kq with
            | zero => exact absurd HA.out (by simp [tammyref08_Check.j1])
            | succ kj7 =>
              have H := HA.out
              clear HA
              simp only [tammyref08_Check.j1] at H
              by_cases c14 : x33_7 = true
              · subst c14
                have H1 : ((tammyref08_Known.f kj7 l0 ((rd_T38 l1 x9_1).f0) ((rd_T38 l1 x9_1).f1) ((rd_T38 l1 x9_1).f2)).bind fun t277 => ((tammyref01_Find.f kj7 l0 ((rd_T38 l1 x9_1).f1)).bind fun t278 => (if t278 < 0 then (some (x9_1, 3)) else (if t277 = true then (if ((rd_T38 l1 x9_1).f0) = 4 then (if 0 ≤ x9_1 then (if x9_1 < (t272.length : Int) then (if (rd t272 x9_1) = 76 then (if ((rd_T38 l1 x9_1).f0) = 5 then (if (rd t272 x9_1) = 82 then (tammyref08_Check.l0 kj7 l0 l1 t272 (wrap64 (x9_1 + 1))) else (some (x9_1, 6))) else (if ((rd_T38 l1 x9_1).f0) = 6 then (if (rd t272 x9_1) = 82 then (tammyref08_Check.l0 kj7 l0 l1 t272 (wrap64 (x9_1 + 1))) else (some (x9_1, 6))) else (tammyref08_Check.l0 kj7 l0 l1 t272 (wrap64 (x9_1 + 1))))) else (some (x9_1, 6))) else (none)) else (none)) else (if ((rd_T38 l1 x9_1).f0) = 5 then (if 0 ≤ x9_1 then (if x9_1 < (t272.length : Int) then (if (rd t272 x9_1) = 82 then (tammyref08_Check.l0 kj7 l0 l1 t272 (wrap64 (x9_1 + 1))) else (some (x9_1, 6))) else (none)) else (none)) else (if ((rd_T38 l1 x9_1).f0) = 6 then (if 0 ≤ x9_1 then (if x9_1 < (t272.length : Int) then (if (rd t272 x9_1) = 82 then (tammyref08_Check.l0 kj7 l0 l1 t272 (wrap64 (x9_1 + 1))) else (some (x9_1, 6))) else (none)) else (none)) else (tammyref08_Check.l0 kj7 l0 l1 t272 (wrap64 (x9_1 + 1)))))) else (some (x9_1, 5)))))) = some (r1, r2) := by rw [if_pos rfl] at H; exact H
                clear H
                have H := H1
                clear H1
                replace H := Option.bind_eq_some_iff.mp H
                obtain ⟨t277, A150, H⟩ := H
                replace H : ((tammyref01_Find.f kj7 l0 ((rd_T38 l1 x9_1).f1)).bind fun t278 => (if t278 < 0 then (some (x9_1, 3)) else (if t277 = true then (if ((rd_T38 l1 x9_1).f0) = 4 then (if 0 ≤ x9_1 then (if x9_1 < (t272.length : Int) then (if (rd t272 x9_1) = 76 then (if ((rd_T38 l1 x9_1).f0) = 5 then (if (rd t272 x9_1) = 82 then (tammyref08_Check.l0 kj7 l0 l1 t272 (wrap64 (x9_1 + 1))) else (some (x9_1, 6))) else (if ((rd_T38 l1 x9_1).f0) = 6 then (if (rd t272 x9_1) = 82 then (tammyref08_Check.l0 kj7 l0 l1 t272 (wrap64 (x9_1 + 1))) else (some (x9_1, 6))) else (tammyref08_Check.l0 kj7 l0 l1 t272 (wrap64 (x9_1 + 1))))) else (some (x9_1, 6))) else (none)) else (none)) else (if ((rd_T38 l1 x9_1).f0) = 5 then (if 0 ≤ x9_1 then (if x9_1 < (t272.length : Int) then (if (rd t272 x9_1) = 82 then (tammyref08_Check.l0 kj7 l0 l1 t272 (wrap64 (x9_1 + 1))) else (some (x9_1, 6))) else (none)) else (none)) else (if ((rd_T38 l1 x9_1).f0) = 6 then (if 0 ≤ x9_1 then (if x9_1 < (t272.length : Int) then (if (rd t272 x9_1) = 82 then (tammyref08_Check.l0 kj7 l0 l1 t272 (wrap64 (x9_1 + 1))) else (some (x9_1, 6))) else (none)) else (none)) else (tammyref08_Check.l0 kj7 l0 l1 t272 (wrap64 (x9_1 + 1)))))) else (some (x9_1, 5))))) = some (r1, r2) := H
                have A15 := Aside0.mk A150
                clear A150
                replace H := Option.bind_eq_some_iff.mp H
                obtain ⟨t278, A160, H⟩ := H
                replace H : (if t278 < 0 then (some (x9_1, 3)) else (if t277 = true then (if ((rd_T38 l1 x9_1).f0) = 4 then (if 0 ≤ x9_1 then (if x9_1 < (t272.length : Int) then (if (rd t272 x9_1) = 76 then (if ((rd_T38 l1 x9_1).f0) = 5 then (if (rd t272 x9_1) = 82 then (tammyref08_Check.l0 kj7 l0 l1 t272 (wrap64 (x9_1 + 1))) else (some (x9_1, 6))) else (if ((rd_T38 l1 x9_1).f0) = 6 then (if (rd t272 x9_1) = 82 then (tammyref08_Check.l0 kj7 l0 l1 t272 (wrap64 (x9_1 + 1))) else (some (x9_1, 6))) else (tammyref08_Check.l0 kj7 l0 l1 t272 (wrap64 (x9_1 + 1))))) else (some (x9_1, 6))) else (none)) else (none)) else (if ((rd_T38 l1 x9_1).f0) = 5 then (if 0 ≤ x9_1 then (if x9_1 < (t272.length : Int) then (if (rd t272 x9_1) = 82 then (tammyref08_Check.l0 kj7 l0 l1 t272 (wrap64 (x9_1 + 1))) else (some (x9_1, 6))) else (none)) else (none)) else (if ((rd_T38 l1 x9_1).f0) = 6 then (if 0 ≤ x9_1 then (if x9_1 < (t272.length : Int) then (if (rd t272 x9_1) = 82 then (tammyref08_Check.l0 kj7 l0 l1 t272 (wrap64 (x9_1 + 1))) else (some (x9_1, 6))) else (none)) else (none)) else (tammyref08_Check.l0 kj7 l0 l1 t272 (wrap64 (x9_1 + 1)))))) else (some (x9_1, 5)))) = some (r1, r2) := H
                have A16 := Aside0.mk A160
                clear A160
                by_cases c17 : t278 < 0
                · rw [if_pos c17] at H
                  have c17b0 : decide (t278 < 0) = true := decide_eq_true c17
                  clear c17
                  simp only [Option.some.injEq, Prod.mk.injEq] at H
                  obtain ⟨rfl, rfl⟩ := H
                  have hcz18_0 : wc.cell? ⟨gb276, 0, none⟩ = some (.int .i64 ((rd_T38 l1 x9_1).f0)) := (blk_cell BK276.out 0).trans rfl
                  have hcz18_1 : wc.cell? ⟨gb276, 1, none⟩ = some (.string ((rd_T38 l1 x9_1).f1)) := (blk_cell BK276.out 1).trans rfl
                  have hcz18_2 : wc.cell? ⟨gb276, 2, none⟩ = some (.int .i64 ((rd_T38 l1 x9_1).f2)) := (blk_cell BK276.out 2).trans rfl
                  have hfz18_0 := blk_frozen BK276.out 0
                  have hfz18_1 := blk_frozen BK276.out 1
                  have hfz18_2 := blk_frozen BK276.out 2
                  go_wp2_with (first | ((with_reducible refine gate_callee (f := 24) rfl ?_); refine goesL_ (some 36) rfl rfl Try.func24 (by kernel_rfl) rfl #[.slice A0 l0.length c0, .agg #[.int .i64 ((rd_T38 l1 x9_1).f0), .string ((rd_T38 l1 x9_1).f1), .int .i64 ((rd_T38 l1 x9_1).f2)]] rfl (by (try simp only [List.map_toArray, List.map_cons, List.map_nil]); first | done | rfl | (simp only [List.length_drop, List.length_take]; rfl)) ?_; (with_reducible refine (tammyref08_Known.calls kj7 _ _ l0 ((rd_T38 l1 x9_1).f0) ((rd_T38 l1 x9_1).f1) ((rd_T38 l1 x9_1).f2) t277 _ ?side1 ?side2 A15.out).mono ?_); (case side1 => repeat (first | exact (Kd.C_below HR0.out HB.out) | (with_reducible refine Kd.C_alloc ?_ _) | (with_reducible refine Kd.C_drewN ?_ _) | (with_reducible refine Kd.C_drew ?_))); (case side2 => exact HC0.out); rintro e w19 ⟨rfl, hb⟩; refine ⟨_, rfl, ?_⟩; have n0_ := Aside0.mk (Kd.R_below (by (with_reducible repeat (first | apply Kd.R_alloc | apply Kd.R_drewN | apply Kd.R_drew)); exact HO_8.out) hb); have n1_ := Aside0.mk (blk_below (g := gb276) (o := .cells #[.int .i64 ((rd_T38 l1 x9_1).f0), .string ((rd_T38 l1 x9_1).f1), .int .i64 ((rd_T38 l1 x9_1).f2)] 38 (0, 0)) (by (with_reducible repeat (first | refine blk_drewN ?_ _ | refine blk_drew ?_ | refine blk_alloc ?_ _)); exact BK276.out) hb); have n2_ := Aside0.mk (below_step (by repeat (first | (with_reducible first | exact HB.out | apply below_alloc | apply pw_below_drewN | apply below_drew1 | refine below_set ?_ GE276.out) | exact HB.out)) hb); clear HO_8; clear BK276; clear HB; have HO_8 := n0_; have BK276 := n1_; have HB := n2_; clear n0_ n1_ n2_; (try clear hb); (try clear hb2); (try clear hk); (try clear hi); have hcz20_0 : w19.cell? ⟨gb276, 0, none⟩ = some (.int .i64 ((rd_T38 l1 x9_1).f0)) := (blk_cell BK276.out 0).trans rfl; have hcz20_1 : w19.cell? ⟨gb276, 1, none⟩ = some (.string ((rd_T38 l1 x9_1).f1)) := (blk_cell BK276.out 1).trans rfl; have hcz20_2 : w19.cell? ⟨gb276, 2, none⟩ = some (.int .i64 ((rd_T38 l1 x9_1).f2)) := (blk_cell BK276.out 2).trans rfl; have hfz20_0 := blk_frozen BK276.out 0; have hfz20_1 := blk_frozen BK276.out 1; have hfz20_2 := blk_frozen BK276.out 2) | ((with_reducible refine gate_callee (f := 25) rfl ?_); refine goesL_ (some 40) rfl rfl Try.func25 (by kernel_rfl) rfl #[.slice A0 l0.length c0, .string ((rd_T38 l1 x9_1).f1)] rfl (by (try simp only [List.map_toArray, List.map_cons, List.map_nil]); first | done | rfl | (simp only [List.length_drop, List.length_take]; rfl)) ?_; (with_reducible refine (tammyref01_Find.calls kj7 _ _ l0 ((rd_T38 l1 x9_1).f1) t278 _ ?side1 ?side2 A16.out).mono ?_); (case side1 => repeat (first | exact (Kd.C_below HR0.out HB.out) | (with_reducible refine Kd.C_alloc ?_ _) | (with_reducible refine Kd.C_drewN ?_ _) | (with_reducible refine Kd.C_drew ?_))); (case side2 => exact HC0.out); rintro e w' ⟨rfl, ⟨nd, rfl⟩⟩; refine ⟨_, rfl, ?_⟩))
                  go_ret2
                  exact ⟨by first | rfl | (simp [errW_none, errW_some] <;> rfl) | (simp [*, errW_none, errW_some] <;> rfl), by repeat (first | (with_reducible first | exact HB.out | apply below_alloc | apply pw_below_drewN | apply below_drew1 | refine below_set ?_ GE276.out) | exact HB.out)⟩
                · rw [if_neg c17] at H
                  have c17b0 : decide (t278 < 0) = false := decide_eq_false c17
                  clear c17
                  by_cases c21 : t277 = true
                  · subst c21
                    have H1 : (if ((rd_T38 l1 x9_1).f0) = 4 then (if 0 ≤ x9_1 then (if x9_1 < (t272.length : Int) then (if (rd t272 x9_1) = 76 then (if ((rd_T38 l1 x9_1).f0) = 5 then (if (rd t272 x9_1) = 82 then (tammyref08_Check.l0 kj7 l0 l1 t272 (wrap64 (x9_1 + 1))) else (some (x9_1, 6))) else (if ((rd_T38 l1 x9_1).f0) = 6 then (if (rd t272 x9_1) = 82 then (tammyref08_Check.l0 kj7 l0 l1 t272 (wrap64 (x9_1 + 1))) else (some (x9_1, 6))) else (tammyref08_Check.l0 kj7 l0 l1 t272 (wrap64 (x9_1 + 1))))) else (some (x9_1, 6))) else (none)) else (none)) else (if ((rd_T38 l1 x9_1).f0) = 5 then (if 0 ≤ x9_1 then (if x9_1 < (t272.length : Int) then (if (rd t272 x9_1) = 82 then (tammyref08_Check.l0 kj7 l0 l1 t272 (wrap64 (x9_1 + 1))) else (some (x9_1, 6))) else (none)) else (none)) else (if ((rd_T38 l1 x9_1).f0) = 6 then (if 0 ≤ x9_1 then (if x9_1 < (t272.length : Int) then (if (rd t272 x9_1) = 82 then (tammyref08_Check.l0 kj7 l0 l1 t272 (wrap64 (x9_1 + 1))) else (some (x9_1, 6))) else (none)) else (none)) else (tammyref08_Check.l0 kj7 l0 l1 t272 (wrap64 (x9_1 + 1)))))) = some (r1, r2) := by rw [if_pos rfl] at H; exact H
                    clear H
                    have H := H1
                    clear H1
                    by_cases c22 : ((rd_T38 l1 x9_1).f0) = 4
                    · rw [if_pos c22] at H
                      have c22b0 : (((rd_T38 l1 x9_1).f0) == 4) = true := beq_iff_eq.mpr c22
                      have c22b1 : (((rd_T38 l1 x9_1).f0) != 4) = false := bne_eq_false_iff_eq.mpr c22
                      clear c22
                      by_cases c23 : 0 ≤ x9_1
                      · rw [if_pos c23] at H
                        have c23b0 : decide (0 ≤ x9_1) = true := decide_eq_true c23
                        clear c23
                        by_cases c24 : x9_1 < (t272.length : Int)
                        · rw [if_pos c24] at H
                          have c24b0 : decide (x9_1 < (t272.length : Int)) = true := decide_eq_true c24
                          clear c24
                          by_cases c25 : (rd t272 x9_1) = 76
                          · rw [if_pos c25] at H
                            have c25b0 : ((rd t272 x9_1) == 76) = true := beq_iff_eq.mpr c25
                            have c25b1 : ((rd t272 x9_1) != 76) = false := bne_eq_false_iff_eq.mpr c25
                            clear c25
                            by_cases c26 : ((rd_T38 l1 x9_1).f0) = 5
                            · rw [if_pos c26] at H
                              have c26b0 : (((rd_T38 l1 x9_1).f0) == 5) = true := beq_iff_eq.mpr c26
                              have c26b1 : (((rd_T38 l1 x9_1).f0) != 5) = false := bne_eq_false_iff_eq.mpr c26
                              clear c26
                              by_cases c27 : (rd t272 x9_1) = 82
                              · rw [if_pos c27] at H
                                have c27b0 : ((rd t272 x9_1) == 82) = true := beq_iff_eq.mpr c27
                                have c27b1 : ((rd t272 x9_1) != 82) = false := bne_eq_false_iff_eq.mpr c27
                                clear c27
                                have H' := Aside0.mk H
                                clear H
                                have hcz28_0 : wc.cell? ⟨gb276, 0, none⟩ = some (.int .i64 ((rd_T38 l1 x9_1).f0)) := (blk_cell BK276.out 0).trans rfl
                                have hcz28_1 : wc.cell? ⟨gb276, 1, none⟩ = some (.string ((rd_T38 l1 x9_1).f1)) := (blk_cell BK276.out 1).trans rfl
                                have hcz28_2 : wc.cell? ⟨gb276, 2, none⟩ = some (.int .i64 ((rd_T38 l1 x9_1).f2)) := (blk_cell BK276.out 2).trans rfl
                                have hfz28_0 := blk_frozen BK276.out 0
                                have hfz28_1 := blk_frozen BK276.out 1
                                have hfz28_2 := blk_frozen BK276.out 2
                                go_wp2_with (first | ((with_reducible refine gate_callee (f := 24) rfl ?_); refine goesL_ (some 36) rfl rfl Try.func24 (by kernel_rfl) rfl #[.slice A0 l0.length c0, .agg #[.int .i64 ((rd_T38 l1 x9_1).f0), .string ((rd_T38 l1 x9_1).f1), .int .i64 ((rd_T38 l1 x9_1).f2)]] rfl (by (try simp only [List.map_toArray, List.map_cons, List.map_nil]); first | done | rfl | (simp only [List.length_drop, List.length_take]; rfl)) ?_; (with_reducible refine (tammyref08_Known.calls kj7 _ _ l0 ((rd_T38 l1 x9_1).f0) ((rd_T38 l1 x9_1).f1) ((rd_T38 l1 x9_1).f2) true _ ?side1 ?side2 A15.out).mono ?_); (case side1 => repeat (first | exact (Kd.C_below HR0.out HB.out) | (with_reducible refine Kd.C_alloc ?_ _) | (with_reducible refine Kd.C_drewN ?_ _) | (with_reducible refine Kd.C_drew ?_))); (case side2 => exact HC0.out); rintro e w29 ⟨rfl, hb⟩; refine ⟨_, rfl, ?_⟩; have n0_ := Aside0.mk (Kd.R_below (by (with_reducible repeat (first | apply Kd.R_alloc | apply Kd.R_drewN | apply Kd.R_drew)); exact HO_8.out) hb); have n1_ := Aside0.mk (blk_below (g := gb276) (o := .cells #[.int .i64 ((rd_T38 l1 x9_1).f0), .string ((rd_T38 l1 x9_1).f1), .int .i64 ((rd_T38 l1 x9_1).f2)] 38 (0, 0)) (by (with_reducible repeat (first | refine blk_drewN ?_ _ | refine blk_drew ?_ | refine blk_alloc ?_ _)); exact BK276.out) hb); have n2_ := Aside0.mk (below_step (by repeat (first | (with_reducible first | exact HB.out | apply below_alloc | apply pw_below_drewN | apply below_drew1 | refine below_set ?_ GE276.out) | exact HB.out)) hb); clear HO_8; clear BK276; clear HB; have HO_8 := n0_; have BK276 := n1_; have HB := n2_; clear n0_ n1_ n2_; (try clear hb); (try clear hb2); (try clear hk); (try clear hi); have hcz30_0 : w29.cell? ⟨gb276, 0, none⟩ = some (.int .i64 ((rd_T38 l1 x9_1).f0)) := (blk_cell BK276.out 0).trans rfl; have hcz30_1 : w29.cell? ⟨gb276, 1, none⟩ = some (.string ((rd_T38 l1 x9_1).f1)) := (blk_cell BK276.out 1).trans rfl; have hcz30_2 : w29.cell? ⟨gb276, 2, none⟩ = some (.int .i64 ((rd_T38 l1 x9_1).f2)) := (blk_cell BK276.out 2).trans rfl; have hfz30_0 := blk_frozen BK276.out 0; have hfz30_1 := blk_frozen BK276.out 1; have hfz30_2 := blk_frozen BK276.out 2) | ((with_reducible refine gate_callee (f := 25) rfl ?_); refine goesL_ (some 40) rfl rfl Try.func25 (by kernel_rfl) rfl #[.slice A0 l0.length c0, .string ((rd_T38 l1 x9_1).f1)] rfl (by (try simp only [List.map_toArray, List.map_cons, List.map_nil]); first | done | rfl | (simp only [List.length_drop, List.length_take]; rfl)) ?_; (with_reducible refine (tammyref01_Find.calls kj7 _ _ l0 ((rd_T38 l1 x9_1).f1) t278 _ ?side1 ?side2 A16.out).mono ?_); (case side1 => repeat (first | exact (Kd.C_below HR0.out HB.out) | (with_reducible refine Kd.C_alloc ?_ _) | (with_reducible refine Kd.C_drewN ?_ _) | (with_reducible refine Kd.C_drew ?_))); (case side2 => exact HC0.out); rintro e w' ⟨rfl, ⟨nd, rfl⟩⟩; refine ⟨_, rfl, ?_⟩; obtain ⟨Ao31, co31, eo31⟩ := Kd.R_slice HO_8.out; subst eo31; have p279 : 0 ≤ (x9_1 : Int) := of_decide_eq_true (by first | (with_reducible assumption) | assumption); have q279 : x9_1 < (t272.length : Int) := of_decide_eq_true (by first | (with_reducible assumption) | assumption); obtain ⟨ad279, e279, hx279_0⟩ := Kd.at_int (Kd.R_reads' HO_8.out).2.2 x9_1 p279 q279; cases e279; replace p279 := eq_true p279; replace q279 := eq_true q279; have p280 : 0 ≤ (x9_1 : Int) := of_decide_eq_true (by first | (with_reducible assumption) | assumption); have q280 : x9_1 < (t272.length : Int) := of_decide_eq_true (by first | (with_reducible assumption) | assumption); obtain ⟨ad280, e280, hx280_0⟩ := Kd.at_int (Kd.R_reads' HO_8.out).2.2 x9_1 p280 q280; obtain rfl : ad279 = ad280 := (by injection e280); replace p280 := eq_true p280; replace q280 := eq_true q280))
                                go_roundg kj7
                                case measure => have := HK1.out; have := HJ7.out; omega
                                case rel => exact ⟨(wrap64 (x9_1 + 1)), (by first | rfl | (simp; done) | (simp [*]; done)), H', ⟨by have := HK1.out; have := HJ7.out; omega⟩, ⟨by (with_reducible repeat (first | apply Kd.R_alloc | apply Kd.R_drewN | apply Kd.R_drew)); exact HO_8.out⟩, ⟨by repeat (first | (with_reducible first | exact HB.out | apply below_alloc | apply pw_below_drewN | apply below_drew1 | refine below_set ?_ GE276.out) | exact HB.out)⟩⟩
                              · rw [if_neg c27] at H
                                have c27b0 : ((rd t272 x9_1) == 82) = false := beq_eq_false_iff_ne.mpr c27
                                have c27b1 : ((rd t272 x9_1) != 82) = true := bne_iff_ne.mpr c27
                                simp only [Option.some.injEq, Prod.mk.injEq] at H
                                obtain ⟨rfl, rfl⟩ := H
                                have hcz32_0 : wc.cell? ⟨gb276, 0, none⟩ = some (.int .i64 ((rd_T38 l1 x9_1).f0)) := (blk_cell BK276.out 0).trans rfl
                                have hcz32_1 : wc.cell? ⟨gb276, 1, none⟩ = some (.string ((rd_T38 l1 x9_1).f1)) := (blk_cell BK276.out 1).trans rfl
                                have hcz32_2 : wc.cell? ⟨gb276, 2, none⟩ = some (.int .i64 ((rd_T38 l1 x9_1).f2)) := (blk_cell BK276.out 2).trans rfl
                                have hfz32_0 := blk_frozen BK276.out 0
                                have hfz32_1 := blk_frozen BK276.out 1
                                have hfz32_2 := blk_frozen BK276.out 2
                                go_wp2_with (first | ((with_reducible refine gate_callee (f := 24) rfl ?_); refine goesL_ (some 36) rfl rfl Try.func24 (by kernel_rfl) rfl #[.slice A0 l0.length c0, .agg #[.int .i64 ((rd_T38 l1 x9_1).f0), .string ((rd_T38 l1 x9_1).f1), .int .i64 ((rd_T38 l1 x9_1).f2)]] rfl (by (try simp only [List.map_toArray, List.map_cons, List.map_nil]); first | done | rfl | (simp only [List.length_drop, List.length_take]; rfl)) ?_; (with_reducible refine (tammyref08_Known.calls kj7 _ _ l0 ((rd_T38 l1 x9_1).f0) ((rd_T38 l1 x9_1).f1) ((rd_T38 l1 x9_1).f2) true _ ?side1 ?side2 A15.out).mono ?_); (case side1 => repeat (first | exact (Kd.C_below HR0.out HB.out) | (with_reducible refine Kd.C_alloc ?_ _) | (with_reducible refine Kd.C_drewN ?_ _) | (with_reducible refine Kd.C_drew ?_))); (case side2 => exact HC0.out); rintro e w33 ⟨rfl, hb⟩; refine ⟨_, rfl, ?_⟩; have n0_ := Aside0.mk (Kd.R_below (by (with_reducible repeat (first | apply Kd.R_alloc | apply Kd.R_drewN | apply Kd.R_drew)); exact HO_8.out) hb); have n1_ := Aside0.mk (blk_below (g := gb276) (o := .cells #[.int .i64 ((rd_T38 l1 x9_1).f0), .string ((rd_T38 l1 x9_1).f1), .int .i64 ((rd_T38 l1 x9_1).f2)] 38 (0, 0)) (by (with_reducible repeat (first | refine blk_drewN ?_ _ | refine blk_drew ?_ | refine blk_alloc ?_ _)); exact BK276.out) hb); have n2_ := Aside0.mk (below_step (by repeat (first | (with_reducible first | exact HB.out | apply below_alloc | apply pw_below_drewN | apply below_drew1 | refine below_set ?_ GE276.out) | exact HB.out)) hb); clear HO_8; clear BK276; clear HB; have HO_8 := n0_; have BK276 := n1_; have HB := n2_; clear n0_ n1_ n2_; (try clear hb); (try clear hb2); (try clear hk); (try clear hi); have hcz34_0 : w33.cell? ⟨gb276, 0, none⟩ = some (.int .i64 ((rd_T38 l1 x9_1).f0)) := (blk_cell BK276.out 0).trans rfl; have hcz34_1 : w33.cell? ⟨gb276, 1, none⟩ = some (.string ((rd_T38 l1 x9_1).f1)) := (blk_cell BK276.out 1).trans rfl; have hcz34_2 : w33.cell? ⟨gb276, 2, none⟩ = some (.int .i64 ((rd_T38 l1 x9_1).f2)) := (blk_cell BK276.out 2).trans rfl; have hfz34_0 := blk_frozen BK276.out 0; have hfz34_1 := blk_frozen BK276.out 1; have hfz34_2 := blk_frozen BK276.out 2) | ((with_reducible refine gate_callee (f := 25) rfl ?_); refine goesL_ (some 40) rfl rfl Try.func25 (by kernel_rfl) rfl #[.slice A0 l0.length c0, .string ((rd_T38 l1 x9_1).f1)] rfl (by (try simp only [List.map_toArray, List.map_cons, List.map_nil]); first | done | rfl | (simp only [List.length_drop, List.length_take]; rfl)) ?_; (with_reducible refine (tammyref01_Find.calls kj7 _ _ l0 ((rd_T38 l1 x9_1).f1) t278 _ ?side1 ?side2 A16.out).mono ?_); (case side1 => repeat (first | exact (Kd.C_below HR0.out HB.out) | (with_reducible refine Kd.C_alloc ?_ _) | (with_reducible refine Kd.C_drewN ?_ _) | (with_reducible refine Kd.C_drew ?_))); (case side2 => exact HC0.out); rintro e w' ⟨rfl, ⟨nd, rfl⟩⟩; refine ⟨_, rfl, ?_⟩; obtain ⟨Ao35, co35, eo35⟩ := Kd.R_slice HO_8.out; subst eo35; have p279 : 0 ≤ (x9_1 : Int) := of_decide_eq_true (by first | (with_reducible assumption) | assumption); have q279 : x9_1 < (t272.length : Int) := of_decide_eq_true (by first | (with_reducible assumption) | assumption); obtain ⟨ad279, e279, hx279_0⟩ := Kd.at_int (Kd.R_reads' HO_8.out).2.2 x9_1 p279 q279; cases e279; replace p279 := eq_true p279; replace q279 := eq_true q279; have p280 : 0 ≤ (x9_1 : Int) := of_decide_eq_true (by first | (with_reducible assumption) | assumption); have q280 : x9_1 < (t272.length : Int) := of_decide_eq_true (by first | (with_reducible assumption) | assumption); obtain ⟨ad280, e280, hx280_0⟩ := Kd.at_int (Kd.R_reads' HO_8.out).2.2 x9_1 p280 q280; obtain rfl : ad279 = ad280 := (by injection e280); replace p280 := eq_true p280; replace q280 := eq_true q280))
                                go_ret2
                                exact ⟨by first | rfl | (simp [errW_none, errW_some] <;> rfl) | (simp [*, errW_none, errW_some] <;> rfl), by repeat (first | (with_reducible first | exact HB.out | apply below_alloc | apply pw_below_drewN | apply below_drew1 | refine below_set ?_ GE276.out) | exact HB.out)⟩
                            · rw [if_neg c26] at H
                              have c26b0 : (((rd_T38 l1 x9_1).f0) == 5) = false := beq_eq_false_iff_ne.mpr c26
                              have c26b1 : (((rd_T38 l1 x9_1).f0) != 5) = true := bne_iff_ne.mpr c26
                              by_cases c36 : ((rd_T38 l1 x9_1).f0) = 6
                              · rw [if_pos c36] at H
                                have c36b0 : (((rd_T38 l1 x9_1).f0) == 6) = true := beq_iff_eq.mpr c36
                                have c36b1 : (((rd_T38 l1 x9_1).f0) != 6) = false := bne_eq_false_iff_eq.mpr c36
                                clear c36
                                by_cases c37 : (rd t272 x9_1) = 82
                                · rw [if_pos c37] at H
                                  have c37b0 : ((rd t272 x9_1) == 82) = true := beq_iff_eq.mpr c37
                                  have c37b1 : ((rd t272 x9_1) != 82) = false := bne_eq_false_iff_eq.mpr c37
                                  clear c37
                                  have H' := Aside0.mk H
                                  clear H
                                  have hcz38_0 : wc.cell? ⟨gb276, 0, none⟩ = some (.int .i64 ((rd_T38 l1 x9_1).f0)) := (blk_cell BK276.out 0).trans rfl
                                  have hcz38_1 : wc.cell? ⟨gb276, 1, none⟩ = some (.string ((rd_T38 l1 x9_1).f1)) := (blk_cell BK276.out 1).trans rfl
                                  have hcz38_2 : wc.cell? ⟨gb276, 2, none⟩ = some (.int .i64 ((rd_T38 l1 x9_1).f2)) := (blk_cell BK276.out 2).trans rfl
                                  have hfz38_0 := blk_frozen BK276.out 0
                                  have hfz38_1 := blk_frozen BK276.out 1
                                  have hfz38_2 := blk_frozen BK276.out 2
                                  go_wp2_with (first | ((with_reducible refine gate_callee (f := 24) rfl ?_); refine goesL_ (some 36) rfl rfl Try.func24 (by kernel_rfl) rfl #[.slice A0 l0.length c0, .agg #[.int .i64 ((rd_T38 l1 x9_1).f0), .string ((rd_T38 l1 x9_1).f1), .int .i64 ((rd_T38 l1 x9_1).f2)]] rfl (by (try simp only [List.map_toArray, List.map_cons, List.map_nil]); first | done | rfl | (simp only [List.length_drop, List.length_take]; rfl)) ?_; (with_reducible refine (tammyref08_Known.calls kj7 _ _ l0 ((rd_T38 l1 x9_1).f0) ((rd_T38 l1 x9_1).f1) ((rd_T38 l1 x9_1).f2) true _ ?side1 ?side2 A15.out).mono ?_); (case side1 => repeat (first | exact (Kd.C_below HR0.out HB.out) | (with_reducible refine Kd.C_alloc ?_ _) | (with_reducible refine Kd.C_drewN ?_ _) | (with_reducible refine Kd.C_drew ?_))); (case side2 => exact HC0.out); rintro e w39 ⟨rfl, hb⟩; refine ⟨_, rfl, ?_⟩; have n0_ := Aside0.mk (Kd.R_below (by (with_reducible repeat (first | apply Kd.R_alloc | apply Kd.R_drewN | apply Kd.R_drew)); exact HO_8.out) hb); have n1_ := Aside0.mk (blk_below (g := gb276) (o := .cells #[.int .i64 ((rd_T38 l1 x9_1).f0), .string ((rd_T38 l1 x9_1).f1), .int .i64 ((rd_T38 l1 x9_1).f2)] 38 (0, 0)) (by (with_reducible repeat (first | refine blk_drewN ?_ _ | refine blk_drew ?_ | refine blk_alloc ?_ _)); exact BK276.out) hb); have n2_ := Aside0.mk (below_step (by repeat (first | (with_reducible first | exact HB.out | apply below_alloc | apply pw_below_drewN | apply below_drew1 | refine below_set ?_ GE276.out) | exact HB.out)) hb); clear HO_8; clear BK276; clear HB; have HO_8 := n0_; have BK276 := n1_; have HB := n2_; clear n0_ n1_ n2_; (try clear hb); (try clear hb2); (try clear hk); (try clear hi); have hcz40_0 : w39.cell? ⟨gb276, 0, none⟩ = some (.int .i64 ((rd_T38 l1 x9_1).f0)) := (blk_cell BK276.out 0).trans rfl; have hcz40_1 : w39.cell? ⟨gb276, 1, none⟩ = some (.string ((rd_T38 l1 x9_1).f1)) := (blk_cell BK276.out 1).trans rfl; have hcz40_2 : w39.cell? ⟨gb276, 2, none⟩ = some (.int .i64 ((rd_T38 l1 x9_1).f2)) := (blk_cell BK276.out 2).trans rfl; have hfz40_0 := blk_frozen BK276.out 0; have hfz40_1 := blk_frozen BK276.out 1; have hfz40_2 := blk_frozen BK276.out 2) | ((with_reducible refine gate_callee (f := 25) rfl ?_); refine goesL_ (some 40) rfl rfl Try.func25 (by kernel_rfl) rfl #[.slice A0 l0.length c0, .string ((rd_T38 l1 x9_1).f1)] rfl (by (try simp only [List.map_toArray, List.map_cons, List.map_nil]); first | done | rfl | (simp only [List.length_drop, List.length_take]; rfl)) ?_; (with_reducible refine (tammyref01_Find.calls kj7 _ _ l0 ((rd_T38 l1 x9_1).f1) t278 _ ?side1 ?side2 A16.out).mono ?_); (case side1 => repeat (first | exact (Kd.C_below HR0.out HB.out) | (with_reducible refine Kd.C_alloc ?_ _) | (with_reducible refine Kd.C_drewN ?_ _) | (with_reducible refine Kd.C_drew ?_))); (case side2 => exact HC0.out); rintro e w' ⟨rfl, ⟨nd, rfl⟩⟩; refine ⟨_, rfl, ?_⟩; obtain ⟨Ao41, co41, eo41⟩ := Kd.R_slice HO_8.out; subst eo41; have p279 : 0 ≤ (x9_1 : Int) := of_decide_eq_true (by first | (with_reducible assumption) | assumption); have q279 : x9_1 < (t272.length : Int) := of_decide_eq_true (by first | (with_reducible assumption) | assumption); obtain ⟨ad279, e279, hx279_0⟩ := Kd.at_int (Kd.R_reads' HO_8.out).2.2 x9_1 p279 q279; cases e279; replace p279 := eq_true p279; replace q279 := eq_true q279; have p281 : 0 ≤ (x9_1 : Int) := of_decide_eq_true (by first | (with_reducible assumption) | assumption); have q281 : x9_1 < (t272.length : Int) := of_decide_eq_true (by first | (with_reducible assumption) | assumption); obtain ⟨ad281, e281, hx281_0⟩ := Kd.at_int (Kd.R_reads' HO_8.out).2.2 x9_1 p281 q281; obtain rfl : ad279 = ad281 := (by injection e281); replace p281 := eq_true p281; replace q281 := eq_true q281))
                                  go_roundg kj7
                                  case measure => have := HK1.out; have := HJ7.out; omega
                                  case rel => exact ⟨(wrap64 (x9_1 + 1)), (by first | rfl | (simp; done) | (simp [*]; done)), H', ⟨by have := HK1.out; have := HJ7.out; omega⟩, ⟨by (with_reducible repeat (first | apply Kd.R_alloc | apply Kd.R_drewN | apply Kd.R_drew)); exact HO_8.out⟩, ⟨by repeat (first | (with_reducible first | exact HB.out | apply below_alloc | apply pw_below_drewN | apply below_drew1 | refine below_set ?_ GE276.out) | exact HB.out)⟩⟩
                                · rw [if_neg c37] at H
                                  have c37b0 : ((rd t272 x9_1) == 82) = false := beq_eq_false_iff_ne.mpr c37
                                  have c37b1 : ((rd t272 x9_1) != 82) = true := bne_iff_ne.mpr c37
                                  simp only [Option.some.injEq, Prod.mk.injEq] at H
                                  obtain ⟨rfl, rfl⟩ := H
                                  have hcz42_0 : wc.cell? ⟨gb276, 0, none⟩ = some (.int .i64 ((rd_T38 l1 x9_1).f0)) := (blk_cell BK276.out 0).trans rfl
                                  have hcz42_1 : wc.cell? ⟨gb276, 1, none⟩ = some (.string ((rd_T38 l1 x9_1).f1)) := (blk_cell BK276.out 1).trans rfl
                                  have hcz42_2 : wc.cell? ⟨gb276, 2, none⟩ = some (.int .i64 ((rd_T38 l1 x9_1).f2)) := (blk_cell BK276.out 2).trans rfl
                                  have hfz42_0 := blk_frozen BK276.out 0
                                  have hfz42_1 := blk_frozen BK276.out 1
                                  have hfz42_2 := blk_frozen BK276.out 2
                                  go_wp2_with (first | ((with_reducible refine gate_callee (f := 24) rfl ?_); refine goesL_ (some 36) rfl rfl Try.func24 (by kernel_rfl) rfl #[.slice A0 l0.length c0, .agg #[.int .i64 ((rd_T38 l1 x9_1).f0), .string ((rd_T38 l1 x9_1).f1), .int .i64 ((rd_T38 l1 x9_1).f2)]] rfl (by (try simp only [List.map_toArray, List.map_cons, List.map_nil]); first | done | rfl | (simp only [List.length_drop, List.length_take]; rfl)) ?_; (with_reducible refine (tammyref08_Known.calls kj7 _ _ l0 ((rd_T38 l1 x9_1).f0) ((rd_T38 l1 x9_1).f1) ((rd_T38 l1 x9_1).f2) true _ ?side1 ?side2 A15.out).mono ?_); (case side1 => repeat (first | exact (Kd.C_below HR0.out HB.out) | (with_reducible refine Kd.C_alloc ?_ _) | (with_reducible refine Kd.C_drewN ?_ _) | (with_reducible refine Kd.C_drew ?_))); (case side2 => exact HC0.out); rintro e w43 ⟨rfl, hb⟩; refine ⟨_, rfl, ?_⟩; have n0_ := Aside0.mk (Kd.R_below (by (with_reducible repeat (first | apply Kd.R_alloc | apply Kd.R_drewN | apply Kd.R_drew)); exact HO_8.out) hb); have n1_ := Aside0.mk (blk_below (g := gb276) (o := .cells #[.int .i64 ((rd_T38 l1 x9_1).f0), .string ((rd_T38 l1 x9_1).f1), .int .i64 ((rd_T38 l1 x9_1).f2)] 38 (0, 0)) (by (with_reducible repeat (first | refine blk_drewN ?_ _ | refine blk_drew ?_ | refine blk_alloc ?_ _)); exact BK276.out) hb); have n2_ := Aside0.mk (below_step (by repeat (first | (with_reducible first | exact HB.out | apply below_alloc | apply pw_below_drewN | apply below_drew1 | refine below_set ?_ GE276.out) | exact HB.out)) hb); clear HO_8; clear BK276; clear HB; have HO_8 := n0_; have BK276 := n1_; have HB := n2_; clear n0_ n1_ n2_; (try clear hb); (try clear hb2); (try clear hk); (try clear hi); have hcz44_0 : w43.cell? ⟨gb276, 0, none⟩ = some (.int .i64 ((rd_T38 l1 x9_1).f0)) := (blk_cell BK276.out 0).trans rfl; have hcz44_1 : w43.cell? ⟨gb276, 1, none⟩ = some (.string ((rd_T38 l1 x9_1).f1)) := (blk_cell BK276.out 1).trans rfl; have hcz44_2 : w43.cell? ⟨gb276, 2, none⟩ = some (.int .i64 ((rd_T38 l1 x9_1).f2)) := (blk_cell BK276.out 2).trans rfl; have hfz44_0 := blk_frozen BK276.out 0; have hfz44_1 := blk_frozen BK276.out 1; have hfz44_2 := blk_frozen BK276.out 2) | ((with_reducible refine gate_callee (f := 25) rfl ?_); refine goesL_ (some 40) rfl rfl Try.func25 (by kernel_rfl) rfl #[.slice A0 l0.length c0, .string ((rd_T38 l1 x9_1).f1)] rfl (by (try simp only [List.map_toArray, List.map_cons, List.map_nil]); first | done | rfl | (simp only [List.length_drop, List.length_take]; rfl)) ?_; (with_reducible refine (tammyref01_Find.calls kj7 _ _ l0 ((rd_T38 l1 x9_1).f1) t278 _ ?side1 ?side2 A16.out).mono ?_); (case side1 => repeat (first | exact (Kd.C_below HR0.out HB.out) | (with_reducible refine Kd.C_alloc ?_ _) | (with_reducible refine Kd.C_drewN ?_ _) | (with_reducible refine Kd.C_drew ?_))); (case side2 => exact HC0.out); rintro e w' ⟨rfl, ⟨nd, rfl⟩⟩; refine ⟨_, rfl, ?_⟩; obtain ⟨Ao45, co45, eo45⟩ := Kd.R_slice HO_8.out; subst eo45; have p279 : 0 ≤ (x9_1 : Int) := of_decide_eq_true (by first | (with_reducible assumption) | assumption); have q279 : x9_1 < (t272.length : Int) := of_decide_eq_true (by first | (with_reducible assumption) | assumption); obtain ⟨ad279, e279, hx279_0⟩ := Kd.at_int (Kd.R_reads' HO_8.out).2.2 x9_1 p279 q279; cases e279; replace p279 := eq_true p279; replace q279 := eq_true q279; have p281 : 0 ≤ (x9_1 : Int) := of_decide_eq_true (by first | (with_reducible assumption) | assumption); have q281 : x9_1 < (t272.length : Int) := of_decide_eq_true (by first | (with_reducible assumption) | assumption); obtain ⟨ad281, e281, hx281_0⟩ := Kd.at_int (Kd.R_reads' HO_8.out).2.2 x9_1 p281 q281; obtain rfl : ad279 = ad281 := (by injection e281); replace p281 := eq_true p281; replace q281 := eq_true q281))
                                  go_ret2
                                  exact ⟨by first | rfl | (simp [errW_none, errW_some] <;> rfl) | (simp [*, errW_none, errW_some] <;> rfl), by repeat (first | (with_reducible first | exact HB.out | apply below_alloc | apply pw_below_drewN | apply below_drew1 | refine below_set ?_ GE276.out) | exact HB.out)⟩
                              · rw [if_neg c36] at H
                                have c36b0 : (((rd_T38 l1 x9_1).f0) == 6) = false := beq_eq_false_iff_ne.mpr c36
                                have c36b1 : (((rd_T38 l1 x9_1).f0) != 6) = true := bne_iff_ne.mpr c36
                                have H' := Aside0.mk H
                                clear H
                                have hcz46_0 : wc.cell? ⟨gb276, 0, none⟩ = some (.int .i64 ((rd_T38 l1 x9_1).f0)) := (blk_cell BK276.out 0).trans rfl
                                have hcz46_1 : wc.cell? ⟨gb276, 1, none⟩ = some (.string ((rd_T38 l1 x9_1).f1)) := (blk_cell BK276.out 1).trans rfl
                                have hcz46_2 : wc.cell? ⟨gb276, 2, none⟩ = some (.int .i64 ((rd_T38 l1 x9_1).f2)) := (blk_cell BK276.out 2).trans rfl
                                have hfz46_0 := blk_frozen BK276.out 0
                                have hfz46_1 := blk_frozen BK276.out 1
                                have hfz46_2 := blk_frozen BK276.out 2
                                go_wp2_with (first | ((with_reducible refine gate_callee (f := 24) rfl ?_); refine goesL_ (some 36) rfl rfl Try.func24 (by kernel_rfl) rfl #[.slice A0 l0.length c0, .agg #[.int .i64 ((rd_T38 l1 x9_1).f0), .string ((rd_T38 l1 x9_1).f1), .int .i64 ((rd_T38 l1 x9_1).f2)]] rfl (by (try simp only [List.map_toArray, List.map_cons, List.map_nil]); first | done | rfl | (simp only [List.length_drop, List.length_take]; rfl)) ?_; (with_reducible refine (tammyref08_Known.calls kj7 _ _ l0 ((rd_T38 l1 x9_1).f0) ((rd_T38 l1 x9_1).f1) ((rd_T38 l1 x9_1).f2) true _ ?side1 ?side2 A15.out).mono ?_); (case side1 => repeat (first | exact (Kd.C_below HR0.out HB.out) | (with_reducible refine Kd.C_alloc ?_ _) | (with_reducible refine Kd.C_drewN ?_ _) | (with_reducible refine Kd.C_drew ?_))); (case side2 => exact HC0.out); rintro e w47 ⟨rfl, hb⟩; refine ⟨_, rfl, ?_⟩; have n0_ := Aside0.mk (Kd.R_below (by (with_reducible repeat (first | apply Kd.R_alloc | apply Kd.R_drewN | apply Kd.R_drew)); exact HO_8.out) hb); have n1_ := Aside0.mk (blk_below (g := gb276) (o := .cells #[.int .i64 ((rd_T38 l1 x9_1).f0), .string ((rd_T38 l1 x9_1).f1), .int .i64 ((rd_T38 l1 x9_1).f2)] 38 (0, 0)) (by (with_reducible repeat (first | refine blk_drewN ?_ _ | refine blk_drew ?_ | refine blk_alloc ?_ _)); exact BK276.out) hb); have n2_ := Aside0.mk (below_step (by repeat (first | (with_reducible first | exact HB.out | apply below_alloc | apply pw_below_drewN | apply below_drew1 | refine below_set ?_ GE276.out) | exact HB.out)) hb); clear HO_8; clear BK276; clear HB; have HO_8 := n0_; have BK276 := n1_; have HB := n2_; clear n0_ n1_ n2_; (try clear hb); (try clear hb2); (try clear hk); (try clear hi); have hcz48_0 : w47.cell? ⟨gb276, 0, none⟩ = some (.int .i64 ((rd_T38 l1 x9_1).f0)) := (blk_cell BK276.out 0).trans rfl; have hcz48_1 : w47.cell? ⟨gb276, 1, none⟩ = some (.string ((rd_T38 l1 x9_1).f1)) := (blk_cell BK276.out 1).trans rfl; have hcz48_2 : w47.cell? ⟨gb276, 2, none⟩ = some (.int .i64 ((rd_T38 l1 x9_1).f2)) := (blk_cell BK276.out 2).trans rfl; have hfz48_0 := blk_frozen BK276.out 0; have hfz48_1 := blk_frozen BK276.out 1; have hfz48_2 := blk_frozen BK276.out 2) | ((with_reducible refine gate_callee (f := 25) rfl ?_); refine goesL_ (some 40) rfl rfl Try.func25 (by kernel_rfl) rfl #[.slice A0 l0.length c0, .string ((rd_T38 l1 x9_1).f1)] rfl (by (try simp only [List.map_toArray, List.map_cons, List.map_nil]); first | done | rfl | (simp only [List.length_drop, List.length_take]; rfl)) ?_; (with_reducible refine (tammyref01_Find.calls kj7 _ _ l0 ((rd_T38 l1 x9_1).f1) t278 _ ?side1 ?side2 A16.out).mono ?_); (case side1 => repeat (first | exact (Kd.C_below HR0.out HB.out) | (with_reducible refine Kd.C_alloc ?_ _) | (with_reducible refine Kd.C_drewN ?_ _) | (with_reducible refine Kd.C_drew ?_))); (case side2 => exact HC0.out); rintro e w' ⟨rfl, ⟨nd, rfl⟩⟩; refine ⟨_, rfl, ?_⟩; obtain ⟨Ao49, co49, eo49⟩ := Kd.R_slice HO_8.out; subst eo49; have p279 : 0 ≤ (x9_1 : Int) := of_decide_eq_true (by first | (with_reducible assumption) | assumption); have q279 : x9_1 < (t272.length : Int) := of_decide_eq_true (by first | (with_reducible assumption) | assumption); obtain ⟨ad279, e279, hx279_0⟩ := Kd.at_int (Kd.R_reads' HO_8.out).2.2 x9_1 p279 q279; cases e279; replace p279 := eq_true p279; replace q279 := eq_true q279))
                                go_roundg kj7
                                case measure => have := HK1.out; have := HJ7.out; omega
                                case rel => exact ⟨(wrap64 (x9_1 + 1)), (by first | rfl | (simp; done) | (simp [*]; done)), H', ⟨by have := HK1.out; have := HJ7.out; omega⟩, ⟨by (with_reducible repeat (first | apply Kd.R_alloc | apply Kd.R_drewN | apply Kd.R_drew)); exact HO_8.out⟩, ⟨by repeat (first | (with_reducible first | exact HB.out | apply below_alloc | apply pw_below_drewN | apply below_drew1 | refine below_set ?_ GE276.out) | exact HB.out)⟩⟩
                          · rw [if_neg c25] at H
                            have c25b0 : ((rd t272 x9_1) == 76) = false := beq_eq_false_iff_ne.mpr c25
                            have c25b1 : ((rd t272 x9_1) != 76) = true := bne_iff_ne.mpr c25
                            simp only [Option.some.injEq, Prod.mk.injEq] at H
                            obtain ⟨rfl, rfl⟩ := H
                            have hcz50_0 : wc.cell? ⟨gb276, 0, none⟩ = some (.int .i64 ((rd_T38 l1 x9_1).f0)) := (blk_cell BK276.out 0).trans rfl
                            have hcz50_1 : wc.cell? ⟨gb276, 1, none⟩ = some (.string ((rd_T38 l1 x9_1).f1)) := (blk_cell BK276.out 1).trans rfl
                            have hcz50_2 : wc.cell? ⟨gb276, 2, none⟩ = some (.int .i64 ((rd_T38 l1 x9_1).f2)) := (blk_cell BK276.out 2).trans rfl
                            have hfz50_0 := blk_frozen BK276.out 0
                            have hfz50_1 := blk_frozen BK276.out 1
                            have hfz50_2 := blk_frozen BK276.out 2
                            go_wp2_with (first | ((with_reducible refine gate_callee (f := 24) rfl ?_); refine goesL_ (some 36) rfl rfl Try.func24 (by kernel_rfl) rfl #[.slice A0 l0.length c0, .agg #[.int .i64 ((rd_T38 l1 x9_1).f0), .string ((rd_T38 l1 x9_1).f1), .int .i64 ((rd_T38 l1 x9_1).f2)]] rfl (by (try simp only [List.map_toArray, List.map_cons, List.map_nil]); first | done | rfl | (simp only [List.length_drop, List.length_take]; rfl)) ?_; (with_reducible refine (tammyref08_Known.calls kj7 _ _ l0 ((rd_T38 l1 x9_1).f0) ((rd_T38 l1 x9_1).f1) ((rd_T38 l1 x9_1).f2) true _ ?side1 ?side2 A15.out).mono ?_); (case side1 => repeat (first | exact (Kd.C_below HR0.out HB.out) | (with_reducible refine Kd.C_alloc ?_ _) | (with_reducible refine Kd.C_drewN ?_ _) | (with_reducible refine Kd.C_drew ?_))); (case side2 => exact HC0.out); rintro e w51 ⟨rfl, hb⟩; refine ⟨_, rfl, ?_⟩; have n0_ := Aside0.mk (Kd.R_below (by (with_reducible repeat (first | apply Kd.R_alloc | apply Kd.R_drewN | apply Kd.R_drew)); exact HO_8.out) hb); have n1_ := Aside0.mk (blk_below (g := gb276) (o := .cells #[.int .i64 ((rd_T38 l1 x9_1).f0), .string ((rd_T38 l1 x9_1).f1), .int .i64 ((rd_T38 l1 x9_1).f2)] 38 (0, 0)) (by (with_reducible repeat (first | refine blk_drewN ?_ _ | refine blk_drew ?_ | refine blk_alloc ?_ _)); exact BK276.out) hb); have n2_ := Aside0.mk (below_step (by repeat (first | (with_reducible first | exact HB.out | apply below_alloc | apply pw_below_drewN | apply below_drew1 | refine below_set ?_ GE276.out) | exact HB.out)) hb); clear HO_8; clear BK276; clear HB; have HO_8 := n0_; have BK276 := n1_; have HB := n2_; clear n0_ n1_ n2_; (try clear hb); (try clear hb2); (try clear hk); (try clear hi); have hcz52_0 : w51.cell? ⟨gb276, 0, none⟩ = some (.int .i64 ((rd_T38 l1 x9_1).f0)) := (blk_cell BK276.out 0).trans rfl; have hcz52_1 : w51.cell? ⟨gb276, 1, none⟩ = some (.string ((rd_T38 l1 x9_1).f1)) := (blk_cell BK276.out 1).trans rfl; have hcz52_2 : w51.cell? ⟨gb276, 2, none⟩ = some (.int .i64 ((rd_T38 l1 x9_1).f2)) := (blk_cell BK276.out 2).trans rfl; have hfz52_0 := blk_frozen BK276.out 0; have hfz52_1 := blk_frozen BK276.out 1; have hfz52_2 := blk_frozen BK276.out 2) | ((with_reducible refine gate_callee (f := 25) rfl ?_); refine goesL_ (some 40) rfl rfl Try.func25 (by kernel_rfl) rfl #[.slice A0 l0.length c0, .string ((rd_T38 l1 x9_1).f1)] rfl (by (try simp only [List.map_toArray, List.map_cons, List.map_nil]); first | done | rfl | (simp only [List.length_drop, List.length_take]; rfl)) ?_; (with_reducible refine (tammyref01_Find.calls kj7 _ _ l0 ((rd_T38 l1 x9_1).f1) t278 _ ?side1 ?side2 A16.out).mono ?_); (case side1 => repeat (first | exact (Kd.C_below HR0.out HB.out) | (with_reducible refine Kd.C_alloc ?_ _) | (with_reducible refine Kd.C_drewN ?_ _) | (with_reducible refine Kd.C_drew ?_))); (case side2 => exact HC0.out); rintro e w' ⟨rfl, ⟨nd, rfl⟩⟩; refine ⟨_, rfl, ?_⟩; obtain ⟨Ao53, co53, eo53⟩ := Kd.R_slice HO_8.out; subst eo53; have p279 : 0 ≤ (x9_1 : Int) := of_decide_eq_true (by first | (with_reducible assumption) | assumption); have q279 : x9_1 < (t272.length : Int) := of_decide_eq_true (by first | (with_reducible assumption) | assumption); obtain ⟨ad279, e279, hx279_0⟩ := Kd.at_int (Kd.R_reads' HO_8.out).2.2 x9_1 p279 q279; cases e279; replace p279 := eq_true p279; replace q279 := eq_true q279))
                            go_ret2
                            exact ⟨by first | rfl | (simp [errW_none, errW_some] <;> rfl) | (simp [*, errW_none, errW_some] <;> rfl), by repeat (first | (with_reducible first | exact HB.out | apply below_alloc | apply pw_below_drewN | apply below_drew1 | refine below_set ?_ GE276.out) | exact HB.out)⟩
                        · rw [if_neg c24] at H
                          exact absurd H (by simp)
                      · rw [if_neg c23] at H
                        exact absurd H (by simp)
                    · rw [if_neg c22] at H
                      have c22b0 : (((rd_T38 l1 x9_1).f0) == 4) = false := beq_eq_false_iff_ne.mpr c22
                      have c22b1 : (((rd_T38 l1 x9_1).f0) != 4) = true := bne_iff_ne.mpr c22
                      by_cases c54 : ((rd_T38 l1 x9_1).f0) = 5
                      · rw [if_pos c54] at H
                        have c54b0 : (((rd_T38 l1 x9_1).f0) == 5) = true := beq_iff_eq.mpr c54
                        have c54b1 : (((rd_T38 l1 x9_1).f0) != 5) = false := bne_eq_false_iff_eq.mpr c54
                        clear c54
                        by_cases c55 : 0 ≤ x9_1
                        · rw [if_pos c55] at H
                          have c55b0 : decide (0 ≤ x9_1) = true := decide_eq_true c55
                          clear c55
                          by_cases c56 : x9_1 < (t272.length : Int)
                          · rw [if_pos c56] at H
                            have c56b0 : decide (x9_1 < (t272.length : Int)) = true := decide_eq_true c56
                            clear c56
                            by_cases c57 : (rd t272 x9_1) = 82
                            · rw [if_pos c57] at H
                              have c57b0 : ((rd t272 x9_1) == 82) = true := beq_iff_eq.mpr c57
                              have c57b1 : ((rd t272 x9_1) != 82) = false := bne_eq_false_iff_eq.mpr c57
                              clear c57
                              have H' := Aside0.mk H
                              clear H
                              have hcz58_0 : wc.cell? ⟨gb276, 0, none⟩ = some (.int .i64 ((rd_T38 l1 x9_1).f0)) := (blk_cell BK276.out 0).trans rfl
                              have hcz58_1 : wc.cell? ⟨gb276, 1, none⟩ = some (.string ((rd_T38 l1 x9_1).f1)) := (blk_cell BK276.out 1).trans rfl
                              have hcz58_2 : wc.cell? ⟨gb276, 2, none⟩ = some (.int .i64 ((rd_T38 l1 x9_1).f2)) := (blk_cell BK276.out 2).trans rfl
                              have hfz58_0 := blk_frozen BK276.out 0
                              have hfz58_1 := blk_frozen BK276.out 1
                              have hfz58_2 := blk_frozen BK276.out 2
                              go_wp2_with (first | ((with_reducible refine gate_callee (f := 24) rfl ?_); refine goesL_ (some 36) rfl rfl Try.func24 (by kernel_rfl) rfl #[.slice A0 l0.length c0, .agg #[.int .i64 ((rd_T38 l1 x9_1).f0), .string ((rd_T38 l1 x9_1).f1), .int .i64 ((rd_T38 l1 x9_1).f2)]] rfl (by (try simp only [List.map_toArray, List.map_cons, List.map_nil]); first | done | rfl | (simp only [List.length_drop, List.length_take]; rfl)) ?_; (with_reducible refine (tammyref08_Known.calls kj7 _ _ l0 ((rd_T38 l1 x9_1).f0) ((rd_T38 l1 x9_1).f1) ((rd_T38 l1 x9_1).f2) true _ ?side1 ?side2 A15.out).mono ?_); (case side1 => repeat (first | exact (Kd.C_below HR0.out HB.out) | (with_reducible refine Kd.C_alloc ?_ _) | (with_reducible refine Kd.C_drewN ?_ _) | (with_reducible refine Kd.C_drew ?_))); (case side2 => exact HC0.out); rintro e w59 ⟨rfl, hb⟩; refine ⟨_, rfl, ?_⟩; have n0_ := Aside0.mk (Kd.R_below (by (with_reducible repeat (first | apply Kd.R_alloc | apply Kd.R_drewN | apply Kd.R_drew)); exact HO_8.out) hb); have n1_ := Aside0.mk (blk_below (g := gb276) (o := .cells #[.int .i64 ((rd_T38 l1 x9_1).f0), .string ((rd_T38 l1 x9_1).f1), .int .i64 ((rd_T38 l1 x9_1).f2)] 38 (0, 0)) (by (with_reducible repeat (first | refine blk_drewN ?_ _ | refine blk_drew ?_ | refine blk_alloc ?_ _)); exact BK276.out) hb); have n2_ := Aside0.mk (below_step (by repeat (first | (with_reducible first | exact HB.out | apply below_alloc | apply pw_below_drewN | apply below_drew1 | refine below_set ?_ GE276.out) | exact HB.out)) hb); clear HO_8; clear BK276; clear HB; have HO_8 := n0_; have BK276 := n1_; have HB := n2_; clear n0_ n1_ n2_; (try clear hb); (try clear hb2); (try clear hk); (try clear hi); have hcz60_0 : w59.cell? ⟨gb276, 0, none⟩ = some (.int .i64 ((rd_T38 l1 x9_1).f0)) := (blk_cell BK276.out 0).trans rfl; have hcz60_1 : w59.cell? ⟨gb276, 1, none⟩ = some (.string ((rd_T38 l1 x9_1).f1)) := (blk_cell BK276.out 1).trans rfl; have hcz60_2 : w59.cell? ⟨gb276, 2, none⟩ = some (.int .i64 ((rd_T38 l1 x9_1).f2)) := (blk_cell BK276.out 2).trans rfl; have hfz60_0 := blk_frozen BK276.out 0; have hfz60_1 := blk_frozen BK276.out 1; have hfz60_2 := blk_frozen BK276.out 2) | ((with_reducible refine gate_callee (f := 25) rfl ?_); refine goesL_ (some 40) rfl rfl Try.func25 (by kernel_rfl) rfl #[.slice A0 l0.length c0, .string ((rd_T38 l1 x9_1).f1)] rfl (by (try simp only [List.map_toArray, List.map_cons, List.map_nil]); first | done | rfl | (simp only [List.length_drop, List.length_take]; rfl)) ?_; (with_reducible refine (tammyref01_Find.calls kj7 _ _ l0 ((rd_T38 l1 x9_1).f1) t278 _ ?side1 ?side2 A16.out).mono ?_); (case side1 => repeat (first | exact (Kd.C_below HR0.out HB.out) | (with_reducible refine Kd.C_alloc ?_ _) | (with_reducible refine Kd.C_drewN ?_ _) | (with_reducible refine Kd.C_drew ?_))); (case side2 => exact HC0.out); rintro e w' ⟨rfl, ⟨nd, rfl⟩⟩; refine ⟨_, rfl, ?_⟩; obtain ⟨Ao61, co61, eo61⟩ := Kd.R_slice HO_8.out; subst eo61; have p282 : 0 ≤ (x9_1 : Int) := of_decide_eq_true (by first | (with_reducible assumption) | assumption); have q282 : x9_1 < (t272.length : Int) := of_decide_eq_true (by first | (with_reducible assumption) | assumption); obtain ⟨ad282, e282, hx282_0⟩ := Kd.at_int (Kd.R_reads' HO_8.out).2.2 x9_1 p282 q282; cases e282; replace p282 := eq_true p282; replace q282 := eq_true q282))
                              go_roundg kj7
                              case measure => have := HK1.out; have := HJ7.out; omega
                              case rel => exact ⟨(wrap64 (x9_1 + 1)), (by first | rfl | (simp; done) | (simp [*]; done)), H', ⟨by have := HK1.out; have := HJ7.out; omega⟩, ⟨by (with_reducible repeat (first | apply Kd.R_alloc | apply Kd.R_drewN | apply Kd.R_drew)); exact HO_8.out⟩, ⟨by repeat (first | (with_reducible first | exact HB.out | apply below_alloc | apply pw_below_drewN | apply below_drew1 | refine below_set ?_ GE276.out) | exact HB.out)⟩⟩
                            · rw [if_neg c57] at H
                              have c57b0 : ((rd t272 x9_1) == 82) = false := beq_eq_false_iff_ne.mpr c57
                              have c57b1 : ((rd t272 x9_1) != 82) = true := bne_iff_ne.mpr c57
                              simp only [Option.some.injEq, Prod.mk.injEq] at H
                              obtain ⟨rfl, rfl⟩ := H
                              have hcz62_0 : wc.cell? ⟨gb276, 0, none⟩ = some (.int .i64 ((rd_T38 l1 x9_1).f0)) := (blk_cell BK276.out 0).trans rfl
                              have hcz62_1 : wc.cell? ⟨gb276, 1, none⟩ = some (.string ((rd_T38 l1 x9_1).f1)) := (blk_cell BK276.out 1).trans rfl
                              have hcz62_2 : wc.cell? ⟨gb276, 2, none⟩ = some (.int .i64 ((rd_T38 l1 x9_1).f2)) := (blk_cell BK276.out 2).trans rfl
                              have hfz62_0 := blk_frozen BK276.out 0
                              have hfz62_1 := blk_frozen BK276.out 1
                              have hfz62_2 := blk_frozen BK276.out 2
                              go_wp2_with (first | ((with_reducible refine gate_callee (f := 24) rfl ?_); refine goesL_ (some 36) rfl rfl Try.func24 (by kernel_rfl) rfl #[.slice A0 l0.length c0, .agg #[.int .i64 ((rd_T38 l1 x9_1).f0), .string ((rd_T38 l1 x9_1).f1), .int .i64 ((rd_T38 l1 x9_1).f2)]] rfl (by (try simp only [List.map_toArray, List.map_cons, List.map_nil]); first | done | rfl | (simp only [List.length_drop, List.length_take]; rfl)) ?_; (with_reducible refine (tammyref08_Known.calls kj7 _ _ l0 ((rd_T38 l1 x9_1).f0) ((rd_T38 l1 x9_1).f1) ((rd_T38 l1 x9_1).f2) true _ ?side1 ?side2 A15.out).mono ?_); (case side1 => repeat (first | exact (Kd.C_below HR0.out HB.out) | (with_reducible refine Kd.C_alloc ?_ _) | (with_reducible refine Kd.C_drewN ?_ _) | (with_reducible refine Kd.C_drew ?_))); (case side2 => exact HC0.out); rintro e w63 ⟨rfl, hb⟩; refine ⟨_, rfl, ?_⟩; have n0_ := Aside0.mk (Kd.R_below (by (with_reducible repeat (first | apply Kd.R_alloc | apply Kd.R_drewN | apply Kd.R_drew)); exact HO_8.out) hb); have n1_ := Aside0.mk (blk_below (g := gb276) (o := .cells #[.int .i64 ((rd_T38 l1 x9_1).f0), .string ((rd_T38 l1 x9_1).f1), .int .i64 ((rd_T38 l1 x9_1).f2)] 38 (0, 0)) (by (with_reducible repeat (first | refine blk_drewN ?_ _ | refine blk_drew ?_ | refine blk_alloc ?_ _)); exact BK276.out) hb); have n2_ := Aside0.mk (below_step (by repeat (first | (with_reducible first | exact HB.out | apply below_alloc | apply pw_below_drewN | apply below_drew1 | refine below_set ?_ GE276.out) | exact HB.out)) hb); clear HO_8; clear BK276; clear HB; have HO_8 := n0_; have BK276 := n1_; have HB := n2_; clear n0_ n1_ n2_; (try clear hb); (try clear hb2); (try clear hk); (try clear hi); have hcz64_0 : w63.cell? ⟨gb276, 0, none⟩ = some (.int .i64 ((rd_T38 l1 x9_1).f0)) := (blk_cell BK276.out 0).trans rfl; have hcz64_1 : w63.cell? ⟨gb276, 1, none⟩ = some (.string ((rd_T38 l1 x9_1).f1)) := (blk_cell BK276.out 1).trans rfl; have hcz64_2 : w63.cell? ⟨gb276, 2, none⟩ = some (.int .i64 ((rd_T38 l1 x9_1).f2)) := (blk_cell BK276.out 2).trans rfl; have hfz64_0 := blk_frozen BK276.out 0; have hfz64_1 := blk_frozen BK276.out 1; have hfz64_2 := blk_frozen BK276.out 2) | ((with_reducible refine gate_callee (f := 25) rfl ?_); refine goesL_ (some 40) rfl rfl Try.func25 (by kernel_rfl) rfl #[.slice A0 l0.length c0, .string ((rd_T38 l1 x9_1).f1)] rfl (by (try simp only [List.map_toArray, List.map_cons, List.map_nil]); first | done | rfl | (simp only [List.length_drop, List.length_take]; rfl)) ?_; (with_reducible refine (tammyref01_Find.calls kj7 _ _ l0 ((rd_T38 l1 x9_1).f1) t278 _ ?side1 ?side2 A16.out).mono ?_); (case side1 => repeat (first | exact (Kd.C_below HR0.out HB.out) | (with_reducible refine Kd.C_alloc ?_ _) | (with_reducible refine Kd.C_drewN ?_ _) | (with_reducible refine Kd.C_drew ?_))); (case side2 => exact HC0.out); rintro e w' ⟨rfl, ⟨nd, rfl⟩⟩; refine ⟨_, rfl, ?_⟩; obtain ⟨Ao65, co65, eo65⟩ := Kd.R_slice HO_8.out; subst eo65; have p282 : 0 ≤ (x9_1 : Int) := of_decide_eq_true (by first | (with_reducible assumption) | assumption); have q282 : x9_1 < (t272.length : Int) := of_decide_eq_true (by first | (with_reducible assumption) | assumption); obtain ⟨ad282, e282, hx282_0⟩ := Kd.at_int (Kd.R_reads' HO_8.out).2.2 x9_1 p282 q282; cases e282; replace p282 := eq_true p282; replace q282 := eq_true q282))
                              go_ret2
                              exact ⟨by first | rfl | (simp [errW_none, errW_some] <;> rfl) | (simp [*, errW_none, errW_some] <;> rfl), by repeat (first | (with_reducible first | exact HB.out | apply below_alloc | apply pw_below_drewN | apply below_drew1 | refine below_set ?_ GE276.out) | exact HB.out)⟩
                          · rw [if_neg c56] at H
                            exact absurd H (by simp)
                        · rw [if_neg c55] at H
                          exact absurd H (by simp)
                      · rw [if_neg c54] at H
                        have c54b0 : (((rd_T38 l1 x9_1).f0) == 5) = false := beq_eq_false_iff_ne.mpr c54
                        have c54b1 : (((rd_T38 l1 x9_1).f0) != 5) = true := bne_iff_ne.mpr c54
                        by_cases c66 : ((rd_T38 l1 x9_1).f0) = 6
                        · rw [if_pos c66] at H
                          have c66b0 : (((rd_T38 l1 x9_1).f0) == 6) = true := beq_iff_eq.mpr c66
                          have c66b1 : (((rd_T38 l1 x9_1).f0) != 6) = false := bne_eq_false_iff_eq.mpr c66
                          clear c66
                          by_cases c67 : 0 ≤ x9_1
                          · rw [if_pos c67] at H
                            have c67b0 : decide (0 ≤ x9_1) = true := decide_eq_true c67
                            clear c67
                            by_cases c68 : x9_1 < (t272.length : Int)
                            · rw [if_pos c68] at H
                              have c68b0 : decide (x9_1 < (t272.length : Int)) = true := decide_eq_true c68
                              clear c68
                              by_cases c69 : (rd t272 x9_1) = 82
                              · rw [if_pos c69] at H
                                have c69b0 : ((rd t272 x9_1) == 82) = true := beq_iff_eq.mpr c69
                                have c69b1 : ((rd t272 x9_1) != 82) = false := bne_eq_false_iff_eq.mpr c69
                                clear c69
                                have H' := Aside0.mk H
                                clear H
                                have hcz70_0 : wc.cell? ⟨gb276, 0, none⟩ = some (.int .i64 ((rd_T38 l1 x9_1).f0)) := (blk_cell BK276.out 0).trans rfl
                                have hcz70_1 : wc.cell? ⟨gb276, 1, none⟩ = some (.string ((rd_T38 l1 x9_1).f1)) := (blk_cell BK276.out 1).trans rfl
                                have hcz70_2 : wc.cell? ⟨gb276, 2, none⟩ = some (.int .i64 ((rd_T38 l1 x9_1).f2)) := (blk_cell BK276.out 2).trans rfl
                                have hfz70_0 := blk_frozen BK276.out 0
                                have hfz70_1 := blk_frozen BK276.out 1
                                have hfz70_2 := blk_frozen BK276.out 2
                                go_wp2_with (first | ((with_reducible refine gate_callee (f := 24) rfl ?_); refine goesL_ (some 36) rfl rfl Try.func24 (by kernel_rfl) rfl #[.slice A0 l0.length c0, .agg #[.int .i64 ((rd_T38 l1 x9_1).f0), .string ((rd_T38 l1 x9_1).f1), .int .i64 ((rd_T38 l1 x9_1).f2)]] rfl (by (try simp only [List.map_toArray, List.map_cons, List.map_nil]); first | done | rfl | (simp only [List.length_drop, List.length_take]; rfl)) ?_; (with_reducible refine (tammyref08_Known.calls kj7 _ _ l0 ((rd_T38 l1 x9_1).f0) ((rd_T38 l1 x9_1).f1) ((rd_T38 l1 x9_1).f2) true _ ?side1 ?side2 A15.out).mono ?_); (case side1 => repeat (first | exact (Kd.C_below HR0.out HB.out) | (with_reducible refine Kd.C_alloc ?_ _) | (with_reducible refine Kd.C_drewN ?_ _) | (with_reducible refine Kd.C_drew ?_))); (case side2 => exact HC0.out); rintro e w71 ⟨rfl, hb⟩; refine ⟨_, rfl, ?_⟩; have n0_ := Aside0.mk (Kd.R_below (by (with_reducible repeat (first | apply Kd.R_alloc | apply Kd.R_drewN | apply Kd.R_drew)); exact HO_8.out) hb); have n1_ := Aside0.mk (blk_below (g := gb276) (o := .cells #[.int .i64 ((rd_T38 l1 x9_1).f0), .string ((rd_T38 l1 x9_1).f1), .int .i64 ((rd_T38 l1 x9_1).f2)] 38 (0, 0)) (by (with_reducible repeat (first | refine blk_drewN ?_ _ | refine blk_drew ?_ | refine blk_alloc ?_ _)); exact BK276.out) hb); have n2_ := Aside0.mk (below_step (by repeat (first | (with_reducible first | exact HB.out | apply below_alloc | apply pw_below_drewN | apply below_drew1 | refine below_set ?_ GE276.out) | exact HB.out)) hb); clear HO_8; clear BK276; clear HB; have HO_8 := n0_; have BK276 := n1_; have HB := n2_; clear n0_ n1_ n2_; (try clear hb); (try clear hb2); (try clear hk); (try clear hi); have hcz72_0 : w71.cell? ⟨gb276, 0, none⟩ = some (.int .i64 ((rd_T38 l1 x9_1).f0)) := (blk_cell BK276.out 0).trans rfl; have hcz72_1 : w71.cell? ⟨gb276, 1, none⟩ = some (.string ((rd_T38 l1 x9_1).f1)) := (blk_cell BK276.out 1).trans rfl; have hcz72_2 : w71.cell? ⟨gb276, 2, none⟩ = some (.int .i64 ((rd_T38 l1 x9_1).f2)) := (blk_cell BK276.out 2).trans rfl; have hfz72_0 := blk_frozen BK276.out 0; have hfz72_1 := blk_frozen BK276.out 1; have hfz72_2 := blk_frozen BK276.out 2) | ((with_reducible refine gate_callee (f := 25) rfl ?_); refine goesL_ (some 40) rfl rfl Try.func25 (by kernel_rfl) rfl #[.slice A0 l0.length c0, .string ((rd_T38 l1 x9_1).f1)] rfl (by (try simp only [List.map_toArray, List.map_cons, List.map_nil]); first | done | rfl | (simp only [List.length_drop, List.length_take]; rfl)) ?_; (with_reducible refine (tammyref01_Find.calls kj7 _ _ l0 ((rd_T38 l1 x9_1).f1) t278 _ ?side1 ?side2 A16.out).mono ?_); (case side1 => repeat (first | exact (Kd.C_below HR0.out HB.out) | (with_reducible refine Kd.C_alloc ?_ _) | (with_reducible refine Kd.C_drewN ?_ _) | (with_reducible refine Kd.C_drew ?_))); (case side2 => exact HC0.out); rintro e w' ⟨rfl, ⟨nd, rfl⟩⟩; refine ⟨_, rfl, ?_⟩; obtain ⟨Ao73, co73, eo73⟩ := Kd.R_slice HO_8.out; subst eo73; have p283 : 0 ≤ (x9_1 : Int) := of_decide_eq_true (by first | (with_reducible assumption) | assumption); have q283 : x9_1 < (t272.length : Int) := of_decide_eq_true (by first | (with_reducible assumption) | assumption); obtain ⟨ad283, e283, hx283_0⟩ := Kd.at_int (Kd.R_reads' HO_8.out).2.2 x9_1 p283 q283; cases e283; replace p283 := eq_true p283; replace q283 := eq_true q283))
                                go_roundg kj7
                                case measure => have := HK1.out; have := HJ7.out; omega
                                case rel => exact ⟨(wrap64 (x9_1 + 1)), (by first | rfl | (simp; done) | (simp [*]; done)), H', ⟨by have := HK1.out; have := HJ7.out; omega⟩, ⟨by (with_reducible repeat (first | apply Kd.R_alloc | apply Kd.R_drewN | apply Kd.R_drew)); exact HO_8.out⟩, ⟨by repeat (first | (with_reducible first | exact HB.out | apply below_alloc | apply pw_below_drewN | apply below_drew1 | refine below_set ?_ GE276.out) | exact HB.out)⟩⟩
                              · rw [if_neg c69] at H
                                have c69b0 : ((rd t272 x9_1) == 82) = false := beq_eq_false_iff_ne.mpr c69
                                have c69b1 : ((rd t272 x9_1) != 82) = true := bne_iff_ne.mpr c69
                                simp only [Option.some.injEq, Prod.mk.injEq] at H
                                obtain ⟨rfl, rfl⟩ := H
                                have hcz74_0 : wc.cell? ⟨gb276, 0, none⟩ = some (.int .i64 ((rd_T38 l1 x9_1).f0)) := (blk_cell BK276.out 0).trans rfl
                                have hcz74_1 : wc.cell? ⟨gb276, 1, none⟩ = some (.string ((rd_T38 l1 x9_1).f1)) := (blk_cell BK276.out 1).trans rfl
                                have hcz74_2 : wc.cell? ⟨gb276, 2, none⟩ = some (.int .i64 ((rd_T38 l1 x9_1).f2)) := (blk_cell BK276.out 2).trans rfl
                                have hfz74_0 := blk_frozen BK276.out 0
                                have hfz74_1 := blk_frozen BK276.out 1
                                have hfz74_2 := blk_frozen BK276.out 2
                                go_wp2_with (first | ((with_reducible refine gate_callee (f := 24) rfl ?_); refine goesL_ (some 36) rfl rfl Try.func24 (by kernel_rfl) rfl #[.slice A0 l0.length c0, .agg #[.int .i64 ((rd_T38 l1 x9_1).f0), .string ((rd_T38 l1 x9_1).f1), .int .i64 ((rd_T38 l1 x9_1).f2)]] rfl (by (try simp only [List.map_toArray, List.map_cons, List.map_nil]); first | done | rfl | (simp only [List.length_drop, List.length_take]; rfl)) ?_; (with_reducible refine (tammyref08_Known.calls kj7 _ _ l0 ((rd_T38 l1 x9_1).f0) ((rd_T38 l1 x9_1).f1) ((rd_T38 l1 x9_1).f2) true _ ?side1 ?side2 A15.out).mono ?_); (case side1 => repeat (first | exact (Kd.C_below HR0.out HB.out) | (with_reducible refine Kd.C_alloc ?_ _) | (with_reducible refine Kd.C_drewN ?_ _) | (with_reducible refine Kd.C_drew ?_))); (case side2 => exact HC0.out); rintro e w75 ⟨rfl, hb⟩; refine ⟨_, rfl, ?_⟩; have n0_ := Aside0.mk (Kd.R_below (by (with_reducible repeat (first | apply Kd.R_alloc | apply Kd.R_drewN | apply Kd.R_drew)); exact HO_8.out) hb); have n1_ := Aside0.mk (blk_below (g := gb276) (o := .cells #[.int .i64 ((rd_T38 l1 x9_1).f0), .string ((rd_T38 l1 x9_1).f1), .int .i64 ((rd_T38 l1 x9_1).f2)] 38 (0, 0)) (by (with_reducible repeat (first | refine blk_drewN ?_ _ | refine blk_drew ?_ | refine blk_alloc ?_ _)); exact BK276.out) hb); have n2_ := Aside0.mk (below_step (by repeat (first | (with_reducible first | exact HB.out | apply below_alloc | apply pw_below_drewN | apply below_drew1 | refine below_set ?_ GE276.out) | exact HB.out)) hb); clear HO_8; clear BK276; clear HB; have HO_8 := n0_; have BK276 := n1_; have HB := n2_; clear n0_ n1_ n2_; (try clear hb); (try clear hb2); (try clear hk); (try clear hi); have hcz76_0 : w75.cell? ⟨gb276, 0, none⟩ = some (.int .i64 ((rd_T38 l1 x9_1).f0)) := (blk_cell BK276.out 0).trans rfl; have hcz76_1 : w75.cell? ⟨gb276, 1, none⟩ = some (.string ((rd_T38 l1 x9_1).f1)) := (blk_cell BK276.out 1).trans rfl; have hcz76_2 : w75.cell? ⟨gb276, 2, none⟩ = some (.int .i64 ((rd_T38 l1 x9_1).f2)) := (blk_cell BK276.out 2).trans rfl; have hfz76_0 := blk_frozen BK276.out 0; have hfz76_1 := blk_frozen BK276.out 1; have hfz76_2 := blk_frozen BK276.out 2) | ((with_reducible refine gate_callee (f := 25) rfl ?_); refine goesL_ (some 40) rfl rfl Try.func25 (by kernel_rfl) rfl #[.slice A0 l0.length c0, .string ((rd_T38 l1 x9_1).f1)] rfl (by (try simp only [List.map_toArray, List.map_cons, List.map_nil]); first | done | rfl | (simp only [List.length_drop, List.length_take]; rfl)) ?_; (with_reducible refine (tammyref01_Find.calls kj7 _ _ l0 ((rd_T38 l1 x9_1).f1) t278 _ ?side1 ?side2 A16.out).mono ?_); (case side1 => repeat (first | exact (Kd.C_below HR0.out HB.out) | (with_reducible refine Kd.C_alloc ?_ _) | (with_reducible refine Kd.C_drewN ?_ _) | (with_reducible refine Kd.C_drew ?_))); (case side2 => exact HC0.out); rintro e w' ⟨rfl, ⟨nd, rfl⟩⟩; refine ⟨_, rfl, ?_⟩; obtain ⟨Ao77, co77, eo77⟩ := Kd.R_slice HO_8.out; subst eo77; have p283 : 0 ≤ (x9_1 : Int) := of_decide_eq_true (by first | (with_reducible assumption) | assumption); have q283 : x9_1 < (t272.length : Int) := of_decide_eq_true (by first | (with_reducible assumption) | assumption); obtain ⟨ad283, e283, hx283_0⟩ := Kd.at_int (Kd.R_reads' HO_8.out).2.2 x9_1 p283 q283; cases e283; replace p283 := eq_true p283; replace q283 := eq_true q283))
                                go_ret2
                                exact ⟨by first | rfl | (simp [errW_none, errW_some] <;> rfl) | (simp [*, errW_none, errW_some] <;> rfl), by repeat (first | (with_reducible first | exact HB.out | apply below_alloc | apply pw_below_drewN | apply below_drew1 | refine below_set ?_ GE276.out) | exact HB.out)⟩
                            · rw [if_neg c68] at H
                              exact absurd H (by simp)
                          · rw [if_neg c67] at H
                            exact absurd H (by simp)
                        · rw [if_neg c66] at H
                          have c66b0 : (((rd_T38 l1 x9_1).f0) == 6) = false := beq_eq_false_iff_ne.mpr c66
                          have c66b1 : (((rd_T38 l1 x9_1).f0) != 6) = true := bne_iff_ne.mpr c66
                          have H' := Aside0.mk H
                          clear H
                          have hcz78_0 : wc.cell? ⟨gb276, 0, none⟩ = some (.int .i64 ((rd_T38 l1 x9_1).f0)) := (blk_cell BK276.out 0).trans rfl
                          have hcz78_1 : wc.cell? ⟨gb276, 1, none⟩ = some (.string ((rd_T38 l1 x9_1).f1)) := (blk_cell BK276.out 1).trans rfl
                          have hcz78_2 : wc.cell? ⟨gb276, 2, none⟩ = some (.int .i64 ((rd_T38 l1 x9_1).f2)) := (blk_cell BK276.out 2).trans rfl
                          have hfz78_0 := blk_frozen BK276.out 0
                          have hfz78_1 := blk_frozen BK276.out 1
                          have hfz78_2 := blk_frozen BK276.out 2
                          go_wp2_with (first | ((with_reducible refine gate_callee (f := 24) rfl ?_); refine goesL_ (some 36) rfl rfl Try.func24 (by kernel_rfl) rfl #[.slice A0 l0.length c0, .agg #[.int .i64 ((rd_T38 l1 x9_1).f0), .string ((rd_T38 l1 x9_1).f1), .int .i64 ((rd_T38 l1 x9_1).f2)]] rfl (by (try simp only [List.map_toArray, List.map_cons, List.map_nil]); first | done | rfl | (simp only [List.length_drop, List.length_take]; rfl)) ?_; (with_reducible refine (tammyref08_Known.calls kj7 _ _ l0 ((rd_T38 l1 x9_1).f0) ((rd_T38 l1 x9_1).f1) ((rd_T38 l1 x9_1).f2) true _ ?side1 ?side2 A15.out).mono ?_); (case side1 => repeat (first | exact (Kd.C_below HR0.out HB.out) | (with_reducible refine Kd.C_alloc ?_ _) | (with_reducible refine Kd.C_drewN ?_ _) | (with_reducible refine Kd.C_drew ?_))); (case side2 => exact HC0.out); rintro e w79 ⟨rfl, hb⟩; refine ⟨_, rfl, ?_⟩; have n0_ := Aside0.mk (Kd.R_below (by (with_reducible repeat (first | apply Kd.R_alloc | apply Kd.R_drewN | apply Kd.R_drew)); exact HO_8.out) hb); have n1_ := Aside0.mk (blk_below (g := gb276) (o := .cells #[.int .i64 ((rd_T38 l1 x9_1).f0), .string ((rd_T38 l1 x9_1).f1), .int .i64 ((rd_T38 l1 x9_1).f2)] 38 (0, 0)) (by (with_reducible repeat (first | refine blk_drewN ?_ _ | refine blk_drew ?_ | refine blk_alloc ?_ _)); exact BK276.out) hb); have n2_ := Aside0.mk (below_step (by repeat (first | (with_reducible first | exact HB.out | apply below_alloc | apply pw_below_drewN | apply below_drew1 | refine below_set ?_ GE276.out) | exact HB.out)) hb); clear HO_8; clear BK276; clear HB; have HO_8 := n0_; have BK276 := n1_; have HB := n2_; clear n0_ n1_ n2_; (try clear hb); (try clear hb2); (try clear hk); (try clear hi); have hcz80_0 : w79.cell? ⟨gb276, 0, none⟩ = some (.int .i64 ((rd_T38 l1 x9_1).f0)) := (blk_cell BK276.out 0).trans rfl; have hcz80_1 : w79.cell? ⟨gb276, 1, none⟩ = some (.string ((rd_T38 l1 x9_1).f1)) := (blk_cell BK276.out 1).trans rfl; have hcz80_2 : w79.cell? ⟨gb276, 2, none⟩ = some (.int .i64 ((rd_T38 l1 x9_1).f2)) := (blk_cell BK276.out 2).trans rfl; have hfz80_0 := blk_frozen BK276.out 0; have hfz80_1 := blk_frozen BK276.out 1; have hfz80_2 := blk_frozen BK276.out 2) | ((with_reducible refine gate_callee (f := 25) rfl ?_); refine goesL_ (some 40) rfl rfl Try.func25 (by kernel_rfl) rfl #[.slice A0 l0.length c0, .string ((rd_T38 l1 x9_1).f1)] rfl (by (try simp only [List.map_toArray, List.map_cons, List.map_nil]); first | done | rfl | (simp only [List.length_drop, List.length_take]; rfl)) ?_; (with_reducible refine (tammyref01_Find.calls kj7 _ _ l0 ((rd_T38 l1 x9_1).f1) t278 _ ?side1 ?side2 A16.out).mono ?_); (case side1 => repeat (first | exact (Kd.C_below HR0.out HB.out) | (with_reducible refine Kd.C_alloc ?_ _) | (with_reducible refine Kd.C_drewN ?_ _) | (with_reducible refine Kd.C_drew ?_))); (case side2 => exact HC0.out); rintro e w' ⟨rfl, ⟨nd, rfl⟩⟩; refine ⟨_, rfl, ?_⟩))
                          go_roundg kj7
                          case measure => have := HK1.out; have := HJ7.out; omega
                          case rel => exact ⟨(wrap64 (x9_1 + 1)), (by first | rfl | (simp; done) | (simp [*]; done)), H', ⟨by have := HK1.out; have := HJ7.out; omega⟩, ⟨by (with_reducible repeat (first | apply Kd.R_alloc | apply Kd.R_drewN | apply Kd.R_drew)); exact HO_8.out⟩, ⟨by repeat (first | (with_reducible first | exact HB.out | apply below_alloc | apply pw_below_drewN | apply below_drew1 | refine below_set ?_ GE276.out) | exact HB.out)⟩⟩
                  · replace c21 := Bool.eq_false_iff.mpr c21
                    subst c21
                    have H1 : (some (x9_1, 5)) = some (r1, r2) := by rw [if_neg (show ¬ (false = true) by decide)] at H; exact H
                    clear H
                    have H := H1
                    clear H1
                    simp only [Option.some.injEq, Prod.mk.injEq] at H
                    obtain ⟨rfl, rfl⟩ := H
                    have hcz81_0 : wc.cell? ⟨gb276, 0, none⟩ = some (.int .i64 ((rd_T38 l1 x9_1).f0)) := (blk_cell BK276.out 0).trans rfl
                    have hcz81_1 : wc.cell? ⟨gb276, 1, none⟩ = some (.string ((rd_T38 l1 x9_1).f1)) := (blk_cell BK276.out 1).trans rfl
                    have hcz81_2 : wc.cell? ⟨gb276, 2, none⟩ = some (.int .i64 ((rd_T38 l1 x9_1).f2)) := (blk_cell BK276.out 2).trans rfl
                    have hfz81_0 := blk_frozen BK276.out 0
                    have hfz81_1 := blk_frozen BK276.out 1
                    have hfz81_2 := blk_frozen BK276.out 2
                    go_wp2_with (first | ((with_reducible refine gate_callee (f := 24) rfl ?_); refine goesL_ (some 36) rfl rfl Try.func24 (by kernel_rfl) rfl #[.slice A0 l0.length c0, .agg #[.int .i64 ((rd_T38 l1 x9_1).f0), .string ((rd_T38 l1 x9_1).f1), .int .i64 ((rd_T38 l1 x9_1).f2)]] rfl (by (try simp only [List.map_toArray, List.map_cons, List.map_nil]); first | done | rfl | (simp only [List.length_drop, List.length_take]; rfl)) ?_; (with_reducible refine (tammyref08_Known.calls kj7 _ _ l0 ((rd_T38 l1 x9_1).f0) ((rd_T38 l1 x9_1).f1) ((rd_T38 l1 x9_1).f2) false _ ?side1 ?side2 A15.out).mono ?_); (case side1 => repeat (first | exact (Kd.C_below HR0.out HB.out) | (with_reducible refine Kd.C_alloc ?_ _) | (with_reducible refine Kd.C_drewN ?_ _) | (with_reducible refine Kd.C_drew ?_))); (case side2 => exact HC0.out); rintro e w82 ⟨rfl, hb⟩; refine ⟨_, rfl, ?_⟩; have n0_ := Aside0.mk (Kd.R_below (by (with_reducible repeat (first | apply Kd.R_alloc | apply Kd.R_drewN | apply Kd.R_drew)); exact HO_8.out) hb); have n1_ := Aside0.mk (blk_below (g := gb276) (o := .cells #[.int .i64 ((rd_T38 l1 x9_1).f0), .string ((rd_T38 l1 x9_1).f1), .int .i64 ((rd_T38 l1 x9_1).f2)] 38 (0, 0)) (by (with_reducible repeat (first | refine blk_drewN ?_ _ | refine blk_drew ?_ | refine blk_alloc ?_ _)); exact BK276.out) hb); have n2_ := Aside0.mk (below_step (by repeat (first | (with_reducible first | exact HB.out | apply below_alloc | apply pw_below_drewN | apply below_drew1 | refine below_set ?_ GE276.out) | exact HB.out)) hb); clear HO_8; clear BK276; clear HB; have HO_8 := n0_; have BK276 := n1_; have HB := n2_; clear n0_ n1_ n2_; (try clear hb); (try clear hb2); (try clear hk); (try clear hi); have hcz83_0 : w82.cell? ⟨gb276, 0, none⟩ = some (.int .i64 ((rd_T38 l1 x9_1).f0)) := (blk_cell BK276.out 0).trans rfl; have hcz83_1 : w82.cell? ⟨gb276, 1, none⟩ = some (.string ((rd_T38 l1 x9_1).f1)) := (blk_cell BK276.out 1).trans rfl; have hcz83_2 : w82.cell? ⟨gb276, 2, none⟩ = some (.int .i64 ((rd_T38 l1 x9_1).f2)) := (blk_cell BK276.out 2).trans rfl; have hfz83_0 := blk_frozen BK276.out 0; have hfz83_1 := blk_frozen BK276.out 1; have hfz83_2 := blk_frozen BK276.out 2) | ((with_reducible refine gate_callee (f := 25) rfl ?_); refine goesL_ (some 40) rfl rfl Try.func25 (by kernel_rfl) rfl #[.slice A0 l0.length c0, .string ((rd_T38 l1 x9_1).f1)] rfl (by (try simp only [List.map_toArray, List.map_cons, List.map_nil]); first | done | rfl | (simp only [List.length_drop, List.length_take]; rfl)) ?_; (with_reducible refine (tammyref01_Find.calls kj7 _ _ l0 ((rd_T38 l1 x9_1).f1) t278 _ ?side1 ?side2 A16.out).mono ?_); (case side1 => repeat (first | exact (Kd.C_below HR0.out HB.out) | (with_reducible refine Kd.C_alloc ?_ _) | (with_reducible refine Kd.C_drewN ?_ _) | (with_reducible refine Kd.C_drew ?_))); (case side2 => exact HC0.out); rintro e w' ⟨rfl, ⟨nd, rfl⟩⟩; refine ⟨_, rfl, ?_⟩))
                    go_ret2
                    exact ⟨by first | rfl | (simp [errW_none, errW_some] <;> rfl) | (simp [*, errW_none, errW_some] <;> rfl), by repeat (first | (with_reducible first | exact HB.out | apply below_alloc | apply pw_below_drewN | apply below_drew1 | refine below_set ?_ GE276.out) | exact HB.out)⟩
              · replace c14 := Bool.eq_false_iff.mpr c14
                subst c14
                have H1 : (if ((rd_T38 l1 x9_1).f0) = 4 then (if 0 ≤ x9_1 then (if x9_1 < (t272.length : Int) then (if (rd t272 x9_1) = 76 then (if ((rd_T38 l1 x9_1).f0) = 5 then (if (rd t272 x9_1) = 82 then (tammyref08_Check.l0 kj7 l0 l1 t272 (wrap64 (x9_1 + 1))) else (some (x9_1, 6))) else (if ((rd_T38 l1 x9_1).f0) = 6 then (if (rd t272 x9_1) = 82 then (tammyref08_Check.l0 kj7 l0 l1 t272 (wrap64 (x9_1 + 1))) else (some (x9_1, 6))) else (tammyref08_Check.l0 kj7 l0 l1 t272 (wrap64 (x9_1 + 1))))) else (some (x9_1, 6))) else (none)) else (none)) else (if ((rd_T38 l1 x9_1).f0) = 5 then (if 0 ≤ x9_1 then (if x9_1 < (t272.length : Int) then (if (rd t272 x9_1) = 82 then (tammyref08_Check.l0 kj7 l0 l1 t272 (wrap64 (x9_1 + 1))) else (some (x9_1, 6))) else (none)) else (none)) else (if ((rd_T38 l1 x9_1).f0) = 6 then (if 0 ≤ x9_1 then (if x9_1 < (t272.length : Int) then (if (rd t272 x9_1) = 82 then (tammyref08_Check.l0 kj7 l0 l1 t272 (wrap64 (x9_1 + 1))) else (some (x9_1, 6))) else (none)) else (none)) else (tammyref08_Check.l0 kj7 l0 l1 t272 (wrap64 (x9_1 + 1)))))) = some (r1, r2) := by rw [if_neg (show ¬ (false = true) by decide)] at H; exact H
                clear H
                have H := H1
                clear H1
                by_cases c84 : ((rd_T38 l1 x9_1).f0) = 4
                · rw [if_pos c84] at H
                  have c84b0 : (((rd_T38 l1 x9_1).f0) == 4) = true := beq_iff_eq.mpr c84
                  have c84b1 : (((rd_T38 l1 x9_1).f0) != 4) = false := bne_eq_false_iff_eq.mpr c84
                  clear c84
                  by_cases c85 : 0 ≤ x9_1
                  · rw [if_pos c85] at H
                    have c85b0 : decide (0 ≤ x9_1) = true := decide_eq_true c85
                    clear c85
                    by_cases c86 : x9_1 < (t272.length : Int)
                    · rw [if_pos c86] at H
                      have c86b0 : decide (x9_1 < (t272.length : Int)) = true := decide_eq_true c86
                      clear c86
                      by_cases c87 : (rd t272 x9_1) = 76
                      · rw [if_pos c87] at H
                        have c87b0 : ((rd t272 x9_1) == 76) = true := beq_iff_eq.mpr c87
                        have c87b1 : ((rd t272 x9_1) != 76) = false := bne_eq_false_iff_eq.mpr c87
                        clear c87
                        by_cases c88 : ((rd_T38 l1 x9_1).f0) = 5
                        · rw [if_pos c88] at H
                          have c88b0 : (((rd_T38 l1 x9_1).f0) == 5) = true := beq_iff_eq.mpr c88
                          have c88b1 : (((rd_T38 l1 x9_1).f0) != 5) = false := bne_eq_false_iff_eq.mpr c88
                          clear c88
                          by_cases c89 : (rd t272 x9_1) = 82
                          · rw [if_pos c89] at H
                            have c89b0 : ((rd t272 x9_1) == 82) = true := beq_iff_eq.mpr c89
                            have c89b1 : ((rd t272 x9_1) != 82) = false := bne_eq_false_iff_eq.mpr c89
                            clear c89
                            have H' := Aside0.mk H
                            clear H
                            have hcz90_0 : wc.cell? ⟨gb276, 0, none⟩ = some (.int .i64 ((rd_T38 l1 x9_1).f0)) := (blk_cell BK276.out 0).trans rfl
                            have hcz90_1 : wc.cell? ⟨gb276, 1, none⟩ = some (.string ((rd_T38 l1 x9_1).f1)) := (blk_cell BK276.out 1).trans rfl
                            have hcz90_2 : wc.cell? ⟨gb276, 2, none⟩ = some (.int .i64 ((rd_T38 l1 x9_1).f2)) := (blk_cell BK276.out 2).trans rfl
                            have hfz90_0 := blk_frozen BK276.out 0
                            have hfz90_1 := blk_frozen BK276.out 1
                            have hfz90_2 := blk_frozen BK276.out 2
                            obtain ⟨Ao91, co91, eo91⟩ := Kd.R_slice HO_8.out
                            subst eo91
                            have p284 : 0 ≤ (x9_1 : Int) := of_decide_eq_true (by first | (with_reducible assumption) | assumption)
                            have q284 : x9_1 < (t272.length : Int) := of_decide_eq_true (by first | (with_reducible assumption) | assumption)
                            obtain ⟨ad284, e284, hx284_0⟩ := Kd.at_int (Kd.R_reads' HO_8.out).2.2 x9_1 p284 q284
                            cases e284
                            replace p284 := eq_true p284
                            replace q284 := eq_true q284
                            have p285 : 0 ≤ (x9_1 : Int) := of_decide_eq_true (by first | (with_reducible assumption) | assumption)
                            have q285 : x9_1 < (t272.length : Int) := of_decide_eq_true (by first | (with_reducible assumption) | assumption)
                            obtain ⟨ad285, e285, hx285_0⟩ := Kd.at_int (Kd.R_reads' HO_8.out).2.2 x9_1 p285 q285
                            obtain rfl : ad284 = ad285 := (by injection e285)
                            replace p285 := eq_true p285
                            replace q285 := eq_true q285
                            go_wp2
                            go_roundg kj7
                            case measure => have := HK1.out; have := HJ7.out; omega
                            case rel => exact ⟨(wrap64 (x9_1 + 1)), (by first | rfl | (simp; done) | (simp [*]; done)), H', ⟨by have := HK1.out; have := HJ7.out; omega⟩, ⟨by (with_reducible repeat (first | apply Kd.R_alloc | apply Kd.R_drewN | apply Kd.R_drew)); exact HO_8.out⟩, ⟨by repeat (first | (with_reducible first | exact HB.out | apply below_alloc | apply pw_below_drewN | apply below_drew1 | refine below_set ?_ GE276.out) | exact HB.out)⟩⟩
                          · rw [if_neg c89] at H
                            have c89b0 : ((rd t272 x9_1) == 82) = false := beq_eq_false_iff_ne.mpr c89
                            have c89b1 : ((rd t272 x9_1) != 82) = true := bne_iff_ne.mpr c89
                            simp only [Option.some.injEq, Prod.mk.injEq] at H
                            obtain ⟨rfl, rfl⟩ := H
                            have hcz92_0 : wc.cell? ⟨gb276, 0, none⟩ = some (.int .i64 ((rd_T38 l1 x9_1).f0)) := (blk_cell BK276.out 0).trans rfl
                            have hcz92_1 : wc.cell? ⟨gb276, 1, none⟩ = some (.string ((rd_T38 l1 x9_1).f1)) := (blk_cell BK276.out 1).trans rfl
                            have hcz92_2 : wc.cell? ⟨gb276, 2, none⟩ = some (.int .i64 ((rd_T38 l1 x9_1).f2)) := (blk_cell BK276.out 2).trans rfl
                            have hfz92_0 := blk_frozen BK276.out 0
                            have hfz92_1 := blk_frozen BK276.out 1
                            have hfz92_2 := blk_frozen BK276.out 2
                            obtain ⟨Ao93, co93, eo93⟩ := Kd.R_slice HO_8.out
                            subst eo93
                            have p284 : 0 ≤ (x9_1 : Int) := of_decide_eq_true (by first | (with_reducible assumption) | assumption)
                            have q284 : x9_1 < (t272.length : Int) := of_decide_eq_true (by first | (with_reducible assumption) | assumption)
                            obtain ⟨ad284, e284, hx284_0⟩ := Kd.at_int (Kd.R_reads' HO_8.out).2.2 x9_1 p284 q284
                            cases e284
                            replace p284 := eq_true p284
                            replace q284 := eq_true q284
                            have p285 : 0 ≤ (x9_1 : Int) := of_decide_eq_true (by first | (with_reducible assumption) | assumption)
                            have q285 : x9_1 < (t272.length : Int) := of_decide_eq_true (by first | (with_reducible assumption) | assumption)
                            obtain ⟨ad285, e285, hx285_0⟩ := Kd.at_int (Kd.R_reads' HO_8.out).2.2 x9_1 p285 q285
                            obtain rfl : ad284 = ad285 := (by injection e285)
                            replace p285 := eq_true p285
                            replace q285 := eq_true q285
                            go_wp2
                            go_ret2
                            exact ⟨by first | rfl | (simp [errW_none, errW_some] <;> rfl) | (simp [*, errW_none, errW_some] <;> rfl), by repeat (first | (with_reducible first | exact HB.out | apply below_alloc | apply pw_below_drewN | apply below_drew1 | refine below_set ?_ GE276.out) | exact HB.out)⟩
                        · rw [if_neg c88] at H
                          have c88b0 : (((rd_T38 l1 x9_1).f0) == 5) = false := beq_eq_false_iff_ne.mpr c88
                          have c88b1 : (((rd_T38 l1 x9_1).f0) != 5) = true := bne_iff_ne.mpr c88
                          by_cases c94 : ((rd_T38 l1 x9_1).f0) = 6
                          · rw [if_pos c94] at H
                            have c94b0 : (((rd_T38 l1 x9_1).f0) == 6) = true := beq_iff_eq.mpr c94
                            have c94b1 : (((rd_T38 l1 x9_1).f0) != 6) = false := bne_eq_false_iff_eq.mpr c94
                            clear c94
                            by_cases c95 : (rd t272 x9_1) = 82
                            · rw [if_pos c95] at H
                              have c95b0 : ((rd t272 x9_1) == 82) = true := beq_iff_eq.mpr c95
                              have c95b1 : ((rd t272 x9_1) != 82) = false := bne_eq_false_iff_eq.mpr c95
                              clear c95
                              have H' := Aside0.mk H
                              clear H
                              have hcz96_0 : wc.cell? ⟨gb276, 0, none⟩ = some (.int .i64 ((rd_T38 l1 x9_1).f0)) := (blk_cell BK276.out 0).trans rfl
                              have hcz96_1 : wc.cell? ⟨gb276, 1, none⟩ = some (.string ((rd_T38 l1 x9_1).f1)) := (blk_cell BK276.out 1).trans rfl
                              have hcz96_2 : wc.cell? ⟨gb276, 2, none⟩ = some (.int .i64 ((rd_T38 l1 x9_1).f2)) := (blk_cell BK276.out 2).trans rfl
                              have hfz96_0 := blk_frozen BK276.out 0
                              have hfz96_1 := blk_frozen BK276.out 1
                              have hfz96_2 := blk_frozen BK276.out 2
                              obtain ⟨Ao97, co97, eo97⟩ := Kd.R_slice HO_8.out
                              subst eo97
                              have p284 : 0 ≤ (x9_1 : Int) := of_decide_eq_true (by first | (with_reducible assumption) | assumption)
                              have q284 : x9_1 < (t272.length : Int) := of_decide_eq_true (by first | (with_reducible assumption) | assumption)
                              obtain ⟨ad284, e284, hx284_0⟩ := Kd.at_int (Kd.R_reads' HO_8.out).2.2 x9_1 p284 q284
                              cases e284
                              replace p284 := eq_true p284
                              replace q284 := eq_true q284
                              have p286 : 0 ≤ (x9_1 : Int) := of_decide_eq_true (by first | (with_reducible assumption) | assumption)
                              have q286 : x9_1 < (t272.length : Int) := of_decide_eq_true (by first | (with_reducible assumption) | assumption)
                              obtain ⟨ad286, e286, hx286_0⟩ := Kd.at_int (Kd.R_reads' HO_8.out).2.2 x9_1 p286 q286
                              obtain rfl : ad284 = ad286 := (by injection e286)
                              replace p286 := eq_true p286
                              replace q286 := eq_true q286
                              go_wp2
                              go_roundg kj7
                              case measure => have := HK1.out; have := HJ7.out; omega
                              case rel => exact ⟨(wrap64 (x9_1 + 1)), (by first | rfl | (simp; done) | (simp [*]; done)), H', ⟨by have := HK1.out; have := HJ7.out; omega⟩, ⟨by (with_reducible repeat (first | apply Kd.R_alloc | apply Kd.R_drewN | apply Kd.R_drew)); exact HO_8.out⟩, ⟨by repeat (first | (with_reducible first | exact HB.out | apply below_alloc | apply pw_below_drewN | apply below_drew1 | refine below_set ?_ GE276.out) | exact HB.out)⟩⟩
                            · rw [if_neg c95] at H
                              have c95b0 : ((rd t272 x9_1) == 82) = false := beq_eq_false_iff_ne.mpr c95
                              have c95b1 : ((rd t272 x9_1) != 82) = true := bne_iff_ne.mpr c95
                              simp only [Option.some.injEq, Prod.mk.injEq] at H
                              obtain ⟨rfl, rfl⟩ := H
                              have hcz98_0 : wc.cell? ⟨gb276, 0, none⟩ = some (.int .i64 ((rd_T38 l1 x9_1).f0)) := (blk_cell BK276.out 0).trans rfl
                              have hcz98_1 : wc.cell? ⟨gb276, 1, none⟩ = some (.string ((rd_T38 l1 x9_1).f1)) := (blk_cell BK276.out 1).trans rfl
                              have hcz98_2 : wc.cell? ⟨gb276, 2, none⟩ = some (.int .i64 ((rd_T38 l1 x9_1).f2)) := (blk_cell BK276.out 2).trans rfl
                              have hfz98_0 := blk_frozen BK276.out 0
                              have hfz98_1 := blk_frozen BK276.out 1
                              have hfz98_2 := blk_frozen BK276.out 2
                              obtain ⟨Ao99, co99, eo99⟩ := Kd.R_slice HO_8.out
                              subst eo99
                              have p284 : 0 ≤ (x9_1 : Int) := of_decide_eq_true (by first | (with_reducible assumption) | assumption)
                              have q284 : x9_1 < (t272.length : Int) := of_decide_eq_true (by first | (with_reducible assumption) | assumption)
                              obtain ⟨ad284, e284, hx284_0⟩ := Kd.at_int (Kd.R_reads' HO_8.out).2.2 x9_1 p284 q284
                              cases e284
                              replace p284 := eq_true p284
                              replace q284 := eq_true q284
                              have p286 : 0 ≤ (x9_1 : Int) := of_decide_eq_true (by first | (with_reducible assumption) | assumption)
                              have q286 : x9_1 < (t272.length : Int) := of_decide_eq_true (by first | (with_reducible assumption) | assumption)
                              obtain ⟨ad286, e286, hx286_0⟩ := Kd.at_int (Kd.R_reads' HO_8.out).2.2 x9_1 p286 q286
                              obtain rfl : ad284 = ad286 := (by injection e286)
                              replace p286 := eq_true p286
                              replace q286 := eq_true q286
                              go_wp2
                              go_ret2
                              exact ⟨by first | rfl | (simp [errW_none, errW_some] <;> rfl) | (simp [*, errW_none, errW_some] <;> rfl), by repeat (first | (with_reducible first | exact HB.out | apply below_alloc | apply pw_below_drewN | apply below_drew1 | refine below_set ?_ GE276.out) | exact HB.out)⟩
                          · rw [if_neg c94] at H
                            have c94b0 : (((rd_T38 l1 x9_1).f0) == 6) = false := beq_eq_false_iff_ne.mpr c94
                            have c94b1 : (((rd_T38 l1 x9_1).f0) != 6) = true := bne_iff_ne.mpr c94
                            have H' := Aside0.mk H
                            clear H
                            have hcz100_0 : wc.cell? ⟨gb276, 0, none⟩ = some (.int .i64 ((rd_T38 l1 x9_1).f0)) := (blk_cell BK276.out 0).trans rfl
                            have hcz100_1 : wc.cell? ⟨gb276, 1, none⟩ = some (.string ((rd_T38 l1 x9_1).f1)) := (blk_cell BK276.out 1).trans rfl
                            have hcz100_2 : wc.cell? ⟨gb276, 2, none⟩ = some (.int .i64 ((rd_T38 l1 x9_1).f2)) := (blk_cell BK276.out 2).trans rfl
                            have hfz100_0 := blk_frozen BK276.out 0
                            have hfz100_1 := blk_frozen BK276.out 1
                            have hfz100_2 := blk_frozen BK276.out 2
                            obtain ⟨Ao101, co101, eo101⟩ := Kd.R_slice HO_8.out
                            subst eo101
                            have p284 : 0 ≤ (x9_1 : Int) := of_decide_eq_true (by first | (with_reducible assumption) | assumption)
                            have q284 : x9_1 < (t272.length : Int) := of_decide_eq_true (by first | (with_reducible assumption) | assumption)
                            obtain ⟨ad284, e284, hx284_0⟩ := Kd.at_int (Kd.R_reads' HO_8.out).2.2 x9_1 p284 q284
                            cases e284
                            replace p284 := eq_true p284
                            replace q284 := eq_true q284
                            go_wp2
                            go_roundg kj7
                            case measure => have := HK1.out; have := HJ7.out; omega
                            case rel => exact ⟨(wrap64 (x9_1 + 1)), (by first | rfl | (simp; done) | (simp [*]; done)), H', ⟨by have := HK1.out; have := HJ7.out; omega⟩, ⟨by (with_reducible repeat (first | apply Kd.R_alloc | apply Kd.R_drewN | apply Kd.R_drew)); exact HO_8.out⟩, ⟨by repeat (first | (with_reducible first | exact HB.out | apply below_alloc | apply pw_below_drewN | apply below_drew1 | refine below_set ?_ GE276.out) | exact HB.out)⟩⟩
                      · rw [if_neg c87] at H
                        have c87b0 : ((rd t272 x9_1) == 76) = false := beq_eq_false_iff_ne.mpr c87
                        have c87b1 : ((rd t272 x9_1) != 76) = true := bne_iff_ne.mpr c87
                        simp only [Option.some.injEq, Prod.mk.injEq] at H
                        obtain ⟨rfl, rfl⟩ := H
                        have hcz102_0 : wc.cell? ⟨gb276, 0, none⟩ = some (.int .i64 ((rd_T38 l1 x9_1).f0)) := (blk_cell BK276.out 0).trans rfl
                        have hcz102_1 : wc.cell? ⟨gb276, 1, none⟩ = some (.string ((rd_T38 l1 x9_1).f1)) := (blk_cell BK276.out 1).trans rfl
                        have hcz102_2 : wc.cell? ⟨gb276, 2, none⟩ = some (.int .i64 ((rd_T38 l1 x9_1).f2)) := (blk_cell BK276.out 2).trans rfl
                        have hfz102_0 := blk_frozen BK276.out 0
                        have hfz102_1 := blk_frozen BK276.out 1
                        have hfz102_2 := blk_frozen BK276.out 2
                        obtain ⟨Ao103, co103, eo103⟩ := Kd.R_slice HO_8.out
                        subst eo103
                        have p284 : 0 ≤ (x9_1 : Int) := of_decide_eq_true (by first | (with_reducible assumption) | assumption)
                        have q284 : x9_1 < (t272.length : Int) := of_decide_eq_true (by first | (with_reducible assumption) | assumption)
                        obtain ⟨ad284, e284, hx284_0⟩ := Kd.at_int (Kd.R_reads' HO_8.out).2.2 x9_1 p284 q284
                        cases e284
                        replace p284 := eq_true p284
                        replace q284 := eq_true q284
                        go_wp2
                        go_ret2
                        exact ⟨by first | rfl | (simp [errW_none, errW_some] <;> rfl) | (simp [*, errW_none, errW_some] <;> rfl), by repeat (first | (with_reducible first | exact HB.out | apply below_alloc | apply pw_below_drewN | apply below_drew1 | refine below_set ?_ GE276.out) | exact HB.out)⟩
                    · rw [if_neg c86] at H
                      exact absurd H (by simp)
                  · rw [if_neg c85] at H
                    exact absurd H (by simp)
                · rw [if_neg c84] at H
                  have c84b0 : (((rd_T38 l1 x9_1).f0) == 4) = false := beq_eq_false_iff_ne.mpr c84
                  have c84b1 : (((rd_T38 l1 x9_1).f0) != 4) = true := bne_iff_ne.mpr c84
                  by_cases c104 : ((rd_T38 l1 x9_1).f0) = 5
                  · rw [if_pos c104] at H
                    have c104b0 : (((rd_T38 l1 x9_1).f0) == 5) = true := beq_iff_eq.mpr c104
                    have c104b1 : (((rd_T38 l1 x9_1).f0) != 5) = false := bne_eq_false_iff_eq.mpr c104
                    clear c104
                    by_cases c105 : 0 ≤ x9_1
                    · rw [if_pos c105] at H
                      have c105b0 : decide (0 ≤ x9_1) = true := decide_eq_true c105
                      clear c105
                      by_cases c106 : x9_1 < (t272.length : Int)
                      · rw [if_pos c106] at H
                        have c106b0 : decide (x9_1 < (t272.length : Int)) = true := decide_eq_true c106
                        clear c106
                        by_cases c107 : (rd t272 x9_1) = 82
                        · rw [if_pos c107] at H
                          have c107b0 : ((rd t272 x9_1) == 82) = true := beq_iff_eq.mpr c107
                          have c107b1 : ((rd t272 x9_1) != 82) = false := bne_eq_false_iff_eq.mpr c107
                          clear c107
                          have H' := Aside0.mk H
                          clear H
                          have hcz108_0 : wc.cell? ⟨gb276, 0, none⟩ = some (.int .i64 ((rd_T38 l1 x9_1).f0)) := (blk_cell BK276.out 0).trans rfl
                          have hcz108_1 : wc.cell? ⟨gb276, 1, none⟩ = some (.string ((rd_T38 l1 x9_1).f1)) := (blk_cell BK276.out 1).trans rfl
                          have hcz108_2 : wc.cell? ⟨gb276, 2, none⟩ = some (.int .i64 ((rd_T38 l1 x9_1).f2)) := (blk_cell BK276.out 2).trans rfl
                          have hfz108_0 := blk_frozen BK276.out 0
                          have hfz108_1 := blk_frozen BK276.out 1
                          have hfz108_2 := blk_frozen BK276.out 2
                          obtain ⟨Ao109, co109, eo109⟩ := Kd.R_slice HO_8.out
                          subst eo109
                          have p287 : 0 ≤ (x9_1 : Int) := of_decide_eq_true (by first | (with_reducible assumption) | assumption)
                          have q287 : x9_1 < (t272.length : Int) := of_decide_eq_true (by first | (with_reducible assumption) | assumption)
                          obtain ⟨ad287, e287, hx287_0⟩ := Kd.at_int (Kd.R_reads' HO_8.out).2.2 x9_1 p287 q287
                          cases e287
                          replace p287 := eq_true p287
                          replace q287 := eq_true q287
                          go_wp2
                          go_roundg kj7
                          case measure => have := HK1.out; have := HJ7.out; omega
                          case rel => exact ⟨(wrap64 (x9_1 + 1)), (by first | rfl | (simp; done) | (simp [*]; done)), H', ⟨by have := HK1.out; have := HJ7.out; omega⟩, ⟨by (with_reducible repeat (first | apply Kd.R_alloc | apply Kd.R_drewN | apply Kd.R_drew)); exact HO_8.out⟩, ⟨by repeat (first | (with_reducible first | exact HB.out | apply below_alloc | apply pw_below_drewN | apply below_drew1 | refine below_set ?_ GE276.out) | exact HB.out)⟩⟩
                        · rw [if_neg c107] at H
                          have c107b0 : ((rd t272 x9_1) == 82) = false := beq_eq_false_iff_ne.mpr c107
                          have c107b1 : ((rd t272 x9_1) != 82) = true := bne_iff_ne.mpr c107
                          simp only [Option.some.injEq, Prod.mk.injEq] at H
                          obtain ⟨rfl, rfl⟩ := H
                          have hcz110_0 : wc.cell? ⟨gb276, 0, none⟩ = some (.int .i64 ((rd_T38 l1 x9_1).f0)) := (blk_cell BK276.out 0).trans rfl
                          have hcz110_1 : wc.cell? ⟨gb276, 1, none⟩ = some (.string ((rd_T38 l1 x9_1).f1)) := (blk_cell BK276.out 1).trans rfl
                          have hcz110_2 : wc.cell? ⟨gb276, 2, none⟩ = some (.int .i64 ((rd_T38 l1 x9_1).f2)) := (blk_cell BK276.out 2).trans rfl
                          have hfz110_0 := blk_frozen BK276.out 0
                          have hfz110_1 := blk_frozen BK276.out 1
                          have hfz110_2 := blk_frozen BK276.out 2
                          obtain ⟨Ao111, co111, eo111⟩ := Kd.R_slice HO_8.out
                          subst eo111
                          have p287 : 0 ≤ (x9_1 : Int) := of_decide_eq_true (by first | (with_reducible assumption) | assumption)
                          have q287 : x9_1 < (t272.length : Int) := of_decide_eq_true (by first | (with_reducible assumption) | assumption)
                          obtain ⟨ad287, e287, hx287_0⟩ := Kd.at_int (Kd.R_reads' HO_8.out).2.2 x9_1 p287 q287
                          cases e287
                          replace p287 := eq_true p287
                          replace q287 := eq_true q287
                          go_wp2
                          go_ret2
                          exact ⟨by first | rfl | (simp [errW_none, errW_some] <;> rfl) | (simp [*, errW_none, errW_some] <;> rfl), by repeat (first | (with_reducible first | exact HB.out | apply below_alloc | apply pw_below_drewN | apply below_drew1 | refine below_set ?_ GE276.out) | exact HB.out)⟩
                      · rw [if_neg c106] at H
                        exact absurd H (by simp)
                    · rw [if_neg c105] at H
                      exact absurd H (by simp)
                  · rw [if_neg c104] at H
                    have c104b0 : (((rd_T38 l1 x9_1).f0) == 5) = false := beq_eq_false_iff_ne.mpr c104
                    have c104b1 : (((rd_T38 l1 x9_1).f0) != 5) = true := bne_iff_ne.mpr c104
                    by_cases c112 : ((rd_T38 l1 x9_1).f0) = 6
                    · rw [if_pos c112] at H
                      have c112b0 : (((rd_T38 l1 x9_1).f0) == 6) = true := beq_iff_eq.mpr c112
                      have c112b1 : (((rd_T38 l1 x9_1).f0) != 6) = false := bne_eq_false_iff_eq.mpr c112
                      clear c112
                      by_cases c113 : 0 ≤ x9_1
                      · rw [if_pos c113] at H
                        have c113b0 : decide (0 ≤ x9_1) = true := decide_eq_true c113
                        clear c113
                        by_cases c114 : x9_1 < (t272.length : Int)
                        · rw [if_pos c114] at H
                          have c114b0 : decide (x9_1 < (t272.length : Int)) = true := decide_eq_true c114
                          clear c114
                          by_cases c115 : (rd t272 x9_1) = 82
                          · rw [if_pos c115] at H
                            have c115b0 : ((rd t272 x9_1) == 82) = true := beq_iff_eq.mpr c115
                            have c115b1 : ((rd t272 x9_1) != 82) = false := bne_eq_false_iff_eq.mpr c115
                            clear c115
                            have H' := Aside0.mk H
                            clear H
                            have hcz116_0 : wc.cell? ⟨gb276, 0, none⟩ = some (.int .i64 ((rd_T38 l1 x9_1).f0)) := (blk_cell BK276.out 0).trans rfl
                            have hcz116_1 : wc.cell? ⟨gb276, 1, none⟩ = some (.string ((rd_T38 l1 x9_1).f1)) := (blk_cell BK276.out 1).trans rfl
                            have hcz116_2 : wc.cell? ⟨gb276, 2, none⟩ = some (.int .i64 ((rd_T38 l1 x9_1).f2)) := (blk_cell BK276.out 2).trans rfl
                            have hfz116_0 := blk_frozen BK276.out 0
                            have hfz116_1 := blk_frozen BK276.out 1
                            have hfz116_2 := blk_frozen BK276.out 2
                            obtain ⟨Ao117, co117, eo117⟩ := Kd.R_slice HO_8.out
                            subst eo117
                            have p288 : 0 ≤ (x9_1 : Int) := of_decide_eq_true (by first | (with_reducible assumption) | assumption)
                            have q288 : x9_1 < (t272.length : Int) := of_decide_eq_true (by first | (with_reducible assumption) | assumption)
                            obtain ⟨ad288, e288, hx288_0⟩ := Kd.at_int (Kd.R_reads' HO_8.out).2.2 x9_1 p288 q288
                            cases e288
                            replace p288 := eq_true p288
                            replace q288 := eq_true q288
                            go_wp2
                            go_roundg kj7
                            case measure => have := HK1.out; have := HJ7.out; omega
                            case rel => exact ⟨(wrap64 (x9_1 + 1)), (by first | rfl | (simp; done) | (simp [*]; done)), H', ⟨by have := HK1.out; have := HJ7.out; omega⟩, ⟨by (with_reducible repeat (first | apply Kd.R_alloc | apply Kd.R_drewN | apply Kd.R_drew)); exact HO_8.out⟩, ⟨by repeat (first | (with_reducible first | exact HB.out | apply below_alloc | apply pw_below_drewN | apply below_drew1 | refine below_set ?_ GE276.out) | exact HB.out)⟩⟩
                          · rw [if_neg c115] at H
                            have c115b0 : ((rd t272 x9_1) == 82) = false := beq_eq_false_iff_ne.mpr c115
                            have c115b1 : ((rd t272 x9_1) != 82) = true := bne_iff_ne.mpr c115
                            simp only [Option.some.injEq, Prod.mk.injEq] at H
                            obtain ⟨rfl, rfl⟩ := H
                            have hcz118_0 : wc.cell? ⟨gb276, 0, none⟩ = some (.int .i64 ((rd_T38 l1 x9_1).f0)) := (blk_cell BK276.out 0).trans rfl
                            have hcz118_1 : wc.cell? ⟨gb276, 1, none⟩ = some (.string ((rd_T38 l1 x9_1).f1)) := (blk_cell BK276.out 1).trans rfl
                            have hcz118_2 : wc.cell? ⟨gb276, 2, none⟩ = some (.int .i64 ((rd_T38 l1 x9_1).f2)) := (blk_cell BK276.out 2).trans rfl
                            have hfz118_0 := blk_frozen BK276.out 0
                            have hfz118_1 := blk_frozen BK276.out 1
                            have hfz118_2 := blk_frozen BK276.out 2
                            obtain ⟨Ao119, co119, eo119⟩ := Kd.R_slice HO_8.out
                            subst eo119
                            have p288 : 0 ≤ (x9_1 : Int) := of_decide_eq_true (by first | (with_reducible assumption) | assumption)
                            have q288 : x9_1 < (t272.length : Int) := of_decide_eq_true (by first | (with_reducible assumption) | assumption)
                            obtain ⟨ad288, e288, hx288_0⟩ := Kd.at_int (Kd.R_reads' HO_8.out).2.2 x9_1 p288 q288
                            cases e288
                            replace p288 := eq_true p288
                            replace q288 := eq_true q288
                            go_wp2
                            go_ret2
                            exact ⟨by first | rfl | (simp [errW_none, errW_some] <;> rfl) | (simp [*, errW_none, errW_some] <;> rfl), by repeat (first | (with_reducible first | exact HB.out | apply below_alloc | apply pw_below_drewN | apply below_drew1 | refine below_set ?_ GE276.out) | exact HB.out)⟩
                        · rw [if_neg c114] at H
                          exact absurd H (by simp)
                      · rw [if_neg c113] at H
                        exact absurd H (by simp)
                    · rw [if_neg c112] at H
                      have c112b0 : (((rd_T38 l1 x9_1).f0) == 6) = false := beq_eq_false_iff_ne.mpr c112
                      have c112b1 : (((rd_T38 l1 x9_1).f0) != 6) = true := bne_iff_ne.mpr c112
                      have H' := Aside0.mk H
                      clear H
                      have hcz120_0 : wc.cell? ⟨gb276, 0, none⟩ = some (.int .i64 ((rd_T38 l1 x9_1).f0)) := (blk_cell BK276.out 0).trans rfl
                      have hcz120_1 : wc.cell? ⟨gb276, 1, none⟩ = some (.string ((rd_T38 l1 x9_1).f1)) := (blk_cell BK276.out 1).trans rfl
                      have hcz120_2 : wc.cell? ⟨gb276, 2, none⟩ = some (.int .i64 ((rd_T38 l1 x9_1).f2)) := (blk_cell BK276.out 2).trans rfl
                      have hfz120_0 := blk_frozen BK276.out 0
                      have hfz120_1 := blk_frozen BK276.out 1
                      have hfz120_2 := blk_frozen BK276.out 2
                      go_wp2
                      go_roundg kj7
                      case measure => have := HK1.out; have := HJ7.out; omega
                      case rel => exact ⟨(wrap64 (x9_1 + 1)), (by first | rfl | (simp; done) | (simp [*]; done)), H', ⟨by have := HK1.out; have := HJ7.out; omega⟩, ⟨by (with_reducible repeat (first | apply Kd.R_alloc | apply Kd.R_drewN | apply Kd.R_drew)); exact HO_8.out⟩, ⟨by repeat (first | (with_reducible first | exact HB.out | apply below_alloc | apply pw_below_drewN | apply below_drew1 | refine below_set ?_ GE276.out) | exact HB.out)⟩⟩
        · rw [if_neg c7] at H
          exact absurd H (by simp)
      · rw [if_neg c6] at H
        have c6b0 : decide (x9_1 < (l1.length : Int)) = false := decide_eq_false c6
        clear c6
        simp only [Option.some.injEq, Prod.mk.injEq] at H
        obtain ⟨rfl, rfl⟩ := H
        go_wp2
        go_ret2
        exact ⟨by first | rfl | (simp [errW_none, errW_some] <;> rfl) | (simp [*, errW_none, errW_some] <;> rfl), by repeat (first | (with_reducible first | exact HB.out | apply below_alloc | apply pw_below_drewN | apply below_drew1) | exact HB.out)⟩

end Go.Proofs.Ytgbickkmfjngbaa.K
