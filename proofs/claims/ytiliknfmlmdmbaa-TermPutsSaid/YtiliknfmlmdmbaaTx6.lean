-- Laid by a program of this session (wip/gprint.py) over the kit's print of the translation; Lean checks it.
import Derived.Test.YtiliknfmlmdmbaaTx0
import Derived.Test.YtiliknfmlmdmbaaTx3
import Derived.Test.YtiliknfmlmdmbaaTx5
import Derived.Test.YtiliknfmlmdmbaaHc
namespace Go.Proofs.Ytiliknfmlmdmbaa.T
open Go.RowKit Go.Proofs.YtiliknfmlmdmbaaW.PrintWords Go.Proofs.YtiliknfmlmdmbaaW.PrintLast Go.Proofs.YtiliknfmlmdmbaaW.PrintMore
attribute [local go_sem] max2_int min2_int max_two min_two max_three min_three max_four min_four   -- for this text's walks alone
set_option linter.unusedVariables false
set_option linter.unusedSimpArgs false

/-! ### term_Below: function 11 -/
mutual
def term_Below.j0 : Nat → Int → Bool → List (List Int) → List Int → Option (List Int)
  | 0, _, _, _, _ => none
  | k + 1, x1, x21, x153000, x153001 => if x21 = true then (some ([] : List Int)) else (if 0 ≤ (wrap64 (x1 + 1)) then (if (wrap64 (x1 + 1) : Int).toNat ≤ 281474976710656 then ((some (List.replicate (wrap64 (x1 + 1) : Int).toNat false : List Bool)).bind fun y153 => (if 0 ≤ x1 then (if x1 < (y153.length : Int) then (term_Below.l0 k x1 (y153.set (x1 : Int).toNat true) ([] : List Int) (wrap64 (x1 + 1)) 0 x153000 x153001) else (none)) else (none))) else (none)) else (none))
def term_Below.l0 : Nat → Int → List Bool → List Int → Int → Int → List (List Int) → List Int → Option (List Int)
  | 0, _, _, _, _, _, _, _ => none
  | k + 1, x1, x5, x6, x29, x30, x153000, x153001 => if x30 < x29 then (if 0 ≤ (wrap64 (x1 - x30)) then (if (wrap64 (x1 - x30)) < (x5.length : Int) then (if (rdOf false x5 (wrap64 (x1 - x30)) = true) then (if x6.length < 17592186044416 then ((term_Of.f x153000 x153001 (wrap64 (x1 - x30))).bind fun bt162 => (term_Below.l1 k x1 x5 (x6 ++ [wrap64 (x1 - x30)]) x29 x30 bt162.2.2.2.1 (bt162.2.2.2.1.length : Int) 0 x153000 x153001)) else (none)) else (term_Below.l0 k x1 x5 x6 x29 (wrap64 (x30 + 1)) x153000 x153001)) else (none)) else (none)) else ((slices_Reverse_int_int.f k x6).bind fun t157 => (some t157))
def term_Below.l1 : Nat → Int → List Bool → List Int → Int → Int → List Int → Int → Int → List (List Int) → List Int → Option (List Int)
  | 0, _, _, _, _, _, _, _, _, _, _ => none
  | k + 1, x1, x5, x6, x29, x30, x52, x53, x54, x153000, x153001 => if x54 < x53 then (if 0 ≤ x54 then (if x54 < (x52.length : Int) then (if 0 ≤ (rd x52 x54) then (if (rd x52 x54) < (x5.length : Int) then (term_Below.l1 k x1 (x5.set ((rd x52 x54) : Int).toNat true) x6 x29 x30 x52 x53 (wrap64 (x54 + 1)) x153000 x153001) else (none)) else (none)) else (none)) else (none)) else (term_Below.l0 k x1 x5 x6 x29 (wrap64 (x30 + 1)) x153000 x153001)
end
def term_Below.f (k : Nat) (l0_0 : List (List Int)) (l0_1 : List Int) (a1 : Int) : Option (List Int) := if a1 < 0 then (term_Below.j0 k a1 true l0_0 l0_1) else (term_Below.j0 k a1 (decide (a1 ≥ (l0_0.length : Int))) l0_0 l0_1)
theorem term_Below.mono_l : ∀ k, (∀ y0 y1 y2 y3, LeO (term_Below.j0 k y0 y1 y2 y3) (term_Below.j0 (k + 1) y0 y1 y2 y3)) ∧ (∀ y0 y1 y2 y3 y4 y5 y6, LeO (term_Below.l0 k y0 y1 y2 y3 y4 y5 y6) (term_Below.l0 (k + 1) y0 y1 y2 y3 y4 y5 y6)) ∧ (∀ y0 y1 y2 y3 y4 y5 y6 y7 y8 y9, LeO (term_Below.l1 k y0 y1 y2 y3 y4 y5 y6 y7 y8 y9) (term_Below.l1 (k + 1) y0 y1 y2 y3 y4 y5 y6 y7 y8 y9))
  | 0 => ⟨fun _ _ _ _ r h => by simp [term_Below.j0] at h, fun _ _ _ _ _ _ _ r h => by simp [term_Below.l0] at h, fun _ _ _ _ _ _ _ _ _ _ r h => by simp [term_Below.l1] at h⟩
  | k + 1 => by
    obtain ⟨ih0, ih1, ih2⟩ := term_Below.mono_l k
    refine ⟨?_, ?_, ?_⟩
    · intro y0 y1 y2 y3
      unfold term_Below.j0
      repeat' first
      | (with_reducible exact ih0 _ _ _ _)
      | (with_reducible exact ih1 _ _ _ _ _ _ _)
      | (with_reducible exact ih2 _ _ _ _ _ _ _ _ _ _)
      | (with_reducible exact slices_Reverse_int_int.mono _ _)
      | (with_reducible exact LeO.refl _)
      | (with_reducible exact LeO.none _)
      | (with_reducible refine LeO.ite ?_ ?_)
      | (with_reducible refine LeO.bind ?_ (fun _ => ?_))
      | exact ih0 _ _ _ _
      | exact ih1 _ _ _ _ _ _ _
      | exact ih2 _ _ _ _ _ _ _ _ _ _
      | exact slices_Reverse_int_int.mono _ _
      | exact LeO.none _
      | refine LeO.ite ?_ ?_
      | refine LeO.bind ?_ (fun _ => ?_)
    · intro y0 y1 y2 y3 y4 y5 y6
      unfold term_Below.l0
      repeat' first
      | (with_reducible exact ih0 _ _ _ _)
      | (with_reducible exact ih1 _ _ _ _ _ _ _)
      | (with_reducible exact ih2 _ _ _ _ _ _ _ _ _ _)
      | (with_reducible exact slices_Reverse_int_int.mono _ _)
      | (with_reducible exact LeO.refl _)
      | (with_reducible exact LeO.none _)
      | (with_reducible refine LeO.ite ?_ ?_)
      | (with_reducible refine LeO.bind ?_ (fun _ => ?_))
      | exact ih0 _ _ _ _
      | exact ih1 _ _ _ _ _ _ _
      | exact ih2 _ _ _ _ _ _ _ _ _ _
      | exact slices_Reverse_int_int.mono _ _
      | exact LeO.none _
      | refine LeO.ite ?_ ?_
      | refine LeO.bind ?_ (fun _ => ?_)
    · intro y0 y1 y2 y3 y4 y5 y6 y7 y8 y9
      unfold term_Below.l1
      repeat' first
      | (with_reducible exact ih0 _ _ _ _)
      | (with_reducible exact ih1 _ _ _ _ _ _ _)
      | (with_reducible exact ih2 _ _ _ _ _ _ _ _ _ _)
      | (with_reducible exact slices_Reverse_int_int.mono _ _)
      | (with_reducible exact LeO.refl _)
      | (with_reducible exact LeO.none _)
      | (with_reducible refine LeO.ite ?_ ?_)
      | (with_reducible refine LeO.bind ?_ (fun _ => ?_))
      | exact ih0 _ _ _ _
      | exact ih1 _ _ _ _ _ _ _
      | exact ih2 _ _ _ _ _ _ _ _ _ _
      | exact slices_Reverse_int_int.mono _ _
      | exact LeO.none _
      | refine LeO.ite ?_ ?_
      | refine LeO.bind ?_ (fun _ => ?_)
theorem term_Below.mono : ∀ a0 a1 a2 k, LeO (term_Below.f k a0 a1 a2) (term_Below.f (k + 1) a0 a1 a2) := by
  intro a0 a1 a2 k
  obtain ⟨ih0, ih1, ih2⟩ := term_Below.mono_l k
  unfold term_Below.f
  repeat' first
      | (with_reducible exact ih0 _ _ _ _)
      | (with_reducible exact ih1 _ _ _ _ _ _ _)
      | (with_reducible exact ih2 _ _ _ _ _ _ _ _ _ _)
      | (with_reducible exact slices_Reverse_int_int.mono _ _)
      | (with_reducible exact LeO.refl _)
      | (with_reducible exact LeO.none _)
      | (with_reducible refine LeO.ite ?_ ?_)
      | (with_reducible refine LeO.bind ?_ (fun _ => ?_))
      | exact ih0 _ _ _ _
      | exact ih1 _ _ _ _ _ _ _
      | exact ih2 _ _ _ _ _ _ _ _ _ _
      | exact slices_Reverse_int_int.mono _ _
      | exact LeO.none _
      | refine LeO.ite ?_ ?_
      | refine LeO.bind ?_ (fun _ => ?_)
set_option maxHeartbeats 8000000 in
set_option maxRecDepth 100000 in
theorem term_Below.calls (k : Nat) (A0_0 : Option Addr) (c0_0 : Nat) (l0_0 : List (List Int)) (A0_1 : Option Addr) (c0_1 : Nat) (l0_1 : List Int) (a1 : Int) (r : List Int) (w : World) (hr0_0 : Kd.C (Kd.slice 3 (Kd.int .i64)) w A0_0 l0_0.length l0_0) (hc0_0 : l0_0.length ≤ c0_0) (hr0_1 : Kd.C (Kd.int .i64) w A0_1 l0_1.length l0_1) (hc0_1 : l0_1.length ≤ c0_1) (h : term_Below.f k l0_0 l0_1 a1 = some r) :
    Calls Try.prog 11 #[.agg #[.slice A0_0 l0_0.length c0_0, .slice A0_1 l0_1.length c0_1], .int .i64 a1] w fun e w' => ∃ v0_ : Value, e = .returned (v0_) ∧ Kd.R (Kd.int .i64) 3 w' w.heap.size (fun _ => True) v0_ r ∧ Below w.heap.size w w' := by
  have hu26 := Try.underlying26
  have hu28 := Try.underlying28
  have HR0_0 := Aside0.mk hr0_0
  have HC0_0 := Aside0.mk hc0_0
  clear hr0_0 hc0_0
  have HR0_1 := Aside0.mk hr0_1
  have HC0_1 := Aside0.mk hc0_1
  clear hr0_1 hc0_1
  have HB := Aside0.mk (Below.refl w.heap.size w)
  have H : (if a1 < 0 then (term_Below.j0 k a1 true l0_0 l0_1) else (term_Below.j0 k a1 (decide (a1 ≥ (l0_0.length : Int))) l0_0 l0_1)) = some r := h
  clear h
  have HC3 := Aside0.mk H
  clear H
  go_enter Try.func11, Try.ntmps11
  go_upto_region 1 with (first | ((with_reducible refine gate_dst (N := 2) rfl ?_); (try (refine gate_guard (by rfl) ?_; dsimp only)); refine box_event ?hg (N := 2) ?hd (cs := #[.slice A0_0 l0_0.length c0_0, .slice A0_1 l0_1.length c0_1]) (t := 26) ?hr ?_; (case hd => rfl); (case hg => rfl); (case hr => first | (go_simp; done) | (go_simp; rfl)); intro gb152 hg w4 hbox hb; have n0_ := Aside0.mk (below_step (by repeat (first | (with_reducible first | exact HB.out | apply below_alloc | apply pw_below_drewN | apply below_drew1) | exact HB.out)) hb); have n1_ := Aside0.mk (hbox); have n2_ := Aside0.mk ((by rw [hg]; exact (below_size (by repeat (first | (with_reducible first | exact HB.out | apply below_alloc | apply pw_below_drewN | apply below_drew1) | exact HB.out))) : w.heap.size ≤ gb152)); have n3_ := Aside0.mk ((by rw [hg]; exact (below_size (by repeat (first | (with_reducible first | exact HB.out | apply below_alloc | apply pw_below_drewN | apply below_drew1) | exact HB.out))) : w.heap.size ≤ gb152)); clear HB; have HB := n0_; have BK152 := n1_; have GW152 := n2_; have GE152 := n3_; clear n0_ n1_ n2_ n3_; clear hb hbox hg))
  (try simp only [Act.put, List.setIfInBounds_toArray, List.set_cons_zero, List.set_cons_succ])
  go_cut [21] (fun v21 wc => ∃ (kq : Nat) (x21_2 : Bool), v21 = .bool x21_2 ∧ Aside0 (term_Below.j0 kq a1 x21_2 l0_0 l0_1 = some r) ∧ Aside0 (kq ≤ k) ∧ Aside0 (wc.heap[gb152]? = some (.cells #[(.slice A0_0 l0_0.length c0_0), (.slice A0_1 l0_1.length c0_1)] 26 (0, 0))) ∧ Aside0 (Below w.heap.size w wc))
  case first =>
    have H := HC3.out
    clear HC3
    by_cases c5 : a1 < 0
    · rw [if_pos c5] at H
      have c5b0 : decide (a1 < 0) = true := decide_eq_true c5
      clear c5
      (first | rw [c5b0] | (simp only [i64_w, i32_w]; rw [c5b0]) | skip)
      have H' := Aside0.mk H
      clear H
      go_wp2
      go_meet
      case rel => exact ⟨_, (true), (by first | rfl | (simp; done) | (simp [*]; done)), H', ⟨by first | omega | exact Nat.le_refl _⟩, ⟨by (with_reducible repeat (first | refine blk_drewN ?_ _ | refine blk_drew ?_ | refine blk_alloc ?_ _)); exact BK152.out⟩, ⟨by repeat (first | (with_reducible first | exact HB.out | apply below_alloc | apply pw_below_drewN | apply below_drew1 | refine below_set ?_ GE152.out) | exact HB.out)⟩⟩
    · rw [if_neg c5] at H
      have c5b0 : decide (a1 < 0) = false := decide_eq_false c5
      clear c5
      (first | rw [c5b0] | (simp only [i64_w, i32_w]; rw [c5b0]) | skip)
      have H' := Aside0.mk H
      clear H
      have hcz6_0 : w4.cell? ⟨gb152, 0, none⟩ = some (.slice A0_0 l0_0.length c0_0) := (blk_cell BK152.out 0).trans rfl
      have hcz6_1 : w4.cell? ⟨gb152, 1, none⟩ = some (.slice A0_1 l0_1.length c0_1) := (blk_cell BK152.out 1).trans rfl
      have hfz6_0 := blk_frozen BK152.out 0
      have hfz6_1 := blk_frozen BK152.out 1
      go_wp2
      go_meet
      case rel => exact ⟨_, (decide (a1 ≥ (l0_0.length : Int))), (by first | rfl | (simp; done) | (simp [*]; done)), H', ⟨by first | omega | exact Nat.le_refl _⟩, ⟨by (with_reducible repeat (first | refine blk_drewN ?_ _ | refine blk_drew ?_ | refine blk_alloc ?_ _)); exact BK152.out⟩, ⟨by repeat (first | (with_reducible first | exact HB.out | apply below_alloc | apply pw_below_drewN | apply below_drew1 | refine below_set ?_ GE152.out) | exact HB.out)⟩⟩
  case rest =>
    clear HC3
    try clear c1
    try clear p2
    try clear c5
    try clear c5b0
    try clear hcz6_0
    try clear hcz6_1
    try clear hfz6_0
    try clear hfz6_1
    obtain ⟨kq, x21_2, rfl, HA, HJ2, BK152, HB⟩ := hcut
    cases kq with
    | zero => exact absurd HA.out (by simp [term_Below.j0])
    | succ kj2 =>
      have H := HA.out
      clear HA
      simp only [term_Below.j0] at H
      by_cases c7 : x21_2 = true
      · subst c7
        have H1 : (some ([] : List Int)) = some r := by rw [if_pos rfl] at H; exact H
        clear H
        have H := H1
        clear H1
        obtain rfl := Option.some.inj H
        go_wp2
        go_ret
        exact ⟨_, by first | rfl | (simp [errW_none, errW_some] <;> rfl) | (simp [*, errW_none, errW_some] <;> rfl), by first | exact Kd.R_nil _ _ _ _ _ | exact Kd.N_nil _ _ _ _ _ | exact Kd.V_nil _ _ _ _ _ | exact Kd.Q_nil _ _ _ _ _ | exact Kd.S_nil _ _ _ _ _, by repeat (first | (with_reducible first | exact HB.out | apply below_alloc | apply pw_below_drewN | apply below_drew1 | refine below_set ?_ GE152.out) | exact HB.out)⟩
      · replace c7 := Bool.eq_false_iff.mpr c7
        subst c7
        have H1 : (if 0 ≤ (wrap64 (a1 + 1)) then (if (wrap64 (a1 + 1) : Int).toNat ≤ 281474976710656 then ((some (List.replicate (wrap64 (a1 + 1) : Int).toNat false : List Bool)).bind fun y153 => (if 0 ≤ a1 then (if a1 < (y153.length : Int) then (term_Below.l0 kj2 a1 (y153.set (a1 : Int).toNat true) ([] : List Int) (wrap64 (a1 + 1)) 0 l0_0 l0_1) else (none)) else (none))) else (none)) else (none)) = some r := by rw [if_neg (show ¬ (false = true) by decide)] at H; exact H
        clear H
        have H := H1
        clear H1
        obtain ⟨ji8, hji8⟩ : ∃ j_ : Int, (wrap64 (a1 + 1)) = j_ := ⟨_, rfl⟩
        replace H : (if 0 ≤ (ji8) then (if (ji8 : Int).toNat ≤ 281474976710656 then ((some (List.replicate (ji8 : Int).toNat false : List Bool)).bind fun y153 => (if 0 ≤ a1 then (if a1 < (y153.length : Int) then (term_Below.l0 kj2 a1 (y153.set (a1 : Int).toNat true) ([] : List Int) ji8 0 l0_0 l0_1) else (none)) else (none))) else (none)) else (none)) = some r := by first | (rw [hji8] at H; exact H) | (simp only [hji8] at H ⊢; exact H)
        have hji8w : (IntKind.i64.wrap (a1 + 1)) = ji8 := (i64_w _).trans hji8
        by_cases c9 : 0 ≤ (ji8)
        · rw [if_pos c9] at H
          have c9b0 := eq_true c9
          have c9b1 : decide (0 ≤ (ji8)) = true := decide_eq_true c9
          clear c9
          by_cases c10 : (ji8 : Int).toNat ≤ 281474976710656
          · rw [if_pos c10] at H
            have c10b0 := eq_true c10
            have c10b1 : decide ((ji8 : Int).toNat ≤ 281474976710656) = true := decide_eq_true c10
            clear c10
            obtain ⟨y153, hy153⟩ : ∃ y_ : List Bool, y_ = (List.replicate (ji8 : Int).toNat false) := ⟨_, rfl⟩
            replace H : (if 0 ≤ a1 then (if a1 < (y153.length : Int) then (term_Below.l0 kj2 a1 (y153.set (a1 : Int).toNat true) ([] : List Int) ji8 0 l0_0 l0_1) else (none)) else (none)) = some r := by first | (rw [hy153]; with_reducible exact H) | (have H2_ := (Option.bind_some _ _).symm.trans H; rw [hy153]; with_reducible exact H2_) | (have H2_ := (Option.bind_some _ _).symm.trans H; with_reducible exact H2_) | with_reducible exact H | (rw [hy153]; exact H) | exact H
            have Ny153 := Aside0.mk hy153
            clear hy153
            by_cases c11 : 0 ≤ a1
            · rw [if_pos c11] at H
              have c11b0 : decide (0 ≤ a1) = true := decide_eq_true c11
              clear c11
              by_cases c12 : a1 < (y153.length : Int)
              · rw [if_pos c12] at H
                have c12b0 : decide (a1 < (y153.length : Int)) = true := decide_eq_true c12
                clear c12
                obtain ⟨y156, hy156⟩ : ∃ y_ : List Bool, y_ = (y153.set (a1 : Int).toNat true) := ⟨_, rfl⟩
                replace H : (term_Below.l0 kj2 a1 y156 ([] : List Int) ji8 0 l0_0 l0_1) = some r := by first | (rw [hy156]; with_reducible exact H) | (have H2_ := (Option.bind_some _ _).symm.trans H; rw [hy156]; with_reducible exact H2_) | (have H2_ := (Option.bind_some _ _).symm.trans H; with_reducible exact H2_) | with_reducible exact H | (rw [hy156]; exact H) | exact H
                have Ny156 := Aside0.mk hy156
                clear hy156
                have H' := Aside0.mk H
                clear H
                go_wp2_with (first | ((with_reducible refine gate_dst (N := 24) rfl ?_); (try (refine gate_guard (by rfl) ?_; dsimp only)); refine Kd.R_make Kd.bool _ 4 rfl (N := 24) rfl 44 _ _ rfl ji8 rfl rfl Try.underlying44 (.bool false) 1 info4 rfl (by decide) (by omega) false (ok := fun _ => True) (okp := fun _ => True) rfl (fun _ hk => hk) trivial (of_decide_eq_true (by first | (with_reducible assumption) | assumption)) (Nat.le_trans (Nat.mul_le_mul_right _ (of_decide_eq_true (by first | (with_reducible assumption) | assumption) : ji8.toNat ≤ 281474976710656)) (by omega)) (Below.refl _ _) (Nat.le_refl _) ?_; intro v154 w14 ho15 hb hg_ hnew_; clear hg_ hnew_; (first | rw [← Ny153.out] at ho15 | (simp only [Int.reduceToNat] at ho15; rw [← Ny153.out] at ho15)); have n0_ := Aside0.mk (Kd.R_lower ho15 (below_size (by repeat (first | (with_reducible first | exact HB.out | apply below_alloc | apply pw_below_drewN | apply below_drew1 | refine below_set ?_ GE152.out) | exact HB.out)))); have n1_ := Aside0.mk (blk_below (g := gb152) (o := .cells #[.slice A0_0 l0_0.length c0_0, .slice A0_1 l0_1.length c0_1] 26 (0, 0)) (by (with_reducible repeat (first | refine blk_drewN ?_ _ | refine blk_drew ?_ | refine blk_alloc ?_ _)); exact BK152.out) hb); have n2_ := Aside0.mk (below_step (by repeat (first | (with_reducible first | exact HB.out | apply below_alloc | apply pw_below_drewN | apply below_drew1 | refine below_set ?_ GE152.out) | exact HB.out)) hb); clear BK152; clear HB; have HO155 := n0_; have BK152 := n1_; have HB := n2_; clear n0_ n1_ n2_; clear hb ho15; have p13 : 0 ≤ (a1 : Int) := of_decide_eq_true (by first | (with_reducible assumption) | assumption); have q13 : (a1 : Int) < ((y153.length : Int) : Int) := of_decide_eq_true (by first | (with_reducible assumption) | assumption); obtain ⟨go13, co13, eo13, gb13, gl13, cl13, HG13⟩ := Kd.R_form HO155.out (by omega); (first | cases eo13 | (injection eo13 with ea_ en_ ec_; (first | subst ea_ | (injection ea_ with ea_; subst ea_)); subst ec_; clear en_)); have GB13 := Aside0.mk gb13; have GG13 := Aside0.mk HG13; clear gb13 gl13 HG13; obtain ⟨hx13_0, hf13_0⟩ := Kd.R_celln false HO155.out (a1 : Int) p13 q13; replace p13 := eq_true p13; replace q13 := eq_true q13; obtain ⟨hy16_, hz16_⟩ := Kd.R_celln false HO155.out (a1 : Int) (of_decide_eq_true (by first | (with_reducible assumption) | assumption)) (of_decide_eq_true (by first | (with_reducible assumption) | assumption)); have HP16 := Kd.R_putg HO155.out (a1 : Int) true) | ((with_reducible refine gate_store (t := 4) (p := 27) rfl ?_); refine store_event (t := 4) (p := 27) (v := ?vo_w17) (w1 := (w14.setCell ⟨go13, (a1 : Int).toNat, none⟩ (.bool true))) ?hg ?ho ?hn ?hr ?_; (case ho => rfl); (case hg => rfl); (case hn => rfl); (case hr => first | (go_simp; done) | (go_simp; rfl)); intro w17 hw; have hg : w14.grownBy w17 (some go13) := (by rw [hw]; exact HP16.2); have hp_ : Kd.R Kd.bool 4 w17 w.heap.size (fun _ => True) (.slice (some ⟨go13, 0, none⟩) y153.length co13) y156 := (by rw [hw, Ny156.out]; exact HP16.1); clear HP16; have n0_ := Aside0.mk (blk_grown (g := gb152) (o := .cells #[.slice A0_0 l0_0.length c0_0, .slice A0_1 l0_1.length c0_1] 26 (0, 0)) (by (with_reducible repeat (first | refine blk_drewN ?_ _ | refine blk_drew ?_ | refine blk_alloc ?_ _)); exact BK152.out) hg (Kd.R_ne HO155.out BK152.out (by decide))); have n1_ := Aside0.mk (hp_); have n2_ := Aside0.mk ((by rw [hw]; exact below_set (HB.out) GB13.out : Below w.heap.size w w17)); clear BK152; clear HO155; clear HB; have BK152 := n0_; have HO155 := n1_; have HB := n2_; clear n0_ n1_ n2_; clear hg hw hp_))
                go_loopg [6, 30] kj2 (fun kq v6 v30 w' => ∃ (x5_2 : List Bool) (x6_2 : List Int) (x30_2 : Int), v30 = .int .i64 x30_2 ∧ Aside0 (term_Below.l0 kq a1 x5_2 x6_2 ji8 x30_2 l0_0 l0_1 = some r) ∧ Aside0 (kq ≤ kj2) ∧ Aside0 (Kd.R Kd.bool 4 w' w.heap.size (fun _ => True) (.slice (some ⟨go13, 0, none⟩) y153.length co13) x5_2) ∧ Aside0 (Kd.R (Kd.int .i64) 3 w' w.heap.size (fun _ => True) v6 x6_2) ∧ Aside0 (w'.heap[gb152]? = some (.cells #[(.slice A0_0 l0_0.length c0_0), (.slice A0_1 l0_1.length c0_1)] 26 (0, 0))) ∧ Aside0 (Below w.heap.size w w'))
                case atStart => exact ⟨(y156), (([] : List Int)), (0), (by first | rfl | (simp; done) | (simp [*]; done)), H', ⟨Nat.le_refl _⟩, ⟨by (with_reducible repeat (first | apply Kd.R_alloc | apply Kd.R_drewN | apply Kd.R_drew)); exact HO155.out⟩, ⟨by first | exact Kd.R_nil _ _ _ _ _ | exact Kd.N_nil _ _ _ _ _ | exact Kd.V_nil _ _ _ _ _ | exact Kd.Q_nil _ _ _ _ _ | exact Kd.S_nil _ _ _ _ _⟩, ⟨by (with_reducible repeat (first | refine blk_drewN ?_ _ | refine blk_drew ?_ | refine blk_alloc ?_ _)); exact BK152.out⟩, ⟨by repeat (first | (with_reducible first | exact HB.out | apply below_alloc | apply pw_below_drewN | apply below_drew1 | refine below_set ?_ GE152.out) | exact HB.out)⟩⟩
                case round =>
                  clear H'
                  try clear c1
                  try clear p1
                  try clear q1
                  try clear hx1
                  try clear p2
                  try clear c5
                  try clear c5b0
                  try clear p6
                  try clear c7
                  try clear c9
                  try clear c9b0
                  try clear c9b1
                  try clear c10
                  try clear c10b0
                  try clear c10b1
                  try clear c11
                  try clear c11b0
                  try clear c12
                  try clear c12b0
                  try clear p13
                  try clear q13
                  try clear hx13
                  try clear hf13
                  try clear hcz6_0
                  try clear hcz6_1
                  try clear hfz6_0
                  try clear hfz6_1
                  try clear hx13_0
                  try clear p13
                  try clear p2
                  try clear q13
                  obtain ⟨x5_2, x6_2, x30_2, rfl, HA, HK2, HO_5, HO_6, BK152, HB⟩ := hrel
                  have hl5_2 := (Kd.R_reads' HO_5.out).1
                  rw [hl5_2] at HO_5
                  (try simp only [hl5_2])
                  (try simp only [hl5_2] at BK152)
                  (try simp only [hl5_2] at HO_6)
                  cases gk with
                  | zero => exact absurd HA.out (by simp [term_Below.l0])
                  | succ k2 =>
                    have H := HA.out
                    clear HA
                    simp only [term_Below.l0] at H
                    by_cases c18 : x30_2 < ji8
                    · rw [if_pos c18] at H
                      have c18b0 : decide (x30_2 < ji8) = true := decide_eq_true c18
                      clear c18
                      obtain ⟨ji19, hji19⟩ : ∃ j_ : Int, (wrap64 (a1 - x30_2)) = j_ := ⟨_, rfl⟩
                      replace H : (if 0 ≤ (ji19) then (if (ji19) < (x5_2.length : Int) then (if (rdOf false x5_2 (ji19) = true) then (if x6_2.length < 17592186044416 then ((term_Of.f l0_0 l0_1 (ji19)).bind fun bt162 => (term_Below.l1 k2 a1 x5_2 (x6_2 ++ [ji19]) ji8 x30_2 bt162.2.2.2.1 (bt162.2.2.2.1.length : Int) 0 l0_0 l0_1)) else (none)) else (term_Below.l0 k2 a1 x5_2 x6_2 ji8 (wrap64 (x30_2 + 1)) l0_0 l0_1)) else (none)) else (none)) = some r := by first | (rw [hji19] at H; exact H) | (simp only [hji19] at H ⊢; exact H)
                      have hji19w : (IntKind.i64.wrap (a1 - x30_2)) = ji19 := (i64_w _).trans hji19
                      by_cases c20 : 0 ≤ (ji19)
                      · rw [if_pos c20] at H
                        have c20b0 : decide (0 ≤ (ji19)) = true := decide_eq_true c20
                        clear c20
                        by_cases c21 : (ji19) < (x5_2.length : Int)
                        · rw [if_pos c21] at H
                          have c21b0 : decide ((ji19) < (x5_2.length : Int)) = true := decide_eq_true c21
                          clear c21
                          obtain ⟨bq22, hbq22⟩ : ∃ b_ : Bool, b_ = (rdOf false x5_2 (ji19)) := ⟨_, rfl⟩
                          replace H : (if (bq22 = true) then (if x6_2.length < 17592186044416 then ((term_Of.f l0_0 l0_1 (ji19)).bind fun bt162 => (term_Below.l1 k2 a1 x5_2 (x6_2 ++ [ji19]) ji8 x30_2 bt162.2.2.2.1 (bt162.2.2.2.1.length : Int) 0 l0_0 l0_1)) else (none)) else (term_Below.l0 k2 a1 x5_2 x6_2 ji8 (wrap64 (x30_2 + 1)) l0_0 l0_1)) = some r := by rw [← hbq22] at H; exact H
                          have Nbq22 := Aside0.mk hbq22
                          clear hbq22
                          by_cases c23 : (bq22 = true)
                          · subst c23
                            have H1 : (if x6_2.length < 17592186044416 then ((term_Of.f l0_0 l0_1 (ji19)).bind fun bt162 => (term_Below.l1 k2 a1 x5_2 (x6_2 ++ [ji19]) ji8 x30_2 bt162.2.2.2.1 (bt162.2.2.2.1.length : Int) 0 l0_0 l0_1)) else (none)) = some r := by rw [if_pos rfl] at H; exact H
                            clear H
                            have H := H1
                            clear H1
                            by_cases c24 : x6_2.length < 17592186044416
                            · rw [if_pos c24] at H
                              have LMc24 := Aside0.mk c24
                              clear c24
                              obtain ⟨y159, hy159⟩ : ∃ y_ : List Int, y_ = (x6_2 ++ [ji19]) := ⟨_, rfl⟩
                              replace H : ((term_Of.f l0_0 l0_1 (ji19)).bind fun bt162 => (term_Below.l1 k2 a1 x5_2 y159 ji8 x30_2 bt162.2.2.2.1 (bt162.2.2.2.1.length : Int) 0 l0_0 l0_1)) = some r := by first | (rw [hy159]; with_reducible exact H) | (have H2_ := (Option.bind_some _ _).symm.trans H; rw [hy159]; with_reducible exact H2_) | (have H2_ := (Option.bind_some _ _).symm.trans H; with_reducible exact H2_) | with_reducible exact H | (rw [hy159]; exact H) | exact H
                              have Ny159 := Aside0.mk hy159
                              clear hy159
                              replace H := Option.bind_eq_some_iff.mp H
                              obtain ⟨⟨t162, t163, t164, t165, t168⟩, A250, H⟩ := H
                              replace H : (term_Below.l1 k2 a1 x5_2 y159 ji8 x30_2 t165 (t165.length : Int) 0 l0_0 l0_1) = some r := H
                              have A25 := Aside0.mk A250
                              clear A250
                              have H' := Aside0.mk H
                              clear H
                              have p158 : 0 ≤ ((ji19) : Int) := of_decide_eq_true (by first | (with_reducible assumption) | assumption)
                              have q158 : (ji19) < (x5_2.length : Int) := of_decide_eq_true (by first | (with_reducible assumption) | assumption)
                              obtain ⟨ad158, e158, hx158_0⟩ := Kd.at_bool (Kd.R_reads' HO_5.out).2.2 (ji19) p158 q158
                              (try rw [← Nbq22.out] at hx158_0)
                              obtain rfl : (⟨go13, 0, none⟩ : Addr) = ad158 := (by injection e158)
                              (first | simp only [add_plain] at hx158_0 | simp only [add_at] at hx158_0 | simp only [Addr.add, Nat.zero_add] at hx158_0 | skip)
                              replace p158 := eq_true p158
                              replace q158 := eq_true q158
                              go_wp2_with (first | ((with_reducible refine gate_builtin (b := .append) (xs := #[.tmp 41, .tmp 43]) rfl ?_); (try (refine gate_guard (by rfl) ?_; dsimp only)); at_builtin; refine Kd.R_append (Kd.int .i64) (w0 := w) w.heap.size rfl (.tmp 41) (.tmp 43) 24 3 (.int .i64 0) 8 rfl Try.underlying24 info3 rfl (by decide) (by omega) u6 x6_2 ji19 [.int .i64 ji19] (fun _ => True) (fun _ => False) rfl rfl ?aP (fun _ hk => hk.elim) ?aF ?aO ?aB ?aS ?aL ?_; (case aP => exact rfl); (case aB => exact (by repeat (first | (with_reducible first | exact HB.out | apply below_alloc | apply pw_below_drewN | apply below_drew1 | refine below_set ?_ GE152.out) | exact HB.out))); (case aF => exact (fun _ _ => trivial)); (case aO => exact (by (with_reducible repeat (first | apply Kd.R_alloc | apply Kd.R_drewN | apply Kd.R_drew)); exact HO_6.out)); (case aS => exact (below_size (by repeat (first | (with_reducible first | exact HB.out | apply below_alloc | apply pw_below_drewN | apply below_drew1 | refine below_set ?_ GE152.out) | exact HB.out)))); (case aL => have := LMc24.out; omega); intro v160 w26 ho hb hg hat; rw [← Ny159.out] at ho; have n0_ := Aside0.mk (Kd.R_over' (by (with_reducible repeat (first | apply Kd.R_alloc | apply Kd.R_drewN | apply Kd.R_drew)); exact HO_5.out) (Kd.R_typed (by (with_reducible repeat (first | apply Kd.R_alloc | apply Kd.R_drewN | apply Kd.R_drew)); exact HO_6.out)) (by decide) hg); have n1_ := Aside0.mk (blk_grown (g := gb152) (o := .cells #[.slice A0_0 l0_0.length c0_0, .slice A0_1 l0_1.length c0_1] 26 (0, 0)) (by (with_reducible repeat (first | refine blk_drewN ?_ _ | refine blk_drew ?_ | refine blk_alloc ?_ _)); exact BK152.out) hg (Kd.R_ne HO_6.out BK152.out (by decide))); have n2_ := Aside0.mk (hb); have n3_ := Aside0.mk (ho); clear HO_5; clear BK152; clear HB; clear HO_6; have HO_5 := n0_; have BK152 := n1_; have HB := n2_; have HO161 := n3_; clear n0_ n1_ n2_ n3_; clear ho hb hg hat; have hcz27_0 : w26.cell? ⟨gb152, 0, none⟩ = some (.slice A0_0 l0_0.length c0_0) := (blk_cell BK152.out 0).trans rfl; have hcz27_1 : w26.cell? ⟨gb152, 1, none⟩ = some (.slice A0_1 l0_1.length c0_1) := (blk_cell BK152.out 1).trans rfl; have hfz27_0 := blk_frozen BK152.out 0; have hfz27_1 := blk_frozen BK152.out 1) | ((with_reducible refine gate_callee (f := 13) rfl ?_); refine goesL_ (some 48) rfl rfl Try.func13 (by kernel_rfl) rfl #[.agg #[.slice A0_0 l0_0.length c0_0, .slice A0_1 l0_1.length c0_1], .int .i64 ji19] rfl (by (try simp only [List.map_toArray, List.map_cons, List.map_nil]); first | done | (simp only [hji19]; rfl) | rfl | (simp only [List.length_drop, List.length_take]; rfl)) ?_; (with_reducible refine (term_Of.calls _ _ l0_0 _ _ l0_1 ji19 t162 t163 t164 t165 t168 _ ?side1 ?side2 ?side3 ?side4 A25.out).mono ?_); (case side1 => repeat (first | exact (Kd.C_below HR0_0.out HB.out) | (with_reducible refine Kd.C_alloc ?_ _) | (with_reducible refine Kd.C_drewN ?_ _) | (with_reducible refine Kd.C_drew ?_))); (case side2 => exact HC0_0.out); (case side3 => repeat (first | exact (Kd.C_below HR0_1.out HB.out) | (with_reducible refine Kd.C_alloc ?_ _) | (with_reducible refine Kd.C_drewN ?_ _) | (with_reducible refine Kd.C_drew ?_))); (case side4 => exact HC0_1.out); rintro e w28 ⟨v166, rfl, ho0, hb⟩; refine ⟨_, rfl, ?_⟩; have n0_ := Aside0.mk (Kd.R_below (by (with_reducible repeat (first | apply Kd.R_alloc | apply Kd.R_drewN | apply Kd.R_drew)); exact HO_5.out) hb); have n1_ := Aside0.mk (Kd.R_elder' (by (with_reducible repeat (first | apply Kd.R_alloc | apply Kd.R_drewN | apply Kd.R_drew)); exact HO161.out) (Kd.R_base ho0) hb); have n2_ := Aside0.mk (Kd.R_lower (Kd.R_new' ho0 (Kd.R_lt (by (with_reducible repeat (first | apply Kd.R_alloc | apply Kd.R_drewN | apply Kd.R_drew)); exact HO161.out))) (below_size (by repeat (first | (with_reducible first | exact HB.out | apply below_alloc | apply pw_below_drewN | apply below_drew1 | refine below_set ?_ GE152.out) | exact HB.out)))); have n3_ := Aside0.mk (blk_below (g := gb152) (o := .cells #[.slice A0_0 l0_0.length c0_0, .slice A0_1 l0_1.length c0_1] 26 (0, 0)) (by (with_reducible repeat (first | refine blk_drewN ?_ _ | refine blk_drew ?_ | refine blk_alloc ?_ _)); exact BK152.out) hb); have n4_ := Aside0.mk (below_step (by repeat (first | (with_reducible first | exact HB.out | apply below_alloc | apply pw_below_drewN | apply below_drew1 | refine below_set ?_ GE152.out) | exact HB.out)) hb); clear HO_5; clear HO161; clear BK152; clear HB; have HO_5 := n0_; have HO161 := n1_; have HO167 := n2_; have BK152 := n3_; have HB := n4_; clear n0_ n1_ n2_ n3_ n4_; (try clear hb); (try clear hb2); (try clear hk); (try clear hi); (try clear ho0)) | ((with_reducible refine gate_dst (N := 9) rfl ?_); (try (refine gate_guard (by rfl) ?_; dsimp only)); refine box_event ?hg (N := 9) ?hd (cs := #[.int .i64 0, .int .i64 0, .int .i64 0, .slice none 0 0]) (t := 28) ?hr ?_; (case hd => rfl); (case hg => rfl); (case hr => first | (go_simp; done) | (go_simp; rfl)); intro gb169 hg w29 hbox hb; have n0_ := Aside0.mk (Kd.R_below (by (with_reducible repeat (first | apply Kd.R_alloc | apply Kd.R_drewN | apply Kd.R_drew)); exact HO_5.out) hb); have n1_ := Aside0.mk (Kd.R_below (by (with_reducible repeat (first | apply Kd.R_alloc | apply Kd.R_drewN | apply Kd.R_drew)); exact HO161.out) hb); have n2_ := Aside0.mk (Kd.R_below (by (with_reducible repeat (first | apply Kd.R_alloc | apply Kd.R_drewN | apply Kd.R_drew)); exact HO167.out) hb); have n3_ := Aside0.mk (blk_below (g := gb152) (o := .cells #[.slice A0_0 l0_0.length c0_0, .slice A0_1 l0_1.length c0_1] 26 (0, 0)) (by (with_reducible repeat (first | refine blk_drewN ?_ _ | refine blk_drew ?_ | refine blk_alloc ?_ _)); exact BK152.out) hb); have n4_ := Aside0.mk (below_step (by repeat (first | (with_reducible first | exact HB.out | apply below_alloc | apply pw_below_drewN | apply below_drew1 | refine below_set ?_ GE152.out) | exact HB.out)) hb); have n5_ := Aside0.mk (hbox); have n6_ := Aside0.mk ((by rw [hg]; exact (below_size (by repeat (first | (with_reducible first | exact HB.out | apply below_alloc | apply pw_below_drewN | apply below_drew1 | refine below_set ?_ GE152.out) | exact HB.out))) : w.heap.size ≤ gb169)); have n7_ := Aside0.mk ((by rw [hg]; exact (below_size (by repeat (first | (with_reducible first | exact HB.out | apply below_alloc | apply pw_below_drewN | apply below_drew1 | refine below_set ?_ GE152.out) | exact HB.out))) : w.heap.size ≤ gb169)); have n8_ := Aside0.mk ((by rw [hg]; exact Nat.ne_of_lt (blk_lt (g := gb152) (o := .cells #[.slice A0_0 l0_0.length c0_0, .slice A0_1 l0_1.length c0_1] 26 (0, 0)) (by (with_reducible repeat (first | refine blk_drewN ?_ _ | refine blk_drew ?_ | refine blk_alloc ?_ _)); exact BK152.out)) : gb152 ≠ gb169)); have n9_ := Aside0.mk ((by rw [hg]; exact Nat.ne_of_gt (blk_lt (g := gb152) (o := .cells #[.slice A0_0 l0_0.length c0_0, .slice A0_1 l0_1.length c0_1] 26 (0, 0)) (by (with_reducible repeat (first | refine blk_drewN ?_ _ | refine blk_drew ?_ | refine blk_alloc ?_ _)); exact BK152.out)) : gb169 ≠ gb152)); clear HO_5; clear HO161; clear HO167; clear BK152; clear HB; have HO_5 := n0_; have HO161 := n1_; have HO167 := n2_; have BK152 := n3_; have HB := n4_; have BK169 := n5_; have GW169 := n6_; have GE169 := n7_; have NB152_169 := n8_; have NB169_152 := n9_; clear n0_ n1_ n2_ n3_ n4_ n5_ n6_ n7_ n8_ n9_; clear hb hbox hg; have hnb30 := NB169_152.out; have hnc30 := NB152_169.out; have hcz31_0 : w29.cell? ⟨gb169, 0, none⟩ = some (.int .i64 0) := (blk_cell BK169.out 0).trans rfl; have hcz31_1 : w29.cell? ⟨gb169, 1, none⟩ = some (.int .i64 0) := (blk_cell BK169.out 1).trans rfl; have hcz31_2 : w29.cell? ⟨gb169, 2, none⟩ = some (.int .i64 0) := (blk_cell BK169.out 2).trans rfl; have hcz31_3 : w29.cell? ⟨gb169, 3, none⟩ = some (.slice none 0 0) := (blk_cell BK169.out 3).trans rfl; have hfz31_0 := blk_frozen BK169.out 0; have hfz31_1 := blk_frozen BK169.out 1; have hfz31_2 := blk_frozen BK169.out 2; have hfz31_3 := blk_frozen BK169.out 3; obtain ⟨Ao32, co32, eo32⟩ := Kd.R_slice HO167.out; subst eo32))
                              go_loopg [54] k2 (fun kq v54 w' => ∃ (x5_3 : List Bool) (x54_3 : Int), v54 = .int .i64 x54_3 ∧ Aside0 (term_Below.l1 kq a1 x5_3 y159 ji8 x30_2 t165 (t165.length : Int) x54_3 l0_0 l0_1 = some r) ∧ Aside0 (kq ≤ k2) ∧ Aside0 (Kd.R Kd.bool 4 w' w.heap.size (fun _ => True) (.slice (some ⟨go13, 0, none⟩) x5_2.length co13) x5_3) ∧ Aside0 (Kd.R (Kd.int .i64) 3 w' w.heap.size (fun k_ => some k_ ≠ ((.slice Ao32 t165.length co32) : Value).ownBlock ∧ some k_ ≠ ((.slice Ao32 t165.length co32) : Value).ownBlock) v160 y159) ∧ Aside0 (Kd.R (Kd.int .i64) 3 w' w.heap.size (fun k_ => some k_ ≠ (v160 : Value).ownBlock) (.slice Ao32 t165.length co32) t165) ∧ Aside0 (Kd.R (Kd.int .i64) 3 w' w.heap.size (fun k_ => some k_ ≠ (v160 : Value).ownBlock) (.slice Ao32 t165.length co32) t165) ∧ Aside0 (w'.heap[gb152]? = some (.cells #[(.slice A0_0 l0_0.length c0_0), (.slice A0_1 l0_1.length c0_1)] 26 (0, 0))) ∧ Aside0 (w'.heap[gb169]? = some (.cells #[.int .i64 t162, .int .i64 t163, .int .i64 t164, (.slice Ao32 t165.length co32)] 28 (0, 0))) ∧ Aside0 (Below w.heap.size w w'))
                              case atStart => exact ⟨(x5_2), (0), (by first | rfl | (simp; done) | (simp [*]; done)), H', ⟨Nat.le_refl _⟩, ⟨by (try simp only [hl5_2]); (with_reducible repeat (first | apply Kd.R_alloc | apply Kd.R_drewN | apply Kd.R_drew)); exact Kd.R_mono (Kd.R_far (p := ⟨gb169, 3, none⟩) (Kd.R_far (p := ⟨gb169, 2, none⟩) (Kd.R_far (p := ⟨gb169, 1, none⟩) (Kd.R_far (p := ⟨gb169, 0, none⟩) (Kd.R_types HO_5.out BK169.out (by decide)) (fun _ hk => hk.2) (.int .i64 t162)) (fun _ hk => hk.2) (.int .i64 t163)) (fun _ hk => hk.2) (.int .i64 t164)) (fun _ hk => hk.2) (.slice Ao32 t165.length co32)) (fun _ hk => trivial)⟩, ⟨by (try simp only [hl5_2]); (with_reducible repeat (first | apply Kd.R_alloc | apply Kd.R_drewN | apply Kd.R_drew)); exact Kd.R_mono (Kd.R_far (p := ⟨gb169, 3, none⟩) (Kd.R_far (p := ⟨gb169, 2, none⟩) (Kd.R_far (p := ⟨gb169, 1, none⟩) (Kd.R_far (p := ⟨gb169, 0, none⟩) (Kd.R_types HO161.out BK169.out (by decide)) (fun _ hk => hk.2) (.int .i64 t162)) (fun _ hk => hk.2) (.int .i64 t163)) (fun _ hk => hk.2) (.int .i64 t164)) (fun _ hk => hk.2) (.slice Ao32 t165.length co32)) (fun _ hk => ⟨hk.1.2, hk.1.2⟩)⟩, ⟨by (try simp only [hl5_2]); (with_reducible repeat (first | apply Kd.R_alloc | apply Kd.R_drewN | apply Kd.R_drew)); exact Kd.R_mono (Kd.R_far (p := ⟨gb169, 3, none⟩) (Kd.R_far (p := ⟨gb169, 2, none⟩) (Kd.R_far (p := ⟨gb169, 1, none⟩) (Kd.R_far (p := ⟨gb169, 0, none⟩) (Kd.R_types HO167.out BK169.out (by decide)) (fun _ hk => hk.2) (.int .i64 t162)) (fun _ hk => hk.2) (.int .i64 t163)) (fun _ hk => hk.2) (.int .i64 t164)) (fun _ hk => hk.2) (.slice Ao32 t165.length co32)) (fun _ hk => hk.1.2)⟩, ⟨by (try simp only [hl5_2]); (with_reducible repeat (first | apply Kd.R_alloc | apply Kd.R_drewN | apply Kd.R_drew)); exact Kd.R_mono (Kd.R_far (p := ⟨gb169, 3, none⟩) (Kd.R_far (p := ⟨gb169, 2, none⟩) (Kd.R_far (p := ⟨gb169, 1, none⟩) (Kd.R_far (p := ⟨gb169, 0, none⟩) (Kd.R_types HO167.out BK169.out (by decide)) (fun _ hk => hk.2) (.int .i64 t162)) (fun _ hk => hk.2) (.int .i64 t163)) (fun _ hk => hk.2) (.int .i64 t164)) (fun _ hk => hk.2) (.slice Ao32 t165.length co32)) (fun _ hk => hk.1.2)⟩, ⟨by (try simp only [hl5_2]); (with_reducible repeat (first | refine blk_drewN ?_ _ | refine blk_drew ?_ | refine blk_alloc ?_ _)); refine blk_far ?_ NB152_169.out _; (with_reducible repeat (first | refine blk_drewN ?_ _ | refine blk_drew ?_ | refine blk_alloc ?_ _)); refine blk_far ?_ NB152_169.out _; (with_reducible repeat (first | refine blk_drewN ?_ _ | refine blk_drew ?_ | refine blk_alloc ?_ _)); refine blk_far ?_ NB152_169.out _; (with_reducible repeat (first | refine blk_drewN ?_ _ | refine blk_drew ?_ | refine blk_alloc ?_ _)); refine blk_far ?_ NB152_169.out _; (with_reducible repeat (first | refine blk_drewN ?_ _ | refine blk_drew ?_ | refine blk_alloc ?_ _)); exact BK152.out⟩, ⟨by (try simp only [hl5_2]); (with_reducible repeat (first | refine blk_drewN ?_ _ | refine blk_drew ?_ | refine blk_alloc ?_ _)); refine blk_put (cs := #[.int .i64 t162, .int .i64 t163, .int .i64 t164, .slice none 0 0]) ?_ 3 _ rfl; (with_reducible repeat (first | refine blk_drewN ?_ _ | refine blk_drew ?_ | refine blk_alloc ?_ _)); refine blk_put (cs := #[.int .i64 t162, .int .i64 t163, .int .i64 0, .slice none 0 0]) ?_ 2 _ rfl; (with_reducible repeat (first | refine blk_drewN ?_ _ | refine blk_drew ?_ | refine blk_alloc ?_ _)); refine blk_put (cs := #[.int .i64 t162, .int .i64 0, .int .i64 0, .slice none 0 0]) ?_ 1 _ rfl; (with_reducible repeat (first | refine blk_drewN ?_ _ | refine blk_drew ?_ | refine blk_alloc ?_ _)); refine blk_put (cs := #[.int .i64 0, .int .i64 0, .int .i64 0, .slice none 0 0]) ?_ 0 _ rfl; (with_reducible repeat (first | refine blk_drewN ?_ _ | refine blk_drew ?_ | refine blk_alloc ?_ _)); exact BK169.out⟩, ⟨by repeat (first | (with_reducible first | exact HB.out | apply below_alloc | apply pw_below_drewN | apply below_drew1 | refine below_set ?_ GE152.out | refine below_set ?_ GE169.out) | exact HB.out)⟩⟩
                              case round =>
                                clear H'
                                try clear c1
                                try clear p1
                                try clear q1
                                try clear hx1
                                try clear c2
                                try clear p2
                                try clear q2
                                try clear c3
                                try clear c5
                                try clear c5b0
                                try clear p6
                                try clear c7
                                try clear c9
                                try clear c9b0
                                try clear c9b1
                                try clear c10
                                try clear c10b0
                                try clear c10b1
                                try clear c11
                                try clear c11b0
                                try clear c12
                                try clear c12b0
                                try clear c13
                                try clear p13
                                try clear q13
                                try clear hx13
                                try clear hf13
                                try clear p15
                                try clear q15
                                try clear hx15
                                try clear c18
                                try clear c18b0
                                try clear c20
                                try clear c20b0
                                try clear c21
                                try clear c21b0
                                try clear q22
                                try clear c23
                                try clear c24
                                try clear c30
                                try clear hcz27_0
                                try clear hcz27_1
                                try clear hcz31_0
                                try clear hcz31_1
                                try clear hcz31_2
                                try clear hcz31_3
                                try clear hcz6_0
                                try clear hcz6_1
                                try clear hfz27_0
                                try clear hfz27_1
                                try clear hfz31_0
                                try clear hfz31_1
                                try clear hfz31_2
                                try clear hfz31_3
                                try clear hfz6_0
                                try clear hfz6_1
                                try clear hx13_0
                                try clear hx158_0
                                try clear p1
                                try clear p13
                                try clear p158
                                try clear p2
                                try clear p6
                                try clear q1
                                try clear q13
                                try clear q158
                                obtain ⟨x5_3, x54_3, rfl, HA, HK3, HO_5, HO_6, HO_52, HO_170003, BK152, BK169, HB⟩ := hrel
                                have hl5_3 := (Kd.R_reads' HO_5.out).1
                                rw [hl5_3] at HO_5
                                (try simp only [hl5_3])
                                (try simp only [hl5_3] at BK152)
                                (try simp only [hl5_3] at BK169)
                                (try simp only [hl5_3] at HO_6)
                                (try simp only [hl5_3] at HO_52)
                                (try simp only [hl5_3] at HO_170003)
                                cases gk with
                                | zero => exact absurd HA.out (by simp [term_Below.l1])
                                | succ k3 =>
                                  have H := HA.out
                                  clear HA
                                  simp only [term_Below.l1] at H
                                  by_cases c33 : x54_3 < (t165.length : Int)
                                  · rw [if_pos c33] at H
                                    have c33b0 : decide (x54_3 < (t165.length : Int)) = true := decide_eq_true c33
                                    clear c33
                                    by_cases c34 : 0 ≤ x54_3
                                    · rw [if_pos c34] at H
                                      have c34b0 : decide (0 ≤ x54_3) = true := decide_eq_true c34
                                      clear c34
                                      by_cases c35 : x54_3 < (t165.length : Int)
                                      · rw [if_pos c35] at H
                                        have c35b0 : decide (x54_3 < (t165.length : Int)) = true := decide_eq_true c35
                                        clear c35
                                        by_cases c36 : 0 ≤ (rd t165 x54_3)
                                        · rw [if_pos c36] at H
                                          have c36b0 : decide (0 ≤ (rd t165 x54_3)) = true := decide_eq_true c36
                                          clear c36
                                          by_cases c37 : (rd t165 x54_3) < (x5_3.length : Int)
                                          · rw [if_pos c37] at H
                                            have c37b0 : decide ((rd t165 x54_3) < (x5_3.length : Int)) = true := decide_eq_true c37
                                            clear c37
                                            obtain ⟨y171, hy171⟩ : ∃ y_ : List Bool, y_ = (x5_3.set ((rd t165 x54_3) : Int).toNat true) := ⟨_, rfl⟩
                                            replace H : (term_Below.l1 k3 a1 y171 y159 ji8 x30_2 t165 (t165.length : Int) (wrap64 (x54_3 + 1)) l0_0 l0_1) = some r := by first | (rw [hy171]; with_reducible exact H) | (have H2_ := (Option.bind_some _ _).symm.trans H; rw [hy171]; with_reducible exact H2_) | (have H2_ := (Option.bind_some _ _).symm.trans H; with_reducible exact H2_) | with_reducible exact H | (rw [hy171]; exact H) | exact H
                                            have Ny171 := Aside0.mk hy171
                                            clear hy171
                                            have H' := Aside0.mk H
                                            clear H
                                            have p170 : 0 ≤ (x54_3 : Int) := of_decide_eq_true (by first | (with_reducible assumption) | assumption)
                                            have q170 : x54_3 < (t165.length : Int) := of_decide_eq_true (by first | (with_reducible assumption) | assumption)
                                            obtain ⟨ad170, e170, hx170_0⟩ := Kd.at_int (Kd.R_reads' HO_52.out).2.2 x54_3 p170 q170
                                            cases e170
                                            replace p170 := eq_true p170
                                            replace q170 := eq_true q170
                                            have p38 : 0 ≤ ((rd t165 x54_3) : Int) := of_decide_eq_true (by first | (with_reducible assumption) | assumption)
                                            have q38 : ((rd t165 x54_3) : Int) < ((x5_3.length : Int) : Int) := of_decide_eq_true (by first | (with_reducible assumption) | assumption)
                                            obtain ⟨hx38_0, hf38_0⟩ := Kd.R_celln false HO_5.out ((rd t165 x54_3) : Int) p38 q38
                                            replace p38 := eq_true p38
                                            replace q38 := eq_true q38
                                            have HP39 := Kd.R_putg HO_5.out ((rd t165 x54_3) : Int) true
                                            go_wp2_with (first | ((with_reducible refine gate_store (t := 4) (p := 60) rfl ?_); refine store_event (t := 4) (p := 60) (v := ?vo_w40) (w1 := (wr.setCell ⟨go13, ((rd t165 x54_3) : Int).toNat, none⟩ (.bool true))) ?hg ?ho ?hn ?hr ?_; (case ho => rfl); (case hg => rfl); (case hn => rfl); (case hr => first | (go_simp; done) | (go_simp; rfl)); intro w40 hw; have hg : wr.grownBy w40 (some go13) := (by rw [hw]; exact HP39.2); have hp_ : Kd.R Kd.bool 4 w40 w.heap.size (fun _ => True) (.slice (some ⟨go13, 0, none⟩) x5_3.length co13) y171 := (by rw [hw, Ny171.out]; exact HP39.1); clear HP39; have n0_ := Aside0.mk (hp_); have n1_ := Aside0.mk (Kd.R_over' (v := (.slice (some ⟨go13, 0, none⟩) x5_3.length co13)) (by (with_reducible repeat (first | apply Kd.R_alloc | apply Kd.R_drewN | apply Kd.R_drew)); exact HO_6.out) (Kd.R_typed HO_5.out) (by decide) hg); have n2_ := Aside0.mk (Kd.R_over' (v := (.slice (some ⟨go13, 0, none⟩) x5_3.length co13)) (by (with_reducible repeat (first | apply Kd.R_alloc | apply Kd.R_drewN | apply Kd.R_drew)); exact HO_52.out) (Kd.R_typed HO_5.out) (by decide) hg); have n3_ := Aside0.mk (Kd.R_over' (v := (.slice (some ⟨go13, 0, none⟩) x5_3.length co13)) (by (with_reducible repeat (first | apply Kd.R_alloc | apply Kd.R_drewN | apply Kd.R_drew)); exact HO_170003.out) (Kd.R_typed HO_5.out) (by decide) hg); have n4_ := Aside0.mk (blk_grown (g := gb152) (o := .cells #[.slice A0_0 l0_0.length c0_0, .slice A0_1 l0_1.length c0_1] 26 (0, 0)) (by (with_reducible repeat (first | refine blk_drewN ?_ _ | refine blk_drew ?_ | refine blk_alloc ?_ _)); exact BK152.out) hg (Kd.R_ne HO_5.out BK152.out (by decide))); have n5_ := Aside0.mk (blk_grown (g := gb169) (o := .cells #[.int .i64 t162, .int .i64 t163, .int .i64 t164, .slice (some ad170) t165.length co32] 28 (0, 0)) (by (with_reducible repeat (first | refine blk_drewN ?_ _ | refine blk_drew ?_ | refine blk_alloc ?_ _)); exact BK169.out) hg (Kd.R_ne HO_5.out BK169.out (by decide))); have n6_ := Aside0.mk ((by rw [hw]; exact below_set (HB.out) GB13.out : Below w.heap.size w w40)); clear HO_5; clear HO_6; clear HO_52; clear HO_170003; clear BK152; clear BK169; clear HB; have HO_5 := n0_; have HO_6 := n1_; have HO_52 := n2_; have HO_170003 := n3_; have BK152 := n4_; have BK169 := n5_; have HB := n6_; clear n0_ n1_ n2_ n3_ n4_ n5_ n6_; clear hg hw hp_))
                                            (try simp only [← hl5_3])
                                            go_roundg k3
                                            case measure => have := HJ2.out; have := HK2.out; have := HK3.out; omega
                                            case rel => exact ⟨(y171), (wrap64 (x54_3 + 1)), (by first | rfl | (simp; done) | (simp [*]; done)), H', ⟨by have := HJ2.out; have := HK2.out; have := HK3.out; omega⟩, ⟨by (try simp only [hl5_2]); (try simp only [hl5_3]); (with_reducible repeat (first | apply Kd.R_alloc | apply Kd.R_drewN | apply Kd.R_drew)); exact HO_5.out⟩, ⟨by (try simp only [hl5_2]); (try simp only [hl5_3]); (with_reducible repeat (first | apply Kd.R_alloc | apply Kd.R_drewN | apply Kd.R_drew)); exact HO_6.out⟩, ⟨by (try simp only [hl5_2]); (try simp only [hl5_3]); (with_reducible repeat (first | apply Kd.R_alloc | apply Kd.R_drewN | apply Kd.R_drew)); exact HO_52.out⟩, ⟨by (try simp only [hl5_2]); (try simp only [hl5_3]); (with_reducible repeat (first | apply Kd.R_alloc | apply Kd.R_drewN | apply Kd.R_drew)); exact HO_170003.out⟩, ⟨by (try simp only [hl5_2]); (try simp only [hl5_3]); (with_reducible repeat (first | refine blk_drewN ?_ _ | refine blk_drew ?_ | refine blk_alloc ?_ _)); exact BK152.out⟩, ⟨by (try simp only [hl5_2]); (try simp only [hl5_3]); (with_reducible repeat (first | refine blk_drewN ?_ _ | refine blk_drew ?_ | refine blk_alloc ?_ _)); exact BK169.out⟩, ⟨by repeat (first | (with_reducible first | exact HB.out | apply below_alloc | apply pw_below_drewN | apply below_drew1 | refine below_set ?_ GE152.out | refine below_set ?_ GE169.out) | exact HB.out)⟩⟩
                                          · rw [if_neg c37] at H
                                            exact absurd H (by simp)
                                        · rw [if_neg c36] at H
                                          exact absurd H (by simp)
                                      · rw [if_neg c35] at H
                                        exact absurd H (by simp)
                                    · rw [if_neg c34] at H
                                      exact absurd H (by simp)
                                  · rw [if_neg c33] at H
                                    have c33b0 : decide (x54_3 < (t165.length : Int)) = false := decide_eq_false c33
                                    clear c33
                                    have H' := Aside0.mk H
                                    clear H
                                    go_wp2
                                    (try simp only [← hl5_2, ← hl5_3])
                                    go_roundg k3
                                    case measure => have := HJ2.out; have := HK2.out; have := HK3.out; omega
                                    case rel => exact ⟨(x5_3), (y159), (wrap64 (x30_2 + 1)), (by first | rfl | (simp; done) | (simp [*]; done)), H', ⟨by have := HJ2.out; have := HK2.out; have := HK3.out; omega⟩, ⟨by (try simp only [hl5_2]); (try simp only [hl5_3]); (with_reducible repeat (first | apply Kd.R_alloc | apply Kd.R_drewN | apply Kd.R_drew)); exact HO_5.out⟩, ⟨by (try simp only [hl5_2]); (try simp only [hl5_3]); (with_reducible repeat (first | apply Kd.R_alloc | apply Kd.R_drewN | apply Kd.R_drew)); exact Kd.R_mono HO_6.out (fun _ hk => trivial)⟩, ⟨by (try simp only [hl5_2]); (try simp only [hl5_3]); (with_reducible repeat (first | refine blk_drewN ?_ _ | refine blk_drew ?_ | refine blk_alloc ?_ _)); exact BK152.out⟩, ⟨by repeat (first | (with_reducible first | exact HB.out | apply below_alloc | apply pw_below_drewN | apply below_drew1 | refine below_set ?_ GE152.out | refine below_set ?_ GE169.out) | exact HB.out)⟩⟩
                            · rw [if_neg c24] at H
                              exact absurd H (by simp)
                          · replace c23 := Bool.eq_false_iff.mpr c23
                            subst c23
                            have H1 : (term_Below.l0 k2 a1 x5_2 x6_2 ji8 (wrap64 (x30_2 + 1)) l0_0 l0_1) = some r := by rw [if_neg (show ¬ (false = true) by decide)] at H; exact H
                            clear H
                            have H := H1
                            clear H1
                            have H' := Aside0.mk H
                            clear H
                            have p158 : 0 ≤ ((ji19) : Int) := of_decide_eq_true (by first | (with_reducible assumption) | assumption)
                            have q158 : (ji19) < (x5_2.length : Int) := of_decide_eq_true (by first | (with_reducible assumption) | assumption)
                            obtain ⟨ad158, e158, hx158_0⟩ := Kd.at_bool (Kd.R_reads' HO_5.out).2.2 (ji19) p158 q158
                            (try rw [← Nbq22.out] at hx158_0)
                            obtain rfl : (⟨go13, 0, none⟩ : Addr) = ad158 := (by injection e158)
                            (first | simp only [add_plain] at hx158_0 | simp only [add_at] at hx158_0 | simp only [Addr.add, Nat.zero_add] at hx158_0 | skip)
                            replace p158 := eq_true p158
                            replace q158 := eq_true q158
                            go_wp2
                            (try simp only [← hl5_2])
                            go_roundg k2
                            case measure => have := HJ2.out; have := HK2.out; omega
                            case rel => exact ⟨(x5_2), (x6_2), (wrap64 (x30_2 + 1)), (by first | rfl | (simp; done) | (simp [*]; done)), H', ⟨by have := HJ2.out; have := HK2.out; omega⟩, ⟨by (try simp only [hl5_2]); (with_reducible repeat (first | apply Kd.R_alloc | apply Kd.R_drewN | apply Kd.R_drew)); exact HO_5.out⟩, ⟨by (try simp only [hl5_2]); (with_reducible repeat (first | apply Kd.R_alloc | apply Kd.R_drewN | apply Kd.R_drew)); exact HO_6.out⟩, ⟨by (try simp only [hl5_2]); (with_reducible repeat (first | refine blk_drewN ?_ _ | refine blk_drew ?_ | refine blk_alloc ?_ _)); exact BK152.out⟩, ⟨by repeat (first | (with_reducible first | exact HB.out | apply below_alloc | apply pw_below_drewN | apply below_drew1 | refine below_set ?_ GE152.out) | exact HB.out)⟩⟩
                        · rw [if_neg c21] at H
                          exact absurd H (by simp)
                      · rw [if_neg c20] at H
                        exact absurd H (by simp)
                    · rw [if_neg c18] at H
                      have c18b0 : decide (x30_2 < ji8) = false := decide_eq_false c18
                      clear c18
                      replace H := Option.bind_eq_some_iff.mp H
                      obtain ⟨t157, A410, H⟩ := H
                      replace H : (some t157) = some r := H
                      have A41 := Aside0.mk A410
                      clear A410
                      obtain rfl := Option.some.inj H
                      obtain ⟨Ao42, co42, eo42⟩ := Kd.R_slice HO_6.out
                      subst eo42
                      go_wp2_with (first | ((with_reducible refine gate_callee (f := 27) rfl ?_); refine goesL_ (some 64) rfl rfl Try.func27 (by kernel_rfl) rfl #[.slice Ao42 x6_2.length co42] rfl (by (try simp only [List.map_toArray, List.map_cons, List.map_nil]); first | done | rfl | (simp only [List.length_drop, List.length_take]; rfl)) ?_; (with_reducible refine (slices_Reverse_int_int.calls k2 (fun k_ => some k_ = (.slice Ao42 x6_2.length co42 : Value).ownBlock) (.slice Ao42 x6_2.length co42) x6_2 t157 w _ ?side1 ?side2 A41.out).mono ?_); (case side1 => repeat (first | (with_reducible first | exact HB.out | apply below_alloc | apply pw_below_drewN | apply below_drew1 | refine below_set ?_ GE152.out) | exact HB.out)); (case side2 => exact Kd.R_tight rfl HO_6.out); rintro e w43 ⟨rfl, hy0, hb, hkp⟩; refine ⟨_, rfl, ?_⟩; have n0_ := Aside0.mk (Kd.R_mono (ok' := fun k_ => True) (Kd.R_keptB ((Kd.R_apart' HO_5.out (Kd.R_typed HO_6.out) (by decide))) hkp (fun k_ hk_ hs_ => (hk_.2) hs_)) (fun k_ hk_ => trivial)); have n1_ := Aside0.mk (Kd.R_reok rfl hy0 (fun k_ e_ => HO_6.out.1 k_ e_)); have n2_ := Aside0.mk (blk_kept (by (with_reducible repeat (first | refine blk_drewN ?_ _ | refine blk_drew ?_ | refine blk_alloc ?_ _)); exact BK152.out) hkp (fun hs_ => (fun e_ => (Kd.R_ne HO_6.out BK152.out (by decide)) e_) hs_)); have n3_ := Aside0.mk (hb); clear HO_5; clear HO_6; clear BK152; clear HB; have HO_5 := n0_; have HO_6 := n1_; have BK152 := n2_; have HB := n3_; clear n0_ n1_ n2_ n3_; (try clear hb); (try clear hkp); (try clear hy0)))
                      go_ret
                      exact ⟨_, by first | rfl | (simp [errW_none, errW_some] <;> rfl) | (simp only [← hji8]; first | rfl | (simp [errW_none, errW_some] <;> rfl)) | (simp [*, errW_none, errW_some] <;> rfl), by (with_reducible repeat (first | apply Kd.R_alloc | apply Kd.R_drewN | apply Kd.R_drew)); exact HO_6.out, by repeat (first | (with_reducible first | exact HB.out | apply below_alloc | apply pw_below_drewN | apply below_drew1 | refine below_set ?_ GE152.out) | exact HB.out)⟩
              · rw [if_neg c12] at H
                exact absurd H (by simp)
            · rw [if_neg c11] at H
              exact absurd H (by simp)
          · rw [if_neg c10] at H
            exact absurd H (by simp)
        · rw [if_neg c9] at H
          exact absurd H (by simp)

-- NOT PRINTED: function 14 (term_New)

/-! ### hash_Right: function 32 -/
def hash_Right.l0 : Nat → List (List Int) → Int → Int → List (List Int) → List Int → Option (Bool)
  | 0, _, _, _, _, _ => none
  | k + 1, x13, x14, x15, x185000, x185001 => if x15 < x14 then (if 0 ≤ x15 then (if x15 < (x13.length : Int) then ((hash_Find.f k x185000 x185001 (rd_L4 x13 x15)).bind fun t190 => (if t190 = x15 then (hash_Right.l0 k x13 x14 (wrap64 (x15 + 1)) x185000 x185001) else (some false))) else (none)) else (none)) else (some true)
def hash_Right.f (k : Nat) (l0_0 : List (List Int)) (l0_1 : List Int) : Option (Bool) := (hash_Lay.f k l0_0).bind fun t185 => ((slices_Equal_int_int.f k l0_1 t185).bind fun t188 => (if t188 = true then (hash_Right.l0 k l0_0 (l0_0.length : Int) 0 l0_0 l0_1) else (some false)))
theorem hash_Right.mono_l : ∀ k, (∀ y0 y1 y2 y3 y4, LeO (hash_Right.l0 k y0 y1 y2 y3 y4) (hash_Right.l0 (k + 1) y0 y1 y2 y3 y4))
  | 0 => fun _ _ _ _ _ r h => by simp [hash_Right.l0] at h
  | k + 1 => by
    have ih0 := hash_Right.mono_l k
    · intro y0 y1 y2 y3 y4
      unfold hash_Right.l0
      repeat' first
      | (with_reducible exact ih0 _ _ _ _ _)
      | (with_reducible exact hash_Find.mono _ _ _ _)
      | (with_reducible exact hash_Lay.mono _ _)
      | (with_reducible exact slices_Equal_int_int.mono _ _ _)
      | (with_reducible exact LeO.refl _)
      | (with_reducible exact LeO.none _)
      | (with_reducible refine LeO.ite ?_ ?_)
      | (with_reducible refine LeO.bind ?_ (fun _ => ?_))
      | exact ih0 _ _ _ _ _
      | exact hash_Find.mono _ _ _ _
      | exact hash_Lay.mono _ _
      | exact slices_Equal_int_int.mono _ _ _
      | exact LeO.none _
      | refine LeO.ite ?_ ?_
      | refine LeO.bind ?_ (fun _ => ?_)
theorem hash_Right.mono : ∀ a0 a1 k, LeO (hash_Right.f k a0 a1) (hash_Right.f (k + 1) a0 a1) := by
  intro a0 a1 k
  have ih0 := hash_Right.mono_l k
  unfold hash_Right.f
  repeat' first
      | (with_reducible exact ih0 _ _ _ _ _)
      | (with_reducible exact hash_Find.mono _ _ _ _)
      | (with_reducible exact hash_Lay.mono _ _)
      | (with_reducible exact slices_Equal_int_int.mono _ _ _)
      | (with_reducible exact LeO.refl _)
      | (with_reducible exact LeO.none _)
      | (with_reducible refine LeO.ite ?_ ?_)
      | (with_reducible refine LeO.bind ?_ (fun _ => ?_))
      | exact ih0 _ _ _ _ _
      | exact hash_Find.mono _ _ _ _
      | exact hash_Lay.mono _ _
      | exact slices_Equal_int_int.mono _ _ _
      | exact LeO.none _
      | refine LeO.ite ?_ ?_
      | refine LeO.bind ?_ (fun _ => ?_)
set_option maxHeartbeats 8000000 in
set_option maxRecDepth 100000 in
theorem hash_Right.calls (k : Nat) (A0_0 : Option Addr) (c0_0 : Nat) (l0_0 : List (List Int)) (A0_1 : Option Addr) (c0_1 : Nat) (l0_1 : List Int) (r : Bool) (w : World) (hr0_0 : Kd.C (Kd.slice 3 (Kd.int .i64)) w A0_0 l0_0.length l0_0) (hc0_0 : l0_0.length ≤ c0_0) (hr0_1 : Kd.C (Kd.int .i64) w A0_1 l0_1.length l0_1) (hc0_1 : l0_1.length ≤ c0_1) (h : hash_Right.f k l0_0 l0_1 = some r) :
    Calls Try.prog 32 #[.agg #[.slice A0_0 l0_0.length c0_0, .slice A0_1 l0_1.length c0_1]] w fun e w' => e = .returned (.bool r) ∧ Below w.heap.size w w' := by
  have hu26 := Try.underlying26
  have HR0_0 := Aside0.mk hr0_0
  have HC0_0 := Aside0.mk hc0_0
  clear hr0_0 hc0_0
  have HR0_1 := Aside0.mk hr0_1
  have HC0_1 := Aside0.mk hc0_1
  clear hr0_1 hc0_1
  have HB := Aside0.mk (Below.refl w.heap.size w)
  have H : ((hash_Lay.f k l0_0).bind fun t185 => ((slices_Equal_int_int.f k l0_1 t185).bind fun t188 => (if t188 = true then (hash_Right.l0 k l0_0 (l0_0.length : Int) 0 l0_0 l0_1) else (some false)))) = some r := h
  clear h
  replace H := Option.bind_eq_some_iff.mp H
  obtain ⟨t185, A20, H⟩ := H
  replace H : ((slices_Equal_int_int.f k l0_1 t185).bind fun t188 => (if t188 = true then (hash_Right.l0 k l0_0 (l0_0.length : Int) 0 l0_0 l0_1) else (some false))) = some r := H
  have A2 := Aside0.mk A20
  clear A20
  replace H := Option.bind_eq_some_iff.mp H
  obtain ⟨t188, A30, H⟩ := H
  replace H : (if t188 = true then (hash_Right.l0 k l0_0 (l0_0.length : Int) 0 l0_0 l0_1) else (some false)) = some r := H
  have A3 := Aside0.mk A30
  clear A30
  by_cases c4 : t188 = true
  · subst c4
    have H1 : (hash_Right.l0 k l0_0 (l0_0.length : Int) 0 l0_0 l0_1) = some r := by rw [if_pos rfl] at H; exact H
    clear H
    have H := H1
    clear H1
    have H' := Aside0.mk H
    clear H
    go_enter Try.func32, Try.ntmps32
    try go_wp2_with (first | ((with_reducible refine gate_dst (N := 1) rfl ?_); refine box_event ?hg (N := 1) ?hd (cs := #[.slice A0_0 l0_0.length c0_0, .slice A0_1 l0_1.length c0_1]) (t := 26) ?hr ?_; (case hd => rfl); (case hg => rfl); (case hr => first | (go_simp; done) | (go_simp; rfl)); intro gb184 hg w5 hbox hb; have n0_ := Aside0.mk (below_step (by repeat (first | (with_reducible first | exact HB.out | apply below_alloc | apply pw_below_drewN | apply below_drew1) | exact HB.out)) hb); have n1_ := Aside0.mk (hbox); have n2_ := Aside0.mk ((by rw [hg]; exact (below_size (by repeat (first | (with_reducible first | exact HB.out | apply below_alloc | apply pw_below_drewN | apply below_drew1) | exact HB.out))) : w.heap.size ≤ gb184)); have n3_ := Aside0.mk ((by rw [hg]; exact (below_size (by repeat (first | (with_reducible first | exact HB.out | apply below_alloc | apply pw_below_drewN | apply below_drew1) | exact HB.out))) : w.heap.size ≤ gb184)); clear HB; have HB := n0_; have BK184 := n1_; have GW184 := n2_; have GE184 := n3_; clear n0_ n1_ n2_ n3_; clear hb hbox hg))
    have n0_ := Aside0.mk (blk_drew BK184.out)
    have n1_ := Aside0.mk (below_drew1 HB.out)
    clear BK184
    clear HB
    have BK184 := n0_
    have HB := n1_
    clear n0_ n1_
    refine start_ (n := 7) (S := fun w' => w'.cell? ⟨gb184, 0, none⟩ = some (.slice A0_0 l0_0.length c0_0) ∧ w'.cell? ⟨gb184, 1, none⟩ = some (.slice A0_1 l0_1.length c0_1)) (ds := []) #[false, false, false, false, false, false, false] (by kernel_rfl) rfl rfl ⟨(blk_cell BK184.out 0).trans rfl, (blk_cell BK184.out 1).trans rfl⟩ (fun hHeld => ?_)
    generalize w5.drew = w6 at BK184 HB hHeld ⊢
    refine pure_ (i := 0) (N := some 5) (v := ?_) (a' := ?_) #[true, false, false, false, false, false, false] rfl rfl (by kernel_rfl) (fun _ _ _ h => h) (Or.inl ⟨by rfl, ?_⟩) ?_ ?_
    rotate_left
    · intro w'
      go_simp
      with_reducible rfl
    rotate_left
    · simp only [Act.put, List.setIfInBounds_toArray, List.set_cons_zero, List.set_cons_succ, i64_w, i32_w]
      rfl
    refine pure_ (i := 2) (N := some 7) (v := ?_) (a' := ?_) #[true, false, true, false, false, false, false] rfl rfl (by kernel_rfl) (fun _ _ _ h => h) (Or.inl ⟨by rfl, ?_⟩) ?_ ?_
    rotate_left
    · intro w'
      go_simp
      with_reducible rfl
    rotate_left
    · simp only [Act.put, List.setIfInBounds_toArray, List.set_cons_zero, List.set_cons_succ, i64_w, i32_w]
      rfl
    refine take_ (i := 1) (N := some 6) (v := ?_) (a' := ?_) #[true, true, true, false, false, false, false] rfl rfl (by kernel_rfl) (fun _ _ _ h => h) (Or.inl ⟨by rfl, ?_⟩) hHeld ?_ ?_
    rotate_left
    · rintro w' ⟨s0, s1⟩
      go_simp
      with_reducible rfl
    rotate_left
    · simp only [Act.put, List.setIfInBounds_toArray, List.set_cons_zero, List.set_cons_succ, i64_w, i32_w]
      rfl
    refine take_ (i := 3) (N := some 8) (v := ?_) (a' := ?_) #[true, true, true, true, false, false, false] rfl rfl (by kernel_rfl) (fun _ _ _ h => h) (Or.inl ⟨by rfl, ?_⟩) hHeld ?_ ?_
    rotate_left
    · rintro w' ⟨s0, s1⟩
      go_simp
      with_reducible rfl
    rotate_left
    · simp only [Act.put, List.setIfInBounds_toArray, List.set_cons_zero, List.set_cons_succ, i64_w, i32_w]
      rfl
    refine one_ (i := 4) (N := some 9) #[true, true, true, true, true, false, false] rfl rfl (by kernel_rfl) (by decide) (fun K hK => ?_)
    refine goes_ Try.func31 (by kernel_rfl) rfl #[.slice A0_0 l0_0.length c0_0] (by rfl) rfl rfl (by (try simp only [List.map_toArray, List.map_cons, List.map_nil]); first | done | rfl | (simp only [List.length_drop, List.length_take]; rfl)) ?_
    with_reducible refine (hash_Lay.calls k _ _ l0_0 t185 _ ?side1 ?side2 A2.out).mono ?_
    (case side1 => repeat (first | exact (Kd.C_below HR0_0.out HB.out) | (with_reducible refine Kd.C_alloc ?_ _) | (with_reducible refine Kd.C_drewN ?_ _) | (with_reducible refine Kd.C_drew ?_)))
    (case side2 => exact HC0_0.out)
    rintro e w7 ⟨v186, rfl, ho0, hb⟩
    refine ⟨_, rfl, ?_⟩
    have n0_ := Aside0.mk (Kd.R_lower ho0 (below_size (by repeat (first | (with_reducible first | exact HB.out | apply below_alloc | apply pw_below_drewN | apply below_drew1 | refine below_set ?_ GE184.out) | exact HB.out))))
    have n1_ := Aside0.mk (blk_below (g := gb184) (o := .cells #[.slice A0_0 l0_0.length c0_0, .slice A0_1 l0_1.length c0_1] 26 (0, 0)) (by (with_reducible repeat (first | refine blk_drewN ?_ _ | refine blk_drew ?_ | refine blk_alloc ?_ _)); exact BK184.out) hb)
    have n2_ := Aside0.mk (below_step (by repeat (first | (with_reducible first | exact HB.out | apply below_alloc | apply pw_below_drewN | apply below_drew1 | refine below_set ?_ GE184.out) | exact HB.out)) hb)
    clear BK184
    clear HB
    have HO187 := n0_
    have BK184 := n1_
    have HB := n2_
    clear n0_ n1_ n2_
    (try clear hb)
    (try clear hb2)
    (try clear hk)
    (try clear hi)
    (try clear ho0)
    obtain ⟨Ao8, co8, eo8⟩ := Kd.R_slice HO187.out
    (first | subst eo8 | (injection eo8 with f1_ f2_ f3_; have f4_ := f1_.symm; have f5_ := f3_.symm; clear f1_ f2_ f3_; subst f4_; subst f5_))
    refine hK.out _ _ ⟨(blk_cell BK184.out 0).trans rfl, (blk_cell BK184.out 1).trans rfl⟩ (fun hHeld => ?_)
    clear hK K
    refine norm_ (a' := ?_) ?_ ?_
    rotate_left
    · show Act.put _ (some 9) _ = _
      simp only [Act.put, List.setIfInBounds_toArray, List.set_cons_zero, List.set_cons_succ, i64_w, i32_w]
      rfl
    refine one_ (i := 5) (N := some 10) #[true, true, true, true, true, true, false] rfl rfl (by kernel_rfl) (by decide) (fun K hK => ?_)
    refine goes_ Try.func45 (by kernel_rfl) rfl #[.slice A0_1 l0_1.length c0_1, .slice Ao8 t185.length co8] (by rfl) rfl rfl (by (try simp only [List.map_toArray, List.map_cons, List.map_nil]); first | done | rfl | (simp only [List.length_drop, List.length_take]; rfl)) ?_
    with_reducible refine (slices_Equal_int_int.calls k _ _ l0_1 _ _ t185 true _ ?side1 ?side2 ?side3 ?side4 A3.out).mono ?_
    (case side1 => repeat (first | exact (Kd.C_below HR0_1.out HB.out) | (with_reducible refine Kd.C_alloc ?_ _) | (with_reducible refine Kd.C_drewN ?_ _) | (with_reducible refine Kd.C_drew ?_)))
    (case side2 => exact HC0_1.out)
    (case side3 => repeat (first | exact (Kd.R_reads' HO187.out).2.2 | (with_reducible refine Kd.C_alloc ?_ _) | (with_reducible refine Kd.C_drewN ?_ _) | (with_reducible refine Kd.C_drew ?_)))
    (case side4 => exact (Kd.R_reads' HO187.out).2.1)
    rintro e w' ⟨rfl, ⟨nd, rfl⟩⟩
    refine ⟨_, rfl, ?_⟩
    refine hK.out _ _ ⟨(blk_cell BK184.out 0).trans rfl, (blk_cell BK184.out 1).trans rfl⟩ (fun hHeld => ?_)
    clear hK K
    refine norm_ (a' := ?_) ?_ ?_
    rotate_left
    · show Act.put _ (some 10) _ = _
      simp only [Act.put, List.setIfInBounds_toArray, List.set_cons_zero, List.set_cons_succ, i64_w, i32_w]
      rfl
    refine pure_ (i := 6) (N := some 11) (v := ?_) (a' := ?_) #[true, true, true, true, true, true, true] rfl rfl (by kernel_rfl) (fun _ _ _ h => h) (Or.inl ⟨by rfl, ?_⟩) ?_ ?_
    rotate_left
    · intro w'
      go_simp
      with_reducible rfl
    rotate_left
    · simp only [Act.put, List.setIfInBounds_toArray, List.set_cons_zero, List.set_cons_succ, i64_w, i32_w]
      rfl
    refine done_ (by kernel_rfl) ?_
    have hcz9_0 : w7.cell? ⟨gb184, 0, none⟩ = some (.slice A0_0 l0_0.length c0_0) := (blk_cell BK184.out 0).trans rfl
    have hcz9_1 : w7.cell? ⟨gb184, 1, none⟩ = some (.slice A0_1 l0_1.length c0_1) := (blk_cell BK184.out 1).trans rfl
    have hfz9_0 := blk_frozen BK184.out 0
    have hfz9_1 := blk_frozen BK184.out 1
    try go_wp2
    go_loopg [15] k (fun kq v15 w' => ∃ (x15_1 : Int), v15 = .int .i64 x15_1 ∧ Aside0 (hash_Right.l0 kq l0_0 (l0_0.length : Int) x15_1 l0_0 l0_1 = some r) ∧ Aside0 (kq ≤ k) ∧ Aside0 (w'.heap[gb184]? = some (.cells #[(.slice A0_0 l0_0.length c0_0), (.slice A0_1 l0_1.length c0_1)] 26 (0, 0))) ∧ Aside0 (Below w.heap.size w w'))
    case atStart => exact ⟨(0), (by first | rfl | (simp; done) | (simp [*]; done)), H', ⟨Nat.le_refl _⟩, ⟨by (with_reducible repeat (first | refine blk_drewN ?_ _ | refine blk_drew ?_ | refine blk_alloc ?_ _)); exact BK184.out⟩, ⟨by repeat (first | (with_reducible first | exact HB.out | apply below_alloc | apply pw_below_drewN | apply below_drew1 | refine below_set ?_ GE184.out) | exact HB.out)⟩⟩
    case round =>
      clear H'
      try clear p2
      try clear c3
      try clear c4
      try clear hcz9_0
      try clear hcz9_1
      try clear hfz9_0
      try clear hfz9_1
      obtain ⟨x15_1, rfl, HA, HK1, BK184, HB⟩ := hrel
      cases gk with
      | zero => exact absurd HA.out (by simp [hash_Right.l0])
      | succ k1 =>
        have H := HA.out
        clear HA
        simp only [hash_Right.l0] at H
        by_cases c10 : x15_1 < (l0_0.length : Int)
        · rw [if_pos c10] at H
          have c10b0 : decide (x15_1 < (l0_0.length : Int)) = true := decide_eq_true c10
          clear c10
          by_cases c11 : 0 ≤ x15_1
          · rw [if_pos c11] at H
            have c11b0 : decide (0 ≤ x15_1) = true := decide_eq_true c11
            clear c11
            by_cases c12 : x15_1 < (l0_0.length : Int)
            · rw [if_pos c12] at H
              have c12b0 : decide (x15_1 < (l0_0.length : Int)) = true := decide_eq_true c12
              clear c12
              replace H := Option.bind_eq_some_iff.mp H
              obtain ⟨t190, A130, H⟩ := H
              replace H : (if t190 = x15_1 then (hash_Right.l0 k1 l0_0 (l0_0.length : Int) (wrap64 (x15_1 + 1)) l0_0 l0_1) else (some false)) = some r := H
              have A13 := Aside0.mk A130
              clear A130
              by_cases c14 : t190 = x15_1
              · rw [if_pos c14] at H
                have c14b0 : (t190 == x15_1) = true := beq_iff_eq.mpr c14
                have c14b1 : (t190 != x15_1) = false := bne_eq_false_iff_eq.mpr c14
                clear c14
                have H' := Aside0.mk H
                clear H
                have p189 : 0 ≤ (x15_1 : Int) := of_decide_eq_true (by first | (with_reducible assumption) | assumption)
                have q189 : x15_1 < (l0_0.length : Int) := of_decide_eq_true (by first | (with_reducible assumption) | assumption)
                obtain ⟨ad189, A189_0, c189_0, e189, hx189_0, hl189_0, hi189_0⟩ := at_L4 HR0_0.out x15_1 p189 q189
                cases e189
                replace hx189_0 := (HB.out.cell (World.block_lt_of_cell? w _ hx189_0)).trans hx189_0
                have HR189_0 := Aside0.mk hi189_0
                have HC189_0 := Aside0.mk hl189_0
                clear hi189_0 hl189_0
                replace p189 := eq_true p189
                replace q189 := eq_true q189
                have hcz15_0 : wr.cell? ⟨gb184, 0, none⟩ = some (.slice (some ad189) l0_0.length c0_0) := (blk_cell BK184.out 0).trans rfl
                have hcz15_1 : wr.cell? ⟨gb184, 1, none⟩ = some (.slice A0_1 l0_1.length c0_1) := (blk_cell BK184.out 1).trans rfl
                have hfz15_0 := blk_frozen BK184.out 0
                have hfz15_1 := blk_frozen BK184.out 1
                go_wp2_with (first | ((with_reducible refine gate_callee (f := 39) rfl ?_); refine goesL_ (some 22) rfl rfl Try.func39 (by kernel_rfl) rfl #[.agg #[.slice (some ad189) l0_0.length c0_0, .slice A0_1 l0_1.length c0_1], .slice A189_0 (rd_L4 l0_0 x15_1).length c189_0] rfl (by (try simp only [List.map_toArray, List.map_cons, List.map_nil]); first | done | rfl | (simp only [List.length_drop, List.length_take]; rfl)) ?_; (with_reducible refine (hash_Find.calls k1 _ _ l0_0 _ _ l0_1 _ _ (rd_L4 l0_0 x15_1) t190 _ ?side1 ?side2 ?side3 ?side4 ?side5 ?side6 A13.out).mono ?_); (case side1 => repeat (first | exact (Kd.C_below HR0_0.out HB.out) | (with_reducible refine Kd.C_alloc ?_ _) | (with_reducible refine Kd.C_drewN ?_ _) | (with_reducible refine Kd.C_drew ?_))); (case side2 => exact HC0_0.out); (case side3 => repeat (first | exact (Kd.C_below HR0_1.out HB.out) | (with_reducible refine Kd.C_alloc ?_ _) | (with_reducible refine Kd.C_drewN ?_ _) | (with_reducible refine Kd.C_drew ?_))); (case side4 => exact HC0_1.out); (case side5 => repeat (first | exact (Kd.C_below HR189_0.out HB.out) | (with_reducible refine Kd.C_alloc ?_ _) | (with_reducible refine Kd.C_drewN ?_ _) | (with_reducible refine Kd.C_drew ?_))); (case side6 => exact HC189_0.out); rintro e w16 ⟨rfl, hb⟩; refine ⟨_, rfl, ?_⟩; have n0_ := Aside0.mk (blk_below (g := gb184) (o := .cells #[.slice (some ad189) l0_0.length c0_0, .slice A0_1 l0_1.length c0_1] 26 (0, 0)) (by (with_reducible repeat (first | refine blk_drewN ?_ _ | refine blk_drew ?_ | refine blk_alloc ?_ _)); exact BK184.out) hb); have n1_ := Aside0.mk (below_step (by repeat (first | (with_reducible first | exact HB.out | apply below_alloc | apply pw_below_drewN | apply below_drew1 | refine below_set ?_ GE184.out) | exact HB.out)) hb); clear BK184; clear HB; have BK184 := n0_; have HB := n1_; clear n0_ n1_; (try clear hb); (try clear hb2); (try clear hk); (try clear hi)))
                go_roundg k1
                case measure => have := HK1.out; omega
                case rel => exact ⟨(wrap64 (x15_1 + 1)), (by first | rfl | (simp; done) | (simp [*]; done)), H', ⟨by have := HK1.out; omega⟩, ⟨by (with_reducible repeat (first | refine blk_drewN ?_ _ | refine blk_drew ?_ | refine blk_alloc ?_ _)); exact BK184.out⟩, ⟨by repeat (first | (with_reducible first | exact HB.out | apply below_alloc | apply pw_below_drewN | apply below_drew1 | refine below_set ?_ GE184.out) | exact HB.out)⟩⟩
              · rw [if_neg c14] at H
                have c14b0 : (t190 == x15_1) = false := beq_eq_false_iff_ne.mpr c14
                have c14b1 : (t190 != x15_1) = true := bne_iff_ne.mpr c14
                obtain rfl := Option.some.inj H
                have p189 : 0 ≤ (x15_1 : Int) := of_decide_eq_true (by first | (with_reducible assumption) | assumption)
                have q189 : x15_1 < (l0_0.length : Int) := of_decide_eq_true (by first | (with_reducible assumption) | assumption)
                obtain ⟨ad189, A189_0, c189_0, e189, hx189_0, hl189_0, hi189_0⟩ := at_L4 HR0_0.out x15_1 p189 q189
                cases e189
                replace hx189_0 := (HB.out.cell (World.block_lt_of_cell? w _ hx189_0)).trans hx189_0
                have HR189_0 := Aside0.mk hi189_0
                have HC189_0 := Aside0.mk hl189_0
                clear hi189_0 hl189_0
                replace p189 := eq_true p189
                replace q189 := eq_true q189
                have hcz17_0 : wr.cell? ⟨gb184, 0, none⟩ = some (.slice (some ad189) l0_0.length c0_0) := (blk_cell BK184.out 0).trans rfl
                have hcz17_1 : wr.cell? ⟨gb184, 1, none⟩ = some (.slice A0_1 l0_1.length c0_1) := (blk_cell BK184.out 1).trans rfl
                have hfz17_0 := blk_frozen BK184.out 0
                have hfz17_1 := blk_frozen BK184.out 1
                go_wp2_with (first | ((with_reducible refine gate_callee (f := 39) rfl ?_); refine goesL_ (some 22) rfl rfl Try.func39 (by kernel_rfl) rfl #[.agg #[.slice (some ad189) l0_0.length c0_0, .slice A0_1 l0_1.length c0_1], .slice A189_0 (rd_L4 l0_0 x15_1).length c189_0] rfl (by (try simp only [List.map_toArray, List.map_cons, List.map_nil]); first | done | rfl | (simp only [List.length_drop, List.length_take]; rfl)) ?_; (with_reducible refine (hash_Find.calls k1 _ _ l0_0 _ _ l0_1 _ _ (rd_L4 l0_0 x15_1) t190 _ ?side1 ?side2 ?side3 ?side4 ?side5 ?side6 A13.out).mono ?_); (case side1 => repeat (first | exact (Kd.C_below HR0_0.out HB.out) | (with_reducible refine Kd.C_alloc ?_ _) | (with_reducible refine Kd.C_drewN ?_ _) | (with_reducible refine Kd.C_drew ?_))); (case side2 => exact HC0_0.out); (case side3 => repeat (first | exact (Kd.C_below HR0_1.out HB.out) | (with_reducible refine Kd.C_alloc ?_ _) | (with_reducible refine Kd.C_drewN ?_ _) | (with_reducible refine Kd.C_drew ?_))); (case side4 => exact HC0_1.out); (case side5 => repeat (first | exact (Kd.C_below HR189_0.out HB.out) | (with_reducible refine Kd.C_alloc ?_ _) | (with_reducible refine Kd.C_drewN ?_ _) | (with_reducible refine Kd.C_drew ?_))); (case side6 => exact HC189_0.out); rintro e w18 ⟨rfl, hb⟩; refine ⟨_, rfl, ?_⟩; have n0_ := Aside0.mk (blk_below (g := gb184) (o := .cells #[.slice (some ad189) l0_0.length c0_0, .slice A0_1 l0_1.length c0_1] 26 (0, 0)) (by (with_reducible repeat (first | refine blk_drewN ?_ _ | refine blk_drew ?_ | refine blk_alloc ?_ _)); exact BK184.out) hb); have n1_ := Aside0.mk (below_step (by repeat (first | (with_reducible first | exact HB.out | apply below_alloc | apply pw_below_drewN | apply below_drew1 | refine below_set ?_ GE184.out) | exact HB.out)) hb); clear BK184; clear HB; have BK184 := n0_; have HB := n1_; clear n0_ n1_; (try clear hb); (try clear hb2); (try clear hk); (try clear hi)))
                go_ret
                exact ⟨by first | rfl | (simp [errW_none, errW_some] <;> rfl) | (simp [*, errW_none, errW_some] <;> rfl), by repeat (first | (with_reducible first | exact HB.out | apply below_alloc | apply pw_below_drewN | apply below_drew1 | refine below_set ?_ GE184.out) | exact HB.out)⟩
            · rw [if_neg c12] at H
              exact absurd H (by simp)
          · rw [if_neg c11] at H
            exact absurd H (by simp)
        · rw [if_neg c10] at H
          have c10b0 : decide (x15_1 < (l0_0.length : Int)) = false := decide_eq_false c10
          clear c10
          obtain rfl := Option.some.inj H
          go_wp2
          go_ret
          exact ⟨by first | rfl | (simp [errW_none, errW_some] <;> rfl) | (simp [*, errW_none, errW_some] <;> rfl), by repeat (first | (with_reducible first | exact HB.out | apply below_alloc | apply pw_below_drewN | apply below_drew1 | refine below_set ?_ GE184.out) | exact HB.out)⟩
  · replace c4 := Bool.eq_false_iff.mpr c4
    subst c4
    have H1 : (some false) = some r := by rw [if_neg (show ¬ (false = true) by decide)] at H; exact H
    clear H
    have H := H1
    clear H1
    obtain rfl := Option.some.inj H
    go_enter Try.func32, Try.ntmps32
    try go_wp2_with (first | ((with_reducible refine gate_dst (N := 1) rfl ?_); refine box_event ?hg (N := 1) ?hd (cs := #[.slice A0_0 l0_0.length c0_0, .slice A0_1 l0_1.length c0_1]) (t := 26) ?hr ?_; (case hd => rfl); (case hg => rfl); (case hr => first | (go_simp; done) | (go_simp; rfl)); intro gb184 hg w19 hbox hb; have n0_ := Aside0.mk (below_step (by repeat (first | (with_reducible first | exact HB.out | apply below_alloc | apply pw_below_drewN | apply below_drew1) | exact HB.out)) hb); have n1_ := Aside0.mk (hbox); have n2_ := Aside0.mk ((by rw [hg]; exact (below_size (by repeat (first | (with_reducible first | exact HB.out | apply below_alloc | apply pw_below_drewN | apply below_drew1) | exact HB.out))) : w.heap.size ≤ gb184)); have n3_ := Aside0.mk ((by rw [hg]; exact (below_size (by repeat (first | (with_reducible first | exact HB.out | apply below_alloc | apply pw_below_drewN | apply below_drew1) | exact HB.out))) : w.heap.size ≤ gb184)); clear HB; have HB := n0_; have BK184 := n1_; have GW184 := n2_; have GE184 := n3_; clear n0_ n1_ n2_ n3_; clear hb hbox hg))
    have n0_ := Aside0.mk (blk_drew BK184.out)
    have n1_ := Aside0.mk (below_drew1 HB.out)
    clear BK184
    clear HB
    have BK184 := n0_
    have HB := n1_
    clear n0_ n1_
    refine start_ (n := 7) (S := fun w' => w'.cell? ⟨gb184, 0, none⟩ = some (.slice A0_0 l0_0.length c0_0) ∧ w'.cell? ⟨gb184, 1, none⟩ = some (.slice A0_1 l0_1.length c0_1)) (ds := []) #[false, false, false, false, false, false, false] (by kernel_rfl) rfl rfl ⟨(blk_cell BK184.out 0).trans rfl, (blk_cell BK184.out 1).trans rfl⟩ (fun hHeld => ?_)
    generalize w19.drew = w20 at BK184 HB hHeld ⊢
    refine pure_ (i := 0) (N := some 5) (v := ?_) (a' := ?_) #[true, false, false, false, false, false, false] rfl rfl (by kernel_rfl) (fun _ _ _ h => h) (Or.inl ⟨by rfl, ?_⟩) ?_ ?_
    rotate_left
    · intro w'
      go_simp
      with_reducible rfl
    rotate_left
    · simp only [Act.put, List.setIfInBounds_toArray, List.set_cons_zero, List.set_cons_succ, i64_w, i32_w]
      rfl
    refine pure_ (i := 2) (N := some 7) (v := ?_) (a' := ?_) #[true, false, true, false, false, false, false] rfl rfl (by kernel_rfl) (fun _ _ _ h => h) (Or.inl ⟨by rfl, ?_⟩) ?_ ?_
    rotate_left
    · intro w'
      go_simp
      with_reducible rfl
    rotate_left
    · simp only [Act.put, List.setIfInBounds_toArray, List.set_cons_zero, List.set_cons_succ, i64_w, i32_w]
      rfl
    refine take_ (i := 1) (N := some 6) (v := ?_) (a' := ?_) #[true, true, true, false, false, false, false] rfl rfl (by kernel_rfl) (fun _ _ _ h => h) (Or.inl ⟨by rfl, ?_⟩) hHeld ?_ ?_
    rotate_left
    · rintro w' ⟨s0, s1⟩
      go_simp
      with_reducible rfl
    rotate_left
    · simp only [Act.put, List.setIfInBounds_toArray, List.set_cons_zero, List.set_cons_succ, i64_w, i32_w]
      rfl
    refine take_ (i := 3) (N := some 8) (v := ?_) (a' := ?_) #[true, true, true, true, false, false, false] rfl rfl (by kernel_rfl) (fun _ _ _ h => h) (Or.inl ⟨by rfl, ?_⟩) hHeld ?_ ?_
    rotate_left
    · rintro w' ⟨s0, s1⟩
      go_simp
      with_reducible rfl
    rotate_left
    · simp only [Act.put, List.setIfInBounds_toArray, List.set_cons_zero, List.set_cons_succ, i64_w, i32_w]
      rfl
    refine one_ (i := 4) (N := some 9) #[true, true, true, true, true, false, false] rfl rfl (by kernel_rfl) (by decide) (fun K hK => ?_)
    refine goes_ Try.func31 (by kernel_rfl) rfl #[.slice A0_0 l0_0.length c0_0] (by rfl) rfl rfl (by (try simp only [List.map_toArray, List.map_cons, List.map_nil]); first | done | rfl | (simp only [List.length_drop, List.length_take]; rfl)) ?_
    with_reducible refine (hash_Lay.calls k _ _ l0_0 t185 _ ?side1 ?side2 A2.out).mono ?_
    (case side1 => repeat (first | exact (Kd.C_below HR0_0.out HB.out) | (with_reducible refine Kd.C_alloc ?_ _) | (with_reducible refine Kd.C_drewN ?_ _) | (with_reducible refine Kd.C_drew ?_)))
    (case side2 => exact HC0_0.out)
    rintro e w21 ⟨v186, rfl, ho0, hb⟩
    refine ⟨_, rfl, ?_⟩
    have n0_ := Aside0.mk (Kd.R_lower ho0 (below_size (by repeat (first | (with_reducible first | exact HB.out | apply below_alloc | apply pw_below_drewN | apply below_drew1 | refine below_set ?_ GE184.out) | exact HB.out))))
    have n1_ := Aside0.mk (blk_below (g := gb184) (o := .cells #[.slice A0_0 l0_0.length c0_0, .slice A0_1 l0_1.length c0_1] 26 (0, 0)) (by (with_reducible repeat (first | refine blk_drewN ?_ _ | refine blk_drew ?_ | refine blk_alloc ?_ _)); exact BK184.out) hb)
    have n2_ := Aside0.mk (below_step (by repeat (first | (with_reducible first | exact HB.out | apply below_alloc | apply pw_below_drewN | apply below_drew1 | refine below_set ?_ GE184.out) | exact HB.out)) hb)
    clear BK184
    clear HB
    have HO187 := n0_
    have BK184 := n1_
    have HB := n2_
    clear n0_ n1_ n2_
    (try clear hb)
    (try clear hb2)
    (try clear hk)
    (try clear hi)
    (try clear ho0)
    obtain ⟨Ao22, co22, eo22⟩ := Kd.R_slice HO187.out
    (first | subst eo22 | (injection eo22 with f1_ f2_ f3_; have f4_ := f1_.symm; have f5_ := f3_.symm; clear f1_ f2_ f3_; subst f4_; subst f5_))
    refine hK.out _ _ ⟨(blk_cell BK184.out 0).trans rfl, (blk_cell BK184.out 1).trans rfl⟩ (fun hHeld => ?_)
    clear hK K
    refine norm_ (a' := ?_) ?_ ?_
    rotate_left
    · show Act.put _ (some 9) _ = _
      simp only [Act.put, List.setIfInBounds_toArray, List.set_cons_zero, List.set_cons_succ, i64_w, i32_w]
      rfl
    refine one_ (i := 5) (N := some 10) #[true, true, true, true, true, true, false] rfl rfl (by kernel_rfl) (by decide) (fun K hK => ?_)
    refine goes_ Try.func45 (by kernel_rfl) rfl #[.slice A0_1 l0_1.length c0_1, .slice Ao22 t185.length co22] (by rfl) rfl rfl (by (try simp only [List.map_toArray, List.map_cons, List.map_nil]); first | done | rfl | (simp only [List.length_drop, List.length_take]; rfl)) ?_
    with_reducible refine (slices_Equal_int_int.calls k _ _ l0_1 _ _ t185 false _ ?side1 ?side2 ?side3 ?side4 A3.out).mono ?_
    (case side1 => repeat (first | exact (Kd.C_below HR0_1.out HB.out) | (with_reducible refine Kd.C_alloc ?_ _) | (with_reducible refine Kd.C_drewN ?_ _) | (with_reducible refine Kd.C_drew ?_)))
    (case side2 => exact HC0_1.out)
    (case side3 => repeat (first | exact (Kd.R_reads' HO187.out).2.2 | (with_reducible refine Kd.C_alloc ?_ _) | (with_reducible refine Kd.C_drewN ?_ _) | (with_reducible refine Kd.C_drew ?_)))
    (case side4 => exact (Kd.R_reads' HO187.out).2.1)
    rintro e w' ⟨rfl, ⟨nd, rfl⟩⟩
    refine ⟨_, rfl, ?_⟩
    refine hK.out _ _ ⟨(blk_cell BK184.out 0).trans rfl, (blk_cell BK184.out 1).trans rfl⟩ (fun hHeld => ?_)
    clear hK K
    refine norm_ (a' := ?_) ?_ ?_
    rotate_left
    · show Act.put _ (some 10) _ = _
      simp only [Act.put, List.setIfInBounds_toArray, List.set_cons_zero, List.set_cons_succ, i64_w, i32_w]
      rfl
    refine pure_ (i := 6) (N := some 11) (v := ?_) (a' := ?_) #[true, true, true, true, true, true, true] rfl rfl (by kernel_rfl) (fun _ _ _ h => h) (Or.inl ⟨by rfl, ?_⟩) ?_ ?_
    rotate_left
    · intro w'
      go_simp
      with_reducible rfl
    rotate_left
    · simp only [Act.put, List.setIfInBounds_toArray, List.set_cons_zero, List.set_cons_succ, i64_w, i32_w]
      rfl
    refine done_ (by kernel_rfl) ?_
    try go_wp2
    go_ret
    exact ⟨by first | rfl | (simp [errW_none, errW_some] <;> rfl) | (simp [*, errW_none, errW_some] <;> rfl), by repeat (first | (with_reducible first | exact HB.out | apply below_alloc | apply pw_below_drewN | apply below_drew1 | refine below_set ?_ GE184.out) | exact HB.out)⟩

end Go.Proofs.Ytiliknfmlmdmbaa.T
