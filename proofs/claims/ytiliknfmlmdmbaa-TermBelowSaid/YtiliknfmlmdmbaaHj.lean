/- tammyref03.Of: the term at a place; its parts are the key's own. -/
import Derived.Outline
import Derived.Sort.CutIn
import Derived.Deep.DeepCutAuto
import Derived.Deep.CutBlock
import Derived.Test.YtiliknfmlmdmbaaTx0
namespace Go.Proofs.Ytiliknfmlmdmbaa.T
open Go.RowKit Go.Proofs.YtiliknfmlmdmbaaW.PrintWords Go.Proofs.YtiliknfmlmdmbaaW.PrintLast Go.Proofs.YtiliknfmlmdmbaaW.PrintMore
set_option linter.unusedVariables false
set_option linter.unusedSimpArgs false
def tammyref03_Of.f (l0_0 : List (List Int)) (l0_1 : List Int) (a1 : Int) : Option (Int × Int × Int × List Int × Bool) := if a1 < 0 then (some (0, 0, 0, ([] : List Int), false)) else (if a1 ≥ (l0_0.length : Int) then (some (0, 0, 0, ([] : List Int), false)) else (if ((rd_L4 l0_0 a1).length : Int) < 3 then (some (0, 0, 0, ([] : List Int), false)) else (some (rd (rd_L4 l0_0 a1) 0, rd (rd_L4 l0_0 a1) 1, rd (rd_L4 l0_0 a1) 2, ((rd_L4 l0_0 a1).drop 3), true))))
set_option maxRecDepth 100000 in
set_option maxHeartbeats 4000000 in
theorem tammyref03_Of.calls (P0_0_ : Nat → Prop) (A0_0 : Option Addr) (c0_0 : Nat) (l0_0 : List (List Int)) (A0_1 : Option Addr) (c0_1 : Nat) (l0_1 : List Int) (a1 : Int) (r1 : Int) (r2 : Int) (r3 : Int) (r4 : List Int) (r5 : Bool) (w : World) (hs0_0 : Kd.V (Kd.slice 3 (Kd.int .i64)) 24 w w.heap.size (fun k_ => P0_0_ k_) (.slice A0_0 l0_0.length c0_0) l0_0) (hr0_1 : Kd.C (Kd.int .i64) w A0_1 l0_1.length l0_1) (hc0_1 : l0_1.length ≤ c0_1) (h : tammyref03_Of.f l0_0 l0_1 a1 = some (r1, r2, r3, r4, r5)) :
    Calls Try.prog 28 #[.agg #[.slice A0_0 l0_0.length c0_0, .slice A0_1 l0_1.length c0_1], .int .i64 a1] w fun e w' => ∃ v3_ : Value, e = .returned (.tuple #[.agg #[.int .i64 r1, .int .i64 r2, .int .i64 r3, v3_], .bool r5]) ∧ Kd.V (Kd.int .i64) 3 w' w.heap.size (fun k_ => (P0_0_ k_ ∨ w.heap.size ≤ k_)) v3_ r4 ∧ Below w.heap.size w w' := by
  have hu26 := Try.underlying26
  have hu28 := Try.underlying28
  have HS := Aside0.mk hs0_0
  have hZ := blk_new (w.alloc (.cells #[.slice A0_0 l0_0.length c0_0, .slice A0_1 l0_1.length c0_1] 26)) (.cells #[.int .i64 0, .int .i64 0, .int .i64 0, .slice none 0 0] 28)
  rw [World.size_alloc] at hZ
  have HZ := Aside0.mk hZ
  have HB := Aside0.mk (below_alloc (below_alloc (Below.refl w.heap.size w) (.cells #[.slice A0_0 l0_0.length c0_0, .slice A0_1 l0_1.length c0_1] 26)) (.cells #[.int .i64 0, .int .i64 0, .int .i64 0, .slice none 0 0] 28))
  have NONE := Aside0.mk (show ∀ W : World, W.heap[w.heap.size + 1]? = some (.cells #[.int .i64 0, .int .i64 0, .int .i64 0, .slice none 0 0] 28 (0, 0)) → Below w.heap.size w W → (∃ v3_ : Value, (Ending.returned (.tuple #[.agg #[.int .i64 0, .int .i64 0, .int .i64 0, .slice none 0 0], .bool false]) : Ending) = .returned (.tuple #[.agg #[.int .i64 0, .int .i64 0, .int .i64 0, v3_], .bool false]) ∧ Kd.V (Kd.int .i64) 3 W w.heap.size (fun k_ => (P0_0_ k_ ∨ w.heap.size ≤ k_)) v3_ [] ∧ Below w.heap.size w W) from fun W _ hb => ⟨_, rfl, Kd.V_nil _ _ _ _ _, hb⟩)
  clear hs0_0 hr0_1 hZ
  unfold tammyref03_Of.f at h
  by_cases c1 : a1 < 0
  · rw [if_pos c1] at h
    have hd : decide (a1 < 0) = true := decide_eq_true c1
    simp only [Option.some.injEq, Prod.mk.injEq] at h
    obtain ⟨rfl, rfl, rfl, rfl, rfl⟩ := h
    go_enter Try.func28, Try.ntmps28
    go_wp2_with fail
    refine bodyPost_ret (results_ct rfl _ _ (w.heap.size + 1) 28 #[.int .i64 0, .int .i64 0, .int .i64 0, .slice none 0 0] (0, 0) _ rfl ?_ Try.underlying28 rfl (by kernel_rfl)) rfl ?_
    · repeat (first | exact HZ.out | (refine blk_put (cs := #[.int .i64 0, .int .i64 0, .int .i64 0, .slice none 0 0]) ?_ _ _ rfl))
    · refine ⟨_, rfl, Kd.V_nil _ _ _ _ _, ?_⟩
      repeat (first | exact HB.out | (refine Below.setCell ?_ (p := ⟨w.heap.size + 1, _, none⟩) (by show w.heap.size ≤ w.heap.size + 1; omega) _))
  rw [if_neg c1] at h
  have hd1 : decide (a1 < 0) = false := decide_eq_false c1
  by_cases c2 : a1 ≥ (l0_0.length : Int)
  · rw [if_pos c2] at h
    have hd : decide ((l0_0.length : Int) ≤ a1) = true := decide_eq_true c2
    simp only [Option.some.injEq, Prod.mk.injEq] at h
    obtain ⟨rfl, rfl, rfl, rfl, rfl⟩ := h
    go_enter Try.func28, Try.ntmps28
    go_wp2_with fail
    refine bodyPost_ret (results_ct rfl _ _ (w.heap.size + 1) 28 #[.int .i64 0, .int .i64 0, .int .i64 0, .slice none 0 0] (0, 0) _ rfl ?_ Try.underlying28 rfl (by kernel_rfl)) rfl ?_
    · repeat (first | exact HZ.out | (refine blk_put (cs := #[.int .i64 0, .int .i64 0, .int .i64 0, .slice none 0 0]) ?_ _ _ rfl))
    · refine ⟨_, rfl, Kd.V_nil _ _ _ _ _, ?_⟩
      repeat (first | exact HB.out | (refine Below.setCell ?_ (p := ⟨w.heap.size + 1, _, none⟩) (by show w.heap.size ≤ w.heap.size + 1; omega) _))
  rw [if_neg c2] at h
  have hd2 : decide ((l0_0.length : Int) ≤ a1) = false := decide_eq_false c2
  have h0 : 0 ≤ a1 := by omega
  have h1 : a1 < (l0_0.length : Int) := by omega
  obtain ⟨ad, A0, c0, rfl, hx, hc0, hC0⟩ := at_L4 (Kd.V_reads' HS.out).2.2 a1 h0 h1
  have HF0 := Aside0.mk (show (Kd.int .i64).F w (fun k_ => P0_0_ k_) A0 (rd_L4 l0_0 a1).length (rd_L4 l0_0 a1) from by
    obtain ⟨cs, _, hK, hcell⟩ := Kd.V_get HS.out ([] : List Int) a1 h0 h1
    obtain ⟨A', c', rfl, _, hf⟩ := Kd.FK_slice_open hK
    have h2 := hcell 0 _ rfl
    rw [show a1.toNat * (Kd.slice 3 (Kd.int .i64)).sz + 0 = a1.toNat from Nat.mul_one _] at h2
    rw [h2] at hx
    injection hx with hx
    injection hx with hx _ _
    subst hx
    exact hf)
  have hx1 := pw_cell_below HB.out hx
  have HC0 := Aside0.mk (Kd.C_below hC0 HB.out)
  have HLE := Aside0.mk hc0
  clear c1 c2 hx hC0 hc0
  by_cases c3 : ((rd_L4 l0_0 a1).length : Int) < 3
  · rw [if_pos c3] at h
    have hd3 : decide (((rd_L4 l0_0 a1).length : Int) < 3) = true := decide_eq_true c3
    simp only [Option.some.injEq, Prod.mk.injEq] at h
    obtain ⟨rfl, rfl, rfl, rfl, rfl⟩ := h
    go_enter Try.func28, Try.ntmps28
    go_wp2_with fail
    refine bodyPost_ret (results_ct rfl _ _ (w.heap.size + 1) 28 #[.int .i64 0, .int .i64 0, .int .i64 0, .slice none 0 0] (0, 0) _ rfl ?_ Try.underlying28 rfl (by kernel_rfl)) rfl ?_
    · repeat (first | exact HZ.out | (refine blk_put (cs := #[.int .i64 0, .int .i64 0, .int .i64 0, .slice none 0 0]) ?_ _ _ rfl))
    · refine ⟨_, rfl, Kd.V_nil _ _ _ _ _, ?_⟩
      repeat (first | exact HB.out | (refine Below.setCell ?_ (p := ⟨w.heap.size + 1, _, none⟩) (by show w.heap.size ≤ w.heap.size + 1; omega) _))
  rw [if_neg c3] at h
  have hd3 : decide (((rd_L4 l0_0 a1).length : Int) < 3) = false := decide_eq_false c3
  have hl3 : 3 ≤ (rd_L4 l0_0 a1).length := by omega
  simp only [Option.some.injEq, Prod.mk.injEq] at h
  obtain ⟨rfl, rfl, rfl, rfl, rfl⟩ := h
  have HG := Aside0.mk (Kd.F_cut (m := 3) (c := c0) HF0.out hl3 HLE.out)
  obtain ⟨adk, rfl, hk0⟩ := Kd.at_int HC0.out 0 (by omega) (by omega)
  have hk1 := Kd.foot_int HC0.out 1 (by omega) (by omega)
  have hk2 := Kd.foot_int HC0.out 2 (by omega) (by omega)
  obtain ⟨i0, hi0, _, hsz0, _⟩ := info_parts info3
  have hcut := cut_from (P := Try.prog) 24 3 .i64 Try.underlying24 hi0 1 hsz0 (some adk) (rd_L4 l0_0 a1).length c0 3 (by omega) (by omega)
  obtain ⟨AK, hAK⟩ : ∃ q, q = (if c0 = (3 : Int).toNat then (some adk) else ((some adk) : Option Addr).map (·.add ((3 : Int).toNat * 1))) := ⟨_, rfl⟩
  rw [← hAK] at hcut
  obtain ⟨y, hy⟩ : ∃ y, y = (rd_L4 l0_0 a1).drop 3 := ⟨_, rfl⟩
  have hlen : (rd_L4 l0_0 a1).length - (3 : Int).toNat = y.length := by rw [hy, List.length_drop]; rfl
  rw [hlen] at hcut
  rw [← hy]
  have HG2 := Aside0.mk (show (Kd.int .i64).F w (fun k_ => P0_0_ k_) AK y.length y from by rw [hAK, hy]; exact HG.out)
  obtain ⟨ck, hck⟩ : ∃ q, q = c0 - (3 : Int).toNat := ⟨_, rfl⟩
  rw [← hck] at hcut
  have HCK := Aside0.mk (show y.length ≤ ck from by rw [hck, hy, List.length_drop]; have := HLE.out; simp; omega)
  clear hAK hck hlen HG hi0 hsz0 hy
  have h3 : (3 : Int) ≤ ((rd_L4 l0_0 a1).length : Int) := by omega
  have hq0 : (0 : Int) < ((rd_L4 l0_0 a1).length : Int) := by omega
  have hq1 : (1 : Int) < ((rd_L4 l0_0 a1).length : Int) := by omega
  have hq2 : (2 : Int) < ((rd_L4 l0_0 a1).length : Int) := by omega
  have hm0 : 0 < (rd_L4 l0_0 a1).length := by omega
  have hm1 : 1 < (rd_L4 l0_0 a1).length := by omega
  have hm2 : 2 < (rd_L4 l0_0 a1).length := by omega
  rw [show (0 : Int).toNat = 0 from rfl, Addr.add_zero'] at hk0
  simp only [show (1 : Int).toNat = 1 from rfl, Nat.reduceMul, Nat.reduceEqDiff, Go.Addr.add, ↓reduceIte] at hk1
  simp only [show (2 : Int).toNat = 2 from rfl, Nat.reduceMul, Nat.reduceEqDiff, Go.Addr.add, ↓reduceIte] at hk2
  clear c3 hl3
  go_enter Try.func28, Try.ntmps28
  go_upto_region 4 with (fail)
  refine start_ (n := 14) (S := fun w' => w'.cell? adk = some (.int .i64 (rd (rd_L4 l0_0 a1) 0)) ∧ w'.cell? ⟨adk.block, adk.off + 1, none⟩ = some (.int .i64 (rd (rd_L4 l0_0 a1) 1)) ∧ w'.cell? ⟨adk.block, adk.off + 2, none⟩ = some (.int .i64 (rd (rd_L4 l0_0 a1) 2))) (ds := [12]) #[false, false, false, false, false, false, false, false, false, false, false, false, false, false] (by kernel_rfl) rfl rfl ⟨hk0, hk1, hk2⟩ (fun hHeld => ?_)
  have HZ2 := Aside0.mk (blk_drew HZ.out)
  have HB2 := Aside0.mk (below_drew HB.out)
  generalize World.drew _ = W2 at HZ2 HB2 hHeld ⊢
  refine pure_ (i := 0) (N := some 31) (v := ?_) (a' := ?_) #[true, false, false, false, false, false, false, false, false, false, false, false, false, false] rfl rfl (by kernel_rfl) (fun _ _ _ h => h) (Or.inl ⟨by rfl, ?_⟩) ?_ ?_
  rotate_left
  · intro w'
    go_simp
    with_reducible rfl
  rotate_left
  · simp only [Act.put, List.setIfInBounds_toArray, List.set_cons_zero, List.set_cons_succ, i64_w, i32_w]
    rfl
  refine pure_ (i := 1) (N := some 32) (v := ?_) (a' := ?_) #[true, true, false, false, false, false, false, false, false, false, false, false, false, false] rfl rfl (by kernel_rfl) (fun _ _ _ h => h) (Or.inl ⟨by rfl, ?_⟩) ?_ ?_
  rotate_left
  · intro w'
    go_simp
    with_reducible rfl
  rotate_left
  · simp only [Act.put, List.setIfInBounds_toArray, List.set_cons_zero, List.set_cons_succ, i64_w, i32_w]
    rfl
  refine pure_ (i := 3) (N := some 34) (v := ?_) (a' := ?_) #[true, true, false, true, false, false, false, false, false, false, false, false, false, false] rfl rfl (by kernel_rfl) (fun _ _ _ h => h) (Or.inl ⟨by rfl, ?_⟩) ?_ ?_
  rotate_left
  · intro w'
    go_simp
    with_reducible rfl
  rotate_left
  · simp only [Act.put, List.setIfInBounds_toArray, List.set_cons_zero, List.set_cons_succ, i64_w, i32_w]
    rfl
  refine pure_ (i := 4) (N := some 35) (v := ?_) (a' := ?_) #[true, true, false, true, true, false, false, false, false, false, false, false, false, false] rfl rfl (by kernel_rfl) (fun _ _ _ h => h) (Or.inl ⟨by rfl, ?_⟩) ?_ ?_
  rotate_left
  · intro w'
    go_simp
    with_reducible rfl
  rotate_left
  · simp only [Act.put, List.setIfInBounds_toArray, List.set_cons_zero, List.set_cons_succ, i64_w, i32_w]
    rfl
  refine pure_ (i := 6) (N := some 37) (v := ?_) (a' := ?_) #[true, true, false, true, true, false, true, false, false, false, false, false, false, false] rfl rfl (by kernel_rfl) (fun _ _ _ h => h) (Or.inl ⟨by rfl, ?_⟩) ?_ ?_
  rotate_left
  · intro w'
    go_simp
    with_reducible rfl
  rotate_left
  · simp only [Act.put, List.setIfInBounds_toArray, List.set_cons_zero, List.set_cons_succ, i64_w, i32_w]
    rfl
  refine pure_ (i := 7) (N := some 38) (v := ?_) (a' := ?_) #[true, true, false, true, true, false, true, true, false, false, false, false, false, false] rfl rfl (by kernel_rfl) (fun _ _ _ h => h) (Or.inl ⟨by rfl, ?_⟩) ?_ ?_
  rotate_left
  · intro w'
    go_simp
    with_reducible rfl
  rotate_left
  · simp only [Act.put, List.setIfInBounds_toArray, List.set_cons_zero, List.set_cons_succ, i64_w, i32_w]
    rfl
  refine pure_ (i := 9) (N := some 40) (v := ?_) (a' := ?_) #[true, true, false, true, true, false, true, true, false, true, false, false, false, false] rfl rfl (by kernel_rfl) (fun _ _ _ h => h) (Or.inl ⟨by rfl, ?_⟩) ?_ ?_
  rotate_left
  · intro w'
    go_simp
    with_reducible rfl
  rotate_left
  · simp only [Act.put, List.setIfInBounds_toArray, List.set_cons_zero, List.set_cons_succ, i64_w, i32_w]
    rfl
  refine pure_ (i := 10) (N := some 41) (v := ?_) (a' := ?_) #[true, true, false, true, true, false, true, true, false, true, true, false, false, false] rfl rfl (by kernel_rfl) (fun _ _ _ h => h) (Or.inl ⟨by rfl, ?_⟩) ?_ ?_
  rotate_left
  · intro w'
    go_simp
    with_reducible rfl
  rotate_left
  · simp only [Act.put, List.setIfInBounds_toArray, List.set_cons_zero, List.set_cons_succ, i64_w, i32_w]
    rfl
  refine take_ (i := 2) (N := some 33) (v := ?_) (a' := ?_) #[true, true, true, true, true, false, true, true, false, true, true, false, false, false] rfl rfl (by kernel_rfl) (fun _ _ _ h => h) (Or.inl ⟨by rfl, ?_⟩) hHeld ?_ ?_
  rotate_left
  · rintro w' ⟨s0, s1, s2⟩
    go_simp
    with_reducible rfl
  rotate_left
  · simp only [Act.put, List.setIfInBounds_toArray, List.set_cons_zero, List.set_cons_succ, i64_w, i32_w]
    rfl
  refine take_ (i := 5) (N := some 36) (v := ?_) (a' := ?_) #[true, true, true, true, true, true, true, true, false, true, true, false, false, false] rfl rfl (by kernel_rfl) (fun _ _ _ h => h) (Or.inl ⟨by rfl, ?_⟩) hHeld ?_ ?_
  rotate_left
  · rintro w' ⟨s0, s1, s2⟩
    go_simp
    with_reducible rfl
  rotate_left
  · simp only [Act.put, List.setIfInBounds_toArray, List.set_cons_zero, List.set_cons_succ, i64_w, i32_w]
    rfl
  refine take_ (i := 8) (N := some 39) (v := ?_) (a' := ?_) #[true, true, true, true, true, true, true, true, true, true, true, false, false, false] rfl rfl (by kernel_rfl) (fun _ _ _ h => h) (Or.inl ⟨by rfl, ?_⟩) hHeld ?_ ?_
  rotate_left
  · rintro w' ⟨s0, s1, s2⟩
    go_simp
    with_reducible rfl
  rotate_left
  · simp only [Act.put, List.setIfInBounds_toArray, List.set_cons_zero, List.set_cons_succ, i64_w, i32_w]
    rfl
  refine pure_ (i := 11) (N := some 42) (v := ?_) (a' := ?_) #[true, true, true, true, true, true, true, true, true, true, true, true, false, false] rfl rfl (by kernel_rfl) (fun _ _ _ h => h) (Or.inl ⟨by rfl, ?_⟩) ?_ ?_
  rotate_left
  · intro w'
    go_simp
    with_reducible rfl
  rotate_left
  · simp only [Act.put, List.setIfInBounds_toArray, List.set_cons_zero, List.set_cons_succ, i64_w, i32_w]
    rfl
  refine last_ (i := 12) (N := none) #[true, true, true, true, true, true, true, true, true, true, true, true, true, false] rfl rfl (by kernel_rfl) (by decide) (fun K hK => ?_)
  have hs9 := (blk_cell HZ2.out 0).trans rfl
  have hs9b := (blk_cell HZ2.out 1).trans rfl
  have hs9c := (blk_cell HZ2.out 2).trans rfl
  have hs9d := (blk_cell HZ2.out 3).trans rfl
  have hf9 := blk_frozen HZ2.out 0
  have hf9b := blk_frozen HZ2.out 1
  have hf9c := blk_frozen HZ2.out 2
  have hf9d := blk_frozen HZ2.out 3
  refine skip_ (w1 := ?_) (by rfl) rfl ?_ ?_
  rotate_left
  · go_simp
    rfl
  refine hK.out _ _ ?_
  clear hK K
  refine pure_ (i := 13) (N := some 5) (v := ?_) (a' := ?_) #[true, true, true, true, true, true, true, true, true, true, true, true, true, true] rfl rfl (by kernel_rfl) (fun _ _ _ h => h) (Or.inl ⟨by rfl, ?_⟩) ?_ ?_
  rotate_left
  · intro w'
    go_simp
    with_reducible rfl
  rotate_left
  · simp only [Act.put, List.setIfInBounds_toArray, List.set_cons_zero, List.set_cons_succ, i64_w, i32_w]
    rfl
  refine done_ (by kernel_rfl) ?_

  go_wp2_with fail
  refine bodyPost_ret (results_ct rfl _ _ (w.heap.size + 1) 28 #[.int .i64 (rd (rd_L4 l0_0 a1) 0), .int .i64 (rd (rd_L4 l0_0 a1) 1), .int .i64 (rd (rd_L4 l0_0 a1) 2), .slice AK y.length ck] (0, 0) _ rfl ?_ Try.underlying28 rfl (by kernel_rfl)) rfl ?_
  · refine blk_put (cs := #[.int .i64 (rd (rd_L4 l0_0 a1) 0), .int .i64 (rd (rd_L4 l0_0 a1) 1), .int .i64 (rd (rd_L4 l0_0 a1) 2), .slice none 0 0]) ?_ 3 _ rfl
    refine blk_put (cs := #[.int .i64 (rd (rd_L4 l0_0 a1) 0), .int .i64 (rd (rd_L4 l0_0 a1) 1), .int .i64 0, .slice none 0 0]) ?_ 2 _ rfl
    refine blk_put (cs := #[.int .i64 (rd (rd_L4 l0_0 a1) 0), .int .i64 0, .int .i64 0, .slice none 0 0]) ?_ 1 _ rfl
    exact blk_put (cs := #[.int .i64 0, .int .i64 0, .int .i64 0, .slice none 0 0]) HZ2.out 0 _ rfl
  · have hbe := (((HB2.out.setCell (p := ⟨w.heap.size + 1, 0, none⟩) (by show w.heap.size ≤ w.heap.size + 1; omega) (.int .i64 (rd (rd_L4 l0_0 a1) 0))).setCell (p := ⟨w.heap.size + 1, 1, none⟩) (by show w.heap.size ≤ w.heap.size + 1; omega) (.int .i64 (rd (rd_L4 l0_0 a1) 1))).setCell (p := ⟨w.heap.size + 1, 2, none⟩) (by show w.heap.size ≤ w.heap.size + 1; omega) (.int .i64 (rd (rd_L4 l0_0 a1) 2))).setCell (p := ⟨w.heap.size + 1, 3, none⟩) (by show w.heap.size ≤ w.heap.size + 1; omega) (.slice AK y.length ck)
    exact ⟨_, rfl, Kd.V_mk HCK.out (Kd.F_mono (Kd.F_below HG2.out hbe) (fun k hk => .inl hk)), hbe⟩
end Go.Proofs.Ytiliknfmlmdmbaa.T
