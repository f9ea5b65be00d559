/- tammyref03.Put, as it reads. -/
import Derived.Test.YtiliknfmlmdmbaaHk
import Derived.Test.YtiliknfmlmdmbaaTx0
import Derived.Test.YtiliknfmlmdmbaaTx10
import Derived.Test.YtiliknfmlmdmbaaTx13
namespace Go.Proofs.Ytiliknfmlmdmbaa.T
open Go.RowKit Go.Proofs.YtiliknfmlmdmbaaW.PrintWords Go.Proofs.YtiliknfmlmdmbaaW.PrintLast Go.Proofs.YtiliknfmlmdmbaaW.PrintMore
set_option linter.unusedVariables false
set_option linter.unusedSimpArgs false
def tammyref03_Put.f (k : Nat) (l0 : List S62) (l1_0 : List (List Int)) (l1_1 : List Int) (a2_0 a2_1 a2_2 : Int) (l2_3 : List Int) (a3 : Int) : Option (List (List Int) × List Int × Int × Int) :=
  (tammyref03_May.f k l0 l1_0 l1_1 a2_0 a2_1 a2_2 l2_3).bind fun m => if m = true then (tammyref03_Key.f a2_0 a2_1 a2_2 l2_3).bind fun key => (tammyref02_At.f k l1_0 key).bind fun n =>
    if n < 0 ∧ (l1_0.length : Int) ≥ a3 then some (l1_0, l1_1, 0, 7) else (tammyref02_Put.f k l1_0 l1_1 key).bind fun t => some (t.1, t.2.1, t.2.2.1, 0)
  else some (l1_0, l1_1, 0, 1)
theorem tammyref03_Put.mono : ∀ l0 l1_0 l1_1 a2_0 a2_1 a2_2 l2_3 a3 k, LeO (tammyref03_Put.f k l0 l1_0 l1_1 a2_0 a2_1 a2_2 l2_3 a3) (tammyref03_Put.f (k + 1) l0 l1_0 l1_1 a2_0 a2_1 a2_2 l2_3 a3) := fun l0 l1_0 l1_1 a2_0 a2_1 a2_2 l2_3 a3 k =>
  LeO.bind (tammyref03_May.mono _ _ _ _ _ _ _ k) fun m => LeO.ite (LeO.bind (LeO.refl _) fun key => LeO.bind (tammyref02_At.mono _ _ k) fun n => LeO.ite (LeO.refl _) (LeO.bind (tammyref02_Put.mono _ _ _ k) fun t => LeO.refl _)) (LeO.refl _)
set_option maxRecDepth 100000 in
set_option maxHeartbeats 4000000 in
theorem tammyref03_Put.calls (k : Nat) (A0 : Option Addr) (c0 : Nat) (l0 : List (S62)) (A1_0 : Option Addr) (c1_0 : Nat) (l1_0 : List (List Int)) (A1_1 : Option Addr) (c1_1 : Nat) (l1_1 : List Int) (a2_0 : Int) (a2_1 : Int) (a2_2 : Int) (A2_3 : Option Addr) (c2_3 : Nat) (l2_3 : List Int) (a3 : Int) (r1 : List (List Int)) (r2 : List Int) (r3 r4 : Int) (w : World) (hr0 : Kd.C k62 w A0 l0.length l0) (hc0 : l0.length ≤ c0) (hr1_0 : Kd.C (Kd.slice 3 (Kd.int .i64)) w A1_0 l1_0.length l1_0) (hc1_0 : l1_0.length ≤ c1_0) (hr1_1 : Kd.C (Kd.int .i64) w A1_1 l1_1.length l1_1) (hc1_1 : l1_1.length ≤ c1_1) (hr2_3 : Kd.C (Kd.int .i64) w A2_3 l2_3.length l2_3) (hc2_3 : l2_3.length ≤ c2_3)
    (h : tammyref03_Put.f k l0 l1_0 l1_1 a2_0 a2_1 a2_2 l2_3 a3 = some (r1, r2, r3, r4)) :
    Calls Try.prog 8 #[.slice A0 l0.length c0, .agg #[.slice A1_0 l1_0.length c1_0, .slice A1_1 l1_1.length c1_1], .agg #[.int .i64 a2_0, .int .i64 a2_1, .int .i64 a2_2, .slice A2_3 l2_3.length c2_3], .int .i64 a3] w (TPut2 r1 r2 r3 r4 w) := by
  have hu26 := Try.underlying26
  have hu28 := Try.underlying28
  have HR0 := Aside0.mk hr0
  have HR10 := Aside0.mk hr1_0
  have HR11 := Aside0.mk hr1_1
  have HR23 := Aside0.mk hr2_3
  have HX0 := Aside0.mk (Kd.C_F (Kd.heap_slice 3 (Kd.heap_int .i64)) hr1_0)
  have HX1 := Aside0.mk (Kd.C_F (Kd.heap_int .i64) hr1_1)
  clear hr0 hr1_0 hr1_1 hr2_3
  unfold tammyref03_Put.f at h
  obtain ⟨m, hm, h⟩ := Option.bind_eq_some_iff.mp h
  have HM := Aside0.mk hm
  have H := Aside0.mk h
  clear hm h
  have hB1 : Below w.heap.size w (((w.alloc (.cells #[.slice A1_0 l1_0.length c1_0, .slice A1_1 l1_1.length c1_1] 26)).alloc (.cells #[.int .i64 a2_0, .int .i64 a2_1, .int .i64 a2_2, .slice A2_3 l2_3.length c2_3] 28)).alloc (.cells #[.slice none 0 0, .slice none 0 0] 26)) := below_alloc (below_alloc (below_alloc (Below.refl _ _) _) _) _
  have hP1 := blk_alloc (blk_alloc (blk_new w (.cells #[.slice A1_0 l1_0.length c1_0, .slice A1_1 l1_1.length c1_1] 26)) (.cells #[.int .i64 a2_0, .int .i64 a2_1, .int .i64 a2_2, .slice A2_3 l2_3.length c2_3] 28)) (.cells #[.slice none 0 0, .slice none 0 0] 26)
  have hQ1 := blk_alloc (blk_new (w.alloc (.cells #[.slice A1_0 l1_0.length c1_0, .slice A1_1 l1_1.length c1_1] 26)) (.cells #[.int .i64 a2_0, .int .i64 a2_1, .int .i64 a2_2, .slice A2_3 l2_3.length c2_3] 28)) (.cells #[.slice none 0 0, .slice none 0 0] 26)
  have hZ1 := blk_new ((w.alloc (.cells #[.slice A1_0 l1_0.length c1_0, .slice A1_1 l1_1.length c1_1] 26)).alloc (.cells #[.int .i64 a2_0, .int .i64 a2_1, .int .i64 a2_2, .slice A2_3 l2_3.length c2_3] 28)) (.cells #[.slice none 0 0, .slice none 0 0] 26)
  simp only [World.size_alloc] at hQ1 hZ1
  have HB1 := Aside0.mk hB1
  have HP1 := Aside0.mk hP1
  have HQ1 := Aside0.mk hQ1
  have HZ1 := Aside0.mk hZ1
  clear hB1 hP1 hQ1 hZ1
  go_enter Try.func8, Try.ntmps8
  go_wp2_with fail
  refine (tammyref03_May.calls k _ _ l0 _ _ l1_0 _ _ l1_1 a2_0 a2_1 a2_2 _ _ l2_3 m _ (Kd.C_below HR0.out HB1.out) hc0 (Kd.C_below HR10.out HB1.out) hc1_0 (Kd.C_below HR11.out HB1.out) hc1_1 (Kd.C_below HR23.out HB1.out) hc2_3 HM.out).mono ?_
  rintro e W2 ⟨rfl, hb2⟩
  have HB := Aside0.mk (below_step HB1.out hb2)
  have HP := Aside0.mk (blk_below HP1.out hb2)
  have HQ := Aside0.mk (blk_below HQ1.out hb2)
  have HZ := Aside0.mk (blk_below HZ1.out hb2)
  clear hb2 HB1 HP1 HQ1 HZ1
  have hcP0 := blk_cell HP.out 0
  have hfP0 := blk_frozen HP.out 0
  have hcP1 := blk_cell HP.out 1
  have hfP1 := blk_frozen HP.out 1
  have hcQ0 := blk_cell HQ.out 0
  have hfQ0 := blk_frozen HQ.out 0
  have hcQ1 := blk_cell HQ.out 1
  have hfQ1 := blk_frozen HQ.out 1
  have hcQ2 := blk_cell HQ.out 2
  have hfQ2 := blk_frozen HQ.out 2
  have hcQ3 := blk_cell HQ.out 3
  have hfQ3 := blk_frozen HQ.out 3
  have hcZ0 := blk_cell HZ.out 0
  have hfZ0 := blk_frozen HZ.out 0
  have hcZ1 := blk_cell HZ.out 1
  have hfZ1 := blk_frozen HZ.out 1
  simp only [List.getElem?_toArray, List.getElem?_cons_zero, List.getElem?_cons_succ] at hcP0 hcP1 hcQ0 hcQ1 hcQ2 hcQ3 hcZ0 hcZ1
  cases m with
  | false =>
    have H2 := H.out
    rw [if_neg (by decide)] at H2
    simp only [Option.some.injEq, Prod.mk.injEq] at H2
    obtain ⟨rfl, rfl, rfl, rfl⟩ := H2
    clear H
    go_wp2_with fail
    have hbe : Below w.heap.size w ((W2.setCell ⟨w.heap.size + 2, 0, none⟩ (.slice A1_0 l1_0.length c1_0)).setCell ⟨w.heap.size + 2, 1, none⟩ (.slice A1_1 l1_1.length c1_1)) :=
      (HB.out.setCell (p := ⟨w.heap.size + 2, 0, none⟩) (by show w.heap.size ≤ w.heap.size + 2; omega) _).setCell (p := ⟨w.heap.size + 2, 1, none⟩) (by show w.heap.size ≤ w.heap.size + 2; omega) _
    refine bodyPost_ret (results_ctt rfl _ _ (w.heap.size + 1 + 1) 26 #[.slice A1_0 l1_0.length c1_0, .slice A1_1 l1_1.length c1_1] (0, 0) _ rfl (by refine blk_put (cs := #[.slice A1_0 l1_0.length c1_0, .slice none 0 0]) ?_ 1 _ rfl; refine blk_put (cs := #[.slice none 0 0, .slice none 0 0]) ?_ 0 _ rfl; exact HZ.out) Try.underlying26 rfl (by kernel_rfl)) rfl ?_
    exact ⟨_, rfl, ⟨_, _, _, _, rfl, hc1_0, hc1_1, Kd.C_below HR10.out hbe, Kd.C_below HR11.out hbe⟩, hbe⟩
  | true =>
    have H2 := H.out
    rw [if_pos rfl] at H2
    obtain ⟨key, hkey, H2⟩ := Option.bind_eq_some_iff.mp H2
    obtain ⟨n, hn, H2⟩ := Option.bind_eq_some_iff.mp H2
    have HKEY := Aside0.mk hkey
    have HN := Aside0.mk hn
    have H3 := Aside0.mk H2
    clear hkey hn H2 H
    go_upto_region 4 with (fail)
    have nHB_ := Aside0.mk (below_drew HB.out)
    have nHP_ := Aside0.mk (blk_drew HP.out)
    have nHQ_ := Aside0.mk (blk_drew HQ.out)
    have nHZ_ := Aside0.mk (blk_drew HZ.out)
    clear HB HP HQ HZ
    have HB := nHB_
    have HP := nHP_
    have HQ := nHQ_
    have HZ := nHZ_
    clear nHB_ nHP_ nHQ_ nHZ_
    by_cases hfull : n < 0 ∧ (l1_0.length : Int) ≥ a3
    · have H2 := H3.out
      rw [if_pos hfull] at H2
      simp only [Option.some.injEq, Prod.mk.injEq] at H2
      obtain ⟨rfl, rfl, rfl, rfl⟩ := H2
      clear H3
      have hd1 : decide (n < 0) = true := decide_eq_true hfull.1
      have hd2 : decide (a3 ≤ (l1_0.length : Int)) = true := decide_eq_true hfull.2
      clear hfull
      refine start_ (n := 13) (S := fun w' => w'.cell? ⟨w.heap.size, 0, none⟩ = some (.slice A1_0 l1_0.length c1_0) ∧ w'.cell? ⟨w.heap.size, 1, none⟩ = some (.slice A1_1 l1_1.length c1_1) ∧ w'.cell? ⟨w.heap.size + 1, 0, none⟩ = some (.int .i64 a2_0) ∧ w'.cell? ⟨w.heap.size + 1, 1, none⟩ = some (.int .i64 a2_1) ∧ w'.cell? ⟨w.heap.size + 1, 2, none⟩ = some (.int .i64 a2_2) ∧ w'.cell? ⟨w.heap.size + 1, 3, none⟩ = some (.slice A2_3 l2_3.length c2_3)) (ds := []) #[false, false, false, false, false, false, false, false, false, false, false, false, false] (by kernel_rfl) rfl rfl ⟨hcP0, hcP1, hcQ0, hcQ1, hcQ2, hcQ3⟩ (fun hHeld => ?_)
      generalize W2.drew = W20 at HB HP HQ HZ hHeld ⊢
      refine pure_ (i := 0) (N := some 22) (v := ?_) (a' := ?_) #[true, false, false, false, false, false, false, false, false, false, false, false, false] rfl rfl (by kernel_rfl) (fun _ _ _ h => h) (Or.inl ⟨by rfl, ?_⟩) ?_ ?_
      rotate_left
      · intro w'
        go_simp
        with_reducible rfl
      rotate_left
      · simp only [Act.put, List.setIfInBounds_toArray, List.set_cons_zero, List.set_cons_succ, i64_w, i32_w]
        rfl
      refine take_ (i := 1) (N := some 23) (v := ?_) (a' := ?_) #[true, true, false, false, false, false, false, false, false, false, false, false, false] rfl rfl (by kernel_rfl) (fun _ _ _ h => h) (Or.inl ⟨by rfl, ?_⟩) hHeld ?_ ?_
      rotate_left
      · rintro w' ⟨s0, s1, s2, s3, s4, s5⟩
        go_simp
        with_reducible rfl
      rotate_left
      · simp only [Act.put, List.setIfInBounds_toArray, List.set_cons_zero, List.set_cons_succ, i64_w, i32_w]
        rfl
      refine take_ (i := 2) (N := some 24) (v := ?_) (a' := ?_) #[true, true, true, false, false, false, false, false, false, false, false, false, false] rfl rfl (by kernel_rfl) (fun _ _ _ h => h) (Or.inl ⟨by rfl, ?_⟩) hHeld ?_ ?_
      rotate_left
      · rintro w' ⟨s0, s1, s2, s3, s4, s5⟩
        go_simp
        with_reducible rfl
      rotate_left
      · simp only [Act.put, List.setIfInBounds_toArray, List.set_cons_zero, List.set_cons_succ, i64_w, i32_w]
        rfl
      refine one_ (i := 3) (N := some 25) #[true, true, true, true, false, false, false, false, false, false, false, false, false] rfl rfl (by kernel_rfl) (by decide) (fun K hK => ?_)
      refine goes_ Try.func24 (by kernel_rfl) rfl #[.agg #[.int .i64 a2_0, .int .i64 a2_1, .int .i64 a2_2, .slice A2_3 l2_3.length c2_3]] (by rfl) rfl rfl (by simp only [List.map_toArray, List.map_cons, List.map_nil]; rfl) ?_
      with_reducible refine (tammyref03_Key.calls a2_0 a2_1 a2_2 A2_3 c2_3 l2_3 key W20 (Kd.C_below HR23.out HB.out) hc2_3 HKEY.out).mono ?_
      rintro e W3 ⟨v3, rfl, ho3, hb3⟩
      obtain ⟨A3, c3, rfl⟩ := Kd.R_slice ho3
      have HM3 := Aside0.mk (Kd.R_reads' ho3)
      have HB3 := Aside0.mk (below_step HB.out hb3)
      have HP3 := Aside0.mk (blk_below HP.out hb3)
      have HQ3 := Aside0.mk (blk_below HQ.out hb3)
      have HZ3 := Aside0.mk (blk_below HZ.out hb3)
      refine ⟨_, rfl, ?_⟩
      refine hK.out _ _ ⟨(pw_cell_below hb3 hHeld.1), (pw_cell_below hb3 hHeld.2.1), (pw_cell_below hb3 hHeld.2.2.1), (pw_cell_below hb3 hHeld.2.2.2.1), (pw_cell_below hb3 hHeld.2.2.2.2.1), (pw_cell_below hb3 hHeld.2.2.2.2.2)⟩ (fun hHeld => ?_)
      clear hK K
      refine norm_ (a' := ?_) ?_ ?_
      rotate_left
      · show Act.put _ (some 25) _ = _
        simp only [Act.put, List.setIfInBounds_toArray, List.set_cons_zero, List.set_cons_succ, i64_w, i32_w]
        rfl
      refine one_ (i := 4) (N := some 26) #[true, true, true, true, true, false, false, false, false, false, false, false, false] rfl rfl (by kernel_rfl) (by decide) (fun K hK => ?_)
      refine goes_ Try.func23 (by kernel_rfl) rfl #[.slice A1_0 l1_0.length c1_0, .slice A3 key.length c3] (by rfl) rfl rfl (by simp only [List.map_toArray, List.map_cons, List.map_nil]; rfl) ?_
      with_reducible refine (tammyref02_At.calls k A1_0 c1_0 l1_0 A3 c3 key n W3 (Kd.C_below HR10.out HB3.out) hc1_0 HM3.out.2.2 HM3.out.2.1 HN.out).mono ?_
      rintro e W4 ⟨rfl, hd4⟩
      have hb4 := hd4.below
      have HB4 := Aside0.mk (below_step HB3.out hb4)
      have HP4 := Aside0.mk (blk_below HP3.out hb4)
      have HQ4 := Aside0.mk (blk_below HQ3.out hb4)
      have HZ4 := Aside0.mk (blk_below HZ3.out hb4)
      refine ⟨_, rfl, ?_⟩
      refine hK.out _ _ ⟨(pw_cell_below hb4 hHeld.1), (pw_cell_below hb4 hHeld.2.1), (pw_cell_below hb4 hHeld.2.2.1), (pw_cell_below hb4 hHeld.2.2.2.1), (pw_cell_below hb4 hHeld.2.2.2.2.1), (pw_cell_below hb4 hHeld.2.2.2.2.2)⟩ (fun hHeld => ?_)
      clear hK K
      refine norm_ (a' := ?_) ?_ ?_
      rotate_left
      · show Act.put _ (some 26) _ = _
        simp only [Act.put, List.setIfInBounds_toArray, List.set_cons_zero, List.set_cons_succ, i64_w, i32_w]
        rfl
      refine pure_ (i := 5) (N := some 27) (v := ?_) (a' := ?_) #[true, true, true, true, true, true, false, false, false, false, false, false, false] rfl rfl (by kernel_rfl) (fun _ _ _ h => h) (Or.inl ⟨by rfl, ?_⟩) ?_ ?_
      rotate_left
      · intro w'
        go_simp
        with_reducible rfl
      rotate_left
      · simp only [Act.put, List.setIfInBounds_toArray, List.set_cons_zero, List.set_cons_succ, i64_w, i32_w]
        rfl
      refine pure_ (i := 6) (N := some 28) (v := ?_) (a' := ?_) #[true, true, true, true, true, true, true, false, false, false, false, false, false] rfl rfl (by kernel_rfl) (fun _ _ _ h => h) (Or.inl ⟨by rfl, ?_⟩) ?_ ?_
      rotate_left
      · intro w'
        go_simp
        with_reducible rfl
      rotate_left
      · simp only [Act.put, List.setIfInBounds_toArray, List.set_cons_zero, List.set_cons_succ, i64_w, i32_w]
        rfl
      refine pure_ (i := 7) (N := some 29) (v := ?_) (a' := ?_) #[true, true, true, true, true, true, true, true, false, false, false, false, false] rfl rfl (by kernel_rfl) (fun _ _ _ h => h) (Or.inl ⟨by rfl, ?_⟩) ?_ ?_
      rotate_left
      · intro w'
        go_simp
        with_reducible rfl
      rotate_left
      · simp only [Act.put, List.setIfInBounds_toArray, List.set_cons_zero, List.set_cons_succ, i64_w, i32_w]
        rfl
      refine pure_ (i := 10) (N := some 32) (v := ?_) (a' := ?_) #[true, true, true, true, true, true, true, true, false, false, true, false, false] rfl rfl (by kernel_rfl) (fun _ _ _ h => h) (Or.inl ⟨by rfl, ?_⟩) ?_ ?_
      rotate_left
      · intro w'
        go_simp
        with_reducible rfl
      rotate_left
      · simp only [Act.put, List.setIfInBounds_toArray, List.set_cons_zero, List.set_cons_succ, i64_w, i32_w]
        rfl
      refine take_ (i := 8) (N := some 30) (v := ?_) (a' := ?_) #[true, true, true, true, true, true, true, true, true, false, true, false, false] rfl rfl (by kernel_rfl) (fun _ _ _ h => h) (Or.inl ⟨by rfl, ?_⟩) hHeld ?_ ?_
      rotate_left
      · rintro w' ⟨s0, s1, s2, s3, s4, s5⟩
        go_simp
        with_reducible rfl
      rotate_left
      · simp only [Act.put, List.setIfInBounds_toArray, List.set_cons_zero, List.set_cons_succ, i64_w, i32_w]
        rfl
      refine pure_ (i := 9) (N := some 31) (v := ?_) (a' := ?_) #[true, true, true, true, true, true, true, true, true, true, true, false, false] rfl rfl (by kernel_rfl) (fun _ _ _ h => h) (Or.inl ⟨by rfl, ?_⟩) ?_ ?_
      rotate_left
      · intro w'
        go_simp
        with_reducible rfl
      rotate_left
      · simp only [Act.put, List.setIfInBounds_toArray, List.set_cons_zero, List.set_cons_succ, i64_w, i32_w]
        rfl
      refine pure_ (i := 11) (N := some 33) (v := ?_) (a' := ?_) #[true, true, true, true, true, true, true, true, true, true, true, true, false] rfl rfl (by kernel_rfl) (fun _ _ _ h => h) (Or.inl ⟨by rfl, ?_⟩) ?_ ?_
      rotate_left
      · intro w'
        go_simp
        with_reducible rfl
      rotate_left
      · simp only [Act.put, List.setIfInBounds_toArray, List.set_cons_zero, List.set_cons_succ, i64_w, i32_w]
        rfl
      refine pure_ (i := 12) (N := some 34) (v := ?_) (a' := ?_) #[true, true, true, true, true, true, true, true, true, true, true, true, true] rfl rfl (by kernel_rfl) (fun _ _ _ h => h) (Or.inl ⟨by rfl, ?_⟩) ?_ ?_
      rotate_left
      · intro w'
        go_simp
        with_reducible rfl
      rotate_left
      · simp only [Act.put, List.setIfInBounds_toArray, List.set_cons_zero, List.set_cons_succ, i64_w, i32_w]
        rfl
      refine done_ (by kernel_rfl) ?_

      clear hHeld HB HP HQ HZ HB3 HP3 HQ3 HZ3 HM3 hcP0 hfP0 hcP1 hfP1 hcQ0 hfQ0 hcQ1 hfQ1 hcQ2 hfQ2 hcQ3 hfQ3 hcZ0 hfZ0 hcZ1 hfZ1 hb3 ho3 hb4 hd4
      have HB := HB4
      have HP := HP4
      have HQ := HQ4
      have HZ := HZ4
      clear HB4 HP4 HQ4 HZ4
      have hcP0 := blk_cell HP.out 0
      have hfP0 := blk_frozen HP.out 0
      have hcP1 := blk_cell HP.out 1
      have hfP1 := blk_frozen HP.out 1
      have hcQ0 := blk_cell HQ.out 0
      have hfQ0 := blk_frozen HQ.out 0
      have hcQ1 := blk_cell HQ.out 1
      have hfQ1 := blk_frozen HQ.out 1
      have hcQ2 := blk_cell HQ.out 2
      have hfQ2 := blk_frozen HQ.out 2
      have hcQ3 := blk_cell HQ.out 3
      have hfQ3 := blk_frozen HQ.out 3
      have hcZ0 := blk_cell HZ.out 0
      have hfZ0 := blk_frozen HZ.out 0
      have hcZ1 := blk_cell HZ.out 1
      have hfZ1 := blk_frozen HZ.out 1
      simp only [List.getElem?_toArray, List.getElem?_cons_zero, List.getElem?_cons_succ] at hcP0 hcP1 hcQ0 hcQ1 hcQ2 hcQ3 hcZ0 hcZ1
      go_wp2_with fail
      have hbe : Below w.heap.size w ((W4.setCell ⟨w.heap.size + 2, 0, none⟩ (.slice A1_0 l1_0.length c1_0)).setCell ⟨w.heap.size + 2, 1, none⟩ (.slice A1_1 l1_1.length c1_1)) :=
        (HB.out.setCell (p := ⟨w.heap.size + 2, 0, none⟩) (by show w.heap.size ≤ w.heap.size + 2; omega) _).setCell (p := ⟨w.heap.size + 2, 1, none⟩) (by show w.heap.size ≤ w.heap.size + 2; omega) _
      refine bodyPost_ret (results_ctt rfl _ _ (w.heap.size + 1 + 1) 26 #[.slice A1_0 l1_0.length c1_0, .slice A1_1 l1_1.length c1_1] (0, 0) _ rfl (by refine blk_put (cs := #[.slice A1_0 l1_0.length c1_0, .slice none 0 0]) ?_ 1 _ rfl; refine blk_put (cs := #[.slice none 0 0, .slice none 0 0]) ?_ 0 _ rfl; exact HZ.out) Try.underlying26 rfl (by kernel_rfl)) rfl ?_
      exact ⟨_, rfl, ⟨_, _, _, _, rfl, hc1_0, hc1_1, Kd.C_below HR10.out hbe, Kd.C_below HR11.out hbe⟩, hbe⟩
    have H2 := H3.out
    rw [if_neg hfull] at H2
    obtain ⟨⟨b1, b2, b3, b4⟩, hput, H2⟩ := Option.bind_eq_some_iff.mp H2
    simp only [Option.some.injEq, Prod.mk.injEq] at H2
    obtain ⟨rfl, rfl, rfl, rfl⟩ := H2
    have HPUT := Aside0.mk hput
    clear H3 hput
    by_cases hneg : n < 0
    all_goals have hd1 := hneg
    focus
      replace hd1 : decide (n < 0) = true := decide_eq_true hneg
      have hd2 : decide (a3 ≤ (l1_0.length : Int)) = false := decide_eq_false (fun h => hfull ⟨hneg, h⟩)
      clear hfull hneg
      refine start_ (n := 13) (S := fun w' => w'.cell? ⟨w.heap.size, 0, none⟩ = some (.slice A1_0 l1_0.length c1_0) ∧ w'.cell? ⟨w.heap.size, 1, none⟩ = some (.slice A1_1 l1_1.length c1_1) ∧ w'.cell? ⟨w.heap.size + 1, 0, none⟩ = some (.int .i64 a2_0) ∧ w'.cell? ⟨w.heap.size + 1, 1, none⟩ = some (.int .i64 a2_1) ∧ w'.cell? ⟨w.heap.size + 1, 2, none⟩ = some (.int .i64 a2_2) ∧ w'.cell? ⟨w.heap.size + 1, 3, none⟩ = some (.slice A2_3 l2_3.length c2_3)) (ds := []) #[false, false, false, false, false, false, false, false, false, false, false, false, false] (by kernel_rfl) rfl rfl ⟨hcP0, hcP1, hcQ0, hcQ1, hcQ2, hcQ3⟩ (fun hHeld => ?_)
      generalize W2.drew = W20 at HB HP HQ HZ hHeld ⊢
      refine pure_ (i := 0) (N := some 22) (v := ?_) (a' := ?_) #[true, false, false, false, false, false, false, false, false, false, false, false, false] rfl rfl (by kernel_rfl) (fun _ _ _ h => h) (Or.inl ⟨by rfl, ?_⟩) ?_ ?_
      rotate_left
      · intro w'
        go_simp
        with_reducible rfl
      rotate_left
      · simp only [Act.put, List.setIfInBounds_toArray, List.set_cons_zero, List.set_cons_succ, i64_w, i32_w]
        rfl
      refine take_ (i := 1) (N := some 23) (v := ?_) (a' := ?_) #[true, true, false, false, false, false, false, false, false, false, false, false, false] rfl rfl (by kernel_rfl) (fun _ _ _ h => h) (Or.inl ⟨by rfl, ?_⟩) hHeld ?_ ?_
      rotate_left
      · rintro w' ⟨s0, s1, s2, s3, s4, s5⟩
        go_simp
        with_reducible rfl
      rotate_left
      · simp only [Act.put, List.setIfInBounds_toArray, List.set_cons_zero, List.set_cons_succ, i64_w, i32_w]
        rfl
      refine take_ (i := 2) (N := some 24) (v := ?_) (a' := ?_) #[true, true, true, false, false, false, false, false, false, false, false, false, false] rfl rfl (by kernel_rfl) (fun _ _ _ h => h) (Or.inl ⟨by rfl, ?_⟩) hHeld ?_ ?_
      rotate_left
      · rintro w' ⟨s0, s1, s2, s3, s4, s5⟩
        go_simp
        with_reducible rfl
      rotate_left
      · simp only [Act.put, List.setIfInBounds_toArray, List.set_cons_zero, List.set_cons_succ, i64_w, i32_w]
        rfl
      refine one_ (i := 3) (N := some 25) #[true, true, true, true, false, false, false, false, false, false, false, false, false] rfl rfl (by kernel_rfl) (by decide) (fun K hK => ?_)
      refine goes_ Try.func24 (by kernel_rfl) rfl #[.agg #[.int .i64 a2_0, .int .i64 a2_1, .int .i64 a2_2, .slice A2_3 l2_3.length c2_3]] (by rfl) rfl rfl (by simp only [List.map_toArray, List.map_cons, List.map_nil]; rfl) ?_
      with_reducible refine (tammyref03_Key.calls a2_0 a2_1 a2_2 A2_3 c2_3 l2_3 key W20 (Kd.C_below HR23.out HB.out) hc2_3 HKEY.out).mono ?_
      rintro e W3 ⟨v3, rfl, ho3, hb3⟩
      obtain ⟨A3, c3, rfl⟩ := Kd.R_slice ho3
      have HM3 := Aside0.mk (Kd.R_reads' ho3)
      have HB3 := Aside0.mk (below_step HB.out hb3)
      have HP3 := Aside0.mk (blk_below HP.out hb3)
      have HQ3 := Aside0.mk (blk_below HQ.out hb3)
      have HZ3 := Aside0.mk (blk_below HZ.out hb3)
      refine ⟨_, rfl, ?_⟩
      refine hK.out _ _ ⟨(pw_cell_below hb3 hHeld.1), (pw_cell_below hb3 hHeld.2.1), (pw_cell_below hb3 hHeld.2.2.1), (pw_cell_below hb3 hHeld.2.2.2.1), (pw_cell_below hb3 hHeld.2.2.2.2.1), (pw_cell_below hb3 hHeld.2.2.2.2.2)⟩ (fun hHeld => ?_)
      clear hK K
      refine norm_ (a' := ?_) ?_ ?_
      rotate_left
      · show Act.put _ (some 25) _ = _
        simp only [Act.put, List.setIfInBounds_toArray, List.set_cons_zero, List.set_cons_succ, i64_w, i32_w]
        rfl
      refine one_ (i := 4) (N := some 26) #[true, true, true, true, true, false, false, false, false, false, false, false, false] rfl rfl (by kernel_rfl) (by decide) (fun K hK => ?_)
      refine goes_ Try.func23 (by kernel_rfl) rfl #[.slice A1_0 l1_0.length c1_0, .slice A3 key.length c3] (by rfl) rfl rfl (by simp only [List.map_toArray, List.map_cons, List.map_nil]; rfl) ?_
      with_reducible refine (tammyref02_At.calls k A1_0 c1_0 l1_0 A3 c3 key n W3 (Kd.C_below HR10.out HB3.out) hc1_0 HM3.out.2.2 HM3.out.2.1 HN.out).mono ?_
      rintro e W4 ⟨rfl, hd4⟩
      have hb4 := hd4.below
      have HB4 := Aside0.mk (below_step HB3.out hb4)
      have HP4 := Aside0.mk (blk_below HP3.out hb4)
      have HQ4 := Aside0.mk (blk_below HQ3.out hb4)
      have HZ4 := Aside0.mk (blk_below HZ3.out hb4)
      refine ⟨_, rfl, ?_⟩
      refine hK.out _ _ ⟨(pw_cell_below hb4 hHeld.1), (pw_cell_below hb4 hHeld.2.1), (pw_cell_below hb4 hHeld.2.2.1), (pw_cell_below hb4 hHeld.2.2.2.1), (pw_cell_below hb4 hHeld.2.2.2.2.1), (pw_cell_below hb4 hHeld.2.2.2.2.2)⟩ (fun hHeld => ?_)
      clear hK K
      refine norm_ (a' := ?_) ?_ ?_
      rotate_left
      · show Act.put _ (some 26) _ = _
        simp only [Act.put, List.setIfInBounds_toArray, List.set_cons_zero, List.set_cons_succ, i64_w, i32_w]
        rfl
      refine pure_ (i := 5) (N := some 27) (v := ?_) (a' := ?_) #[true, true, true, true, true, true, false, false, false, false, false, false, false] rfl rfl (by kernel_rfl) (fun _ _ _ h => h) (Or.inl ⟨by rfl, ?_⟩) ?_ ?_
      rotate_left
      · intro w'
        go_simp
        with_reducible rfl
      rotate_left
      · simp only [Act.put, List.setIfInBounds_toArray, List.set_cons_zero, List.set_cons_succ, i64_w, i32_w]
        rfl
      refine pure_ (i := 6) (N := some 28) (v := ?_) (a' := ?_) #[true, true, true, true, true, true, true, false, false, false, false, false, false] rfl rfl (by kernel_rfl) (fun _ _ _ h => h) (Or.inl ⟨by rfl, ?_⟩) ?_ ?_
      rotate_left
      · intro w'
        go_simp
        with_reducible rfl
      rotate_left
      · simp only [Act.put, List.setIfInBounds_toArray, List.set_cons_zero, List.set_cons_succ, i64_w, i32_w]
        rfl
      refine pure_ (i := 7) (N := some 29) (v := ?_) (a' := ?_) #[true, true, true, true, true, true, true, true, false, false, false, false, false] rfl rfl (by kernel_rfl) (fun _ _ _ h => h) (Or.inl ⟨by rfl, ?_⟩) ?_ ?_
      rotate_left
      · intro w'
        go_simp
        with_reducible rfl
      rotate_left
      · simp only [Act.put, List.setIfInBounds_toArray, List.set_cons_zero, List.set_cons_succ, i64_w, i32_w]
        rfl
      refine pure_ (i := 10) (N := some 32) (v := ?_) (a' := ?_) #[true, true, true, true, true, true, true, true, false, false, true, false, false] rfl rfl (by kernel_rfl) (fun _ _ _ h => h) (Or.inl ⟨by rfl, ?_⟩) ?_ ?_
      rotate_left
      · intro w'
        go_simp
        with_reducible rfl
      rotate_left
      · simp only [Act.put, List.setIfInBounds_toArray, List.set_cons_zero, List.set_cons_succ, i64_w, i32_w]
        rfl
      refine take_ (i := 8) (N := some 30) (v := ?_) (a' := ?_) #[true, true, true, true, true, true, true, true, true, false, true, false, false] rfl rfl (by kernel_rfl) (fun _ _ _ h => h) (Or.inl ⟨by rfl, ?_⟩) hHeld ?_ ?_
      rotate_left
      · rintro w' ⟨s0, s1, s2, s3, s4, s5⟩
        go_simp
        with_reducible rfl
      rotate_left
      · simp only [Act.put, List.setIfInBounds_toArray, List.set_cons_zero, List.set_cons_succ, i64_w, i32_w]
        rfl
      refine pure_ (i := 9) (N := some 31) (v := ?_) (a' := ?_) #[true, true, true, true, true, true, true, true, true, true, true, false, false] rfl rfl (by kernel_rfl) (fun _ _ _ h => h) (Or.inl ⟨by rfl, ?_⟩) ?_ ?_
      rotate_left
      · intro w'
        go_simp
        with_reducible rfl
      rotate_left
      · simp only [Act.put, List.setIfInBounds_toArray, List.set_cons_zero, List.set_cons_succ, i64_w, i32_w]
        rfl
      refine pure_ (i := 11) (N := some 33) (v := ?_) (a' := ?_) #[true, true, true, true, true, true, true, true, true, true, true, true, false] rfl rfl (by kernel_rfl) (fun _ _ _ h => h) (Or.inl ⟨by rfl, ?_⟩) ?_ ?_
      rotate_left
      · intro w'
        go_simp
        with_reducible rfl
      rotate_left
      · simp only [Act.put, List.setIfInBounds_toArray, List.set_cons_zero, List.set_cons_succ, i64_w, i32_w]
        rfl
      refine pure_ (i := 12) (N := some 34) (v := ?_) (a' := ?_) #[true, true, true, true, true, true, true, true, true, true, true, true, true] rfl rfl (by kernel_rfl) (fun _ _ _ h => h) (Or.inl ⟨by rfl, ?_⟩) ?_ ?_
      rotate_left
      · intro w'
        go_simp
        with_reducible rfl
      rotate_left
      · simp only [Act.put, List.setIfInBounds_toArray, List.set_cons_zero, List.set_cons_succ, i64_w, i32_w]
        rfl
      refine done_ (by kernel_rfl) ?_

      clear hHeld HB HP HQ HZ HB3 HP3 HQ3 HZ3 HM3 hcP0 hfP0 hcP1 hfP1 hcQ0 hfQ0 hcQ1 hfQ1 hcQ2 hfQ2 hcQ3 hfQ3 hcZ0 hfZ0 hcZ1 hfZ1 hb3 ho3 hb4 hd4
      have HB := HB4
      have HP := HP4
      have HQ := HQ4
      have HZ := HZ4
      clear HB4 HP4 HQ4 HZ4
      have hcP0 := blk_cell HP.out 0
      have hfP0 := blk_frozen HP.out 0
      have hcP1 := blk_cell HP.out 1
      have hfP1 := blk_frozen HP.out 1
      have hcQ0 := blk_cell HQ.out 0
      have hfQ0 := blk_frozen HQ.out 0
      have hcQ1 := blk_cell HQ.out 1
      have hfQ1 := blk_frozen HQ.out 1
      have hcQ2 := blk_cell HQ.out 2
      have hfQ2 := blk_frozen HQ.out 2
      have hcQ3 := blk_cell HQ.out 3
      have hfQ3 := blk_frozen HQ.out 3
      have hcZ0 := blk_cell HZ.out 0
      have hfZ0 := blk_frozen HZ.out 0
      have hcZ1 := blk_cell HZ.out 1
      have hfZ1 := blk_frozen HZ.out 1
      simp only [List.getElem?_toArray, List.getElem?_cons_zero, List.getElem?_cons_succ] at hcP0 hcP1 hcQ0 hcQ1 hcQ2 hcQ3 hcZ0 hcZ1
    rotate_left
    focus
      replace hd1 : decide (n < 0) = false := decide_eq_false hneg
      have hd2 : True := trivial
      clear hfull hneg
      refine start_ (n := 13) (S := fun w' => w'.cell? ⟨w.heap.size, 0, none⟩ = some (.slice A1_0 l1_0.length c1_0) ∧ w'.cell? ⟨w.heap.size, 1, none⟩ = some (.slice A1_1 l1_1.length c1_1) ∧ w'.cell? ⟨w.heap.size + 1, 0, none⟩ = some (.int .i64 a2_0) ∧ w'.cell? ⟨w.heap.size + 1, 1, none⟩ = some (.int .i64 a2_1) ∧ w'.cell? ⟨w.heap.size + 1, 2, none⟩ = some (.int .i64 a2_2) ∧ w'.cell? ⟨w.heap.size + 1, 3, none⟩ = some (.slice A2_3 l2_3.length c2_3)) (ds := []) #[false, false, false, false, false, false, false, false, false, false, false, false, false] (by kernel_rfl) rfl rfl ⟨hcP0, hcP1, hcQ0, hcQ1, hcQ2, hcQ3⟩ (fun hHeld => ?_)
      generalize W2.drew = W20 at HB HP HQ HZ hHeld ⊢
      refine pure_ (i := 0) (N := some 22) (v := ?_) (a' := ?_) #[true, false, false, false, false, false, false, false, false, false, false, false, false] rfl rfl (by kernel_rfl) (fun _ _ _ h => h) (Or.inl ⟨by rfl, ?_⟩) ?_ ?_
      rotate_left
      · intro w'
        go_simp
        with_reducible rfl
      rotate_left
      · simp only [Act.put, List.setIfInBounds_toArray, List.set_cons_zero, List.set_cons_succ, i64_w, i32_w]
        rfl
      refine take_ (i := 1) (N := some 23) (v := ?_) (a' := ?_) #[true, true, false, false, false, false, false, false, false, false, false, false, false] rfl rfl (by kernel_rfl) (fun _ _ _ h => h) (Or.inl ⟨by rfl, ?_⟩) hHeld ?_ ?_
      rotate_left
      · rintro w' ⟨s0, s1, s2, s3, s4, s5⟩
        go_simp
        with_reducible rfl
      rotate_left
      · simp only [Act.put, List.setIfInBounds_toArray, List.set_cons_zero, List.set_cons_succ, i64_w, i32_w]
        rfl
      refine take_ (i := 2) (N := some 24) (v := ?_) (a' := ?_) #[true, true, true, false, false, false, false, false, false, false, false, false, false] rfl rfl (by kernel_rfl) (fun _ _ _ h => h) (Or.inl ⟨by rfl, ?_⟩) hHeld ?_ ?_
      rotate_left
      · rintro w' ⟨s0, s1, s2, s3, s4, s5⟩
        go_simp
        with_reducible rfl
      rotate_left
      · simp only [Act.put, List.setIfInBounds_toArray, List.set_cons_zero, List.set_cons_succ, i64_w, i32_w]
        rfl
      refine one_ (i := 3) (N := some 25) #[true, true, true, true, false, false, false, false, false, false, false, false, false] rfl rfl (by kernel_rfl) (by decide) (fun K hK => ?_)
      refine goes_ Try.func24 (by kernel_rfl) rfl #[.agg #[.int .i64 a2_0, .int .i64 a2_1, .int .i64 a2_2, .slice A2_3 l2_3.length c2_3]] (by rfl) rfl rfl (by simp only [List.map_toArray, List.map_cons, List.map_nil]; rfl) ?_
      with_reducible refine (tammyref03_Key.calls a2_0 a2_1 a2_2 A2_3 c2_3 l2_3 key W20 (Kd.C_below HR23.out HB.out) hc2_3 HKEY.out).mono ?_
      rintro e W3 ⟨v3, rfl, ho3, hb3⟩
      obtain ⟨A3, c3, rfl⟩ := Kd.R_slice ho3
      have HM3 := Aside0.mk (Kd.R_reads' ho3)
      have HB3 := Aside0.mk (below_step HB.out hb3)
      have HP3 := Aside0.mk (blk_below HP.out hb3)
      have HQ3 := Aside0.mk (blk_below HQ.out hb3)
      have HZ3 := Aside0.mk (blk_below HZ.out hb3)
      refine ⟨_, rfl, ?_⟩
      refine hK.out _ _ ⟨(pw_cell_below hb3 hHeld.1), (pw_cell_below hb3 hHeld.2.1), (pw_cell_below hb3 hHeld.2.2.1), (pw_cell_below hb3 hHeld.2.2.2.1), (pw_cell_below hb3 hHeld.2.2.2.2.1), (pw_cell_below hb3 hHeld.2.2.2.2.2)⟩ (fun hHeld => ?_)
      clear hK K
      refine norm_ (a' := ?_) ?_ ?_
      rotate_left
      · show Act.put _ (some 25) _ = _
        simp only [Act.put, List.setIfInBounds_toArray, List.set_cons_zero, List.set_cons_succ, i64_w, i32_w]
        rfl
      refine one_ (i := 4) (N := some 26) #[true, true, true, true, true, false, false, false, false, false, false, false, false] rfl rfl (by kernel_rfl) (by decide) (fun K hK => ?_)
      refine goes_ Try.func23 (by kernel_rfl) rfl #[.slice A1_0 l1_0.length c1_0, .slice A3 key.length c3] (by rfl) rfl rfl (by simp only [List.map_toArray, List.map_cons, List.map_nil]; rfl) ?_
      with_reducible refine (tammyref02_At.calls k A1_0 c1_0 l1_0 A3 c3 key n W3 (Kd.C_below HR10.out HB3.out) hc1_0 HM3.out.2.2 HM3.out.2.1 HN.out).mono ?_
      rintro e W4 ⟨rfl, hd4⟩
      have hb4 := hd4.below
      have HB4 := Aside0.mk (below_step HB3.out hb4)
      have HP4 := Aside0.mk (blk_below HP3.out hb4)
      have HQ4 := Aside0.mk (blk_below HQ3.out hb4)
      have HZ4 := Aside0.mk (blk_below HZ3.out hb4)
      refine ⟨_, rfl, ?_⟩
      refine hK.out _ _ ⟨(pw_cell_below hb4 hHeld.1), (pw_cell_below hb4 hHeld.2.1), (pw_cell_below hb4 hHeld.2.2.1), (pw_cell_below hb4 hHeld.2.2.2.1), (pw_cell_below hb4 hHeld.2.2.2.2.1), (pw_cell_below hb4 hHeld.2.2.2.2.2)⟩ (fun hHeld => ?_)
      clear hK K
      refine norm_ (a' := ?_) ?_ ?_
      rotate_left
      · show Act.put _ (some 26) _ = _
        simp only [Act.put, List.setIfInBounds_toArray, List.set_cons_zero, List.set_cons_succ, i64_w, i32_w]
        rfl
      refine pure_ (i := 5) (N := some 27) (v := ?_) (a' := ?_) #[true, true, true, true, true, true, false, false, false, false, false, false, false] rfl rfl (by kernel_rfl) (fun _ _ _ h => h) (Or.inl ⟨by rfl, ?_⟩) ?_ ?_
      rotate_left
      · intro w'
        go_simp
        with_reducible rfl
      rotate_left
      · simp only [Act.put, List.setIfInBounds_toArray, List.set_cons_zero, List.set_cons_succ, i64_w, i32_w]
        rfl
      refine pure_ (i := 6) (N := some 28) (v := ?_) (a' := ?_) #[true, true, true, true, true, true, true, false, false, false, false, false, false] rfl rfl (by kernel_rfl) (fun _ _ _ h => h) (Or.inl ⟨by rfl, ?_⟩) ?_ ?_
      rotate_left
      · intro w'
        go_simp
        with_reducible rfl
      rotate_left
      · simp only [Act.put, List.setIfInBounds_toArray, List.set_cons_zero, List.set_cons_succ, i64_w, i32_w]
        rfl
      refine pure_ (i := 7) (N := some 29) (v := undef) (a' := ?_) #[true, true, true, true, true, true, true, true, false, false, false, false, false] rfl rfl (by kernel_rfl) (fun _ _ _ h => h) (Or.inr ⟨by rfl, rfl⟩) ?_ ?_
      rotate_left
      · simp only [Act.put, List.setIfInBounds_toArray, List.set_cons_zero, List.set_cons_succ, i64_w, i32_w]
        rfl
      refine pure_ (i := 8) (N := some 30) (v := undef) (a' := ?_) #[true, true, true, true, true, true, true, true, true, false, false, false, false] rfl rfl (by kernel_rfl) (fun _ _ _ h => h) (Or.inr ⟨by rfl, rfl⟩) ?_ ?_
      rotate_left
      · simp only [Act.put, List.setIfInBounds_toArray, List.set_cons_zero, List.set_cons_succ, i64_w, i32_w]
        rfl
      refine pure_ (i := 9) (N := some 31) (v := undef) (a' := ?_) #[true, true, true, true, true, true, true, true, true, true, false, false, false] rfl rfl (by kernel_rfl) (fun _ _ _ h => h) (Or.inr ⟨by rfl, rfl⟩) ?_ ?_
      rotate_left
      · simp only [Act.put, List.setIfInBounds_toArray, List.set_cons_zero, List.set_cons_succ, i64_w, i32_w]
        rfl
      refine pure_ (i := 10) (N := some 32) (v := undef) (a' := ?_) #[true, true, true, true, true, true, true, true, true, true, true, false, false] rfl rfl (by kernel_rfl) (fun _ _ _ h => h) (Or.inr ⟨by rfl, rfl⟩) ?_ ?_
      rotate_left
      · simp only [Act.put, List.setIfInBounds_toArray, List.set_cons_zero, List.set_cons_succ, i64_w, i32_w]
        rfl
      refine pure_ (i := 11) (N := some 33) (v := undef) (a' := ?_) #[true, true, true, true, true, true, true, true, true, true, true, true, false] rfl rfl (by kernel_rfl) (fun _ _ _ h => h) (Or.inr ⟨by rfl, rfl⟩) ?_ ?_
      rotate_left
      · simp only [Act.put, List.setIfInBounds_toArray, List.set_cons_zero, List.set_cons_succ, i64_w, i32_w]
        rfl
      refine pure_ (i := 12) (N := some 34) (v := ?_) (a' := ?_) #[true, true, true, true, true, true, true, true, true, true, true, true, true] rfl rfl (by kernel_rfl) (fun _ _ _ h => h) (Or.inl ⟨by rfl, ?_⟩) ?_ ?_
      rotate_left
      · intro w'
        go_simp
        with_reducible rfl
      rotate_left
      · simp only [Act.put, List.setIfInBounds_toArray, List.set_cons_zero, List.set_cons_succ, i64_w, i32_w]
        rfl
      refine done_ (by kernel_rfl) ?_

      clear hHeld HB HP HQ HZ HB3 HP3 HQ3 HZ3 HM3 hcP0 hfP0 hcP1 hfP1 hcQ0 hfQ0 hcQ1 hfQ1 hcQ2 hfQ2 hcQ3 hfQ3 hcZ0 hfZ0 hcZ1 hfZ1 hb3 ho3 hb4 hd4
      have HB := HB4
      have HP := HP4
      have HQ := HQ4
      have HZ := HZ4
      clear HB4 HP4 HQ4 HZ4
      have hcP0 := blk_cell HP.out 0
      have hfP0 := blk_frozen HP.out 0
      have hcP1 := blk_cell HP.out 1
      have hfP1 := blk_frozen HP.out 1
      have hcQ0 := blk_cell HQ.out 0
      have hfQ0 := blk_frozen HQ.out 0
      have hcQ1 := blk_cell HQ.out 1
      have hfQ1 := blk_frozen HQ.out 1
      have hcQ2 := blk_cell HQ.out 2
      have hfQ2 := blk_frozen HQ.out 2
      have hcQ3 := blk_cell HQ.out 3
      have hfQ3 := blk_frozen HQ.out 3
      have hcZ0 := blk_cell HZ.out 0
      have hfZ0 := blk_frozen HZ.out 0
      have hcZ1 := blk_cell HZ.out 1
      have hfZ1 := blk_frozen HZ.out 1
      simp only [List.getElem?_toArray, List.getElem?_cons_zero, List.getElem?_cons_succ] at hcP0 hcP1 hcQ0 hcQ1 hcQ2 hcQ3 hcZ0 hcZ1
    all_goals
      go_upto_region 6 with (fail)
      have nHB_ := Aside0.mk (below_drew HB.out)
      have nHP_ := Aside0.mk (blk_drew HP.out)
      have nHQ_ := Aside0.mk (blk_drew HQ.out)
      have nHZ_ := Aside0.mk (blk_drew HZ.out)
      clear HB HP HQ HZ
      have HB := nHB_
      have HP := nHP_
      have HQ := nHQ_
      have HZ := nHZ_
      clear nHB_ nHP_ nHQ_ nHZ_
      refine start_ (n := 12) (S := fun w' => w'.cell? ⟨w.heap.size, 0, none⟩ = some (.slice A1_0 l1_0.length c1_0) ∧ w'.cell? ⟨w.heap.size, 1, none⟩ = some (.slice A1_1 l1_1.length c1_1) ∧ w'.cell? ⟨w.heap.size + 1, 0, none⟩ = some (.int .i64 a2_0) ∧ w'.cell? ⟨w.heap.size + 1, 1, none⟩ = some (.int .i64 a2_1) ∧ w'.cell? ⟨w.heap.size + 1, 2, none⟩ = some (.int .i64 a2_2) ∧ w'.cell? ⟨w.heap.size + 1, 3, none⟩ = some (.slice A2_3 l2_3.length c2_3)) (ds := []) #[false, false, false, false, false, false, false, false, false, false, false, false] (by kernel_rfl) rfl rfl ⟨hcP0, hcP1, hcQ0, hcQ1, hcQ2, hcQ3⟩ (fun hHeld => ?_)
      generalize W4.drew = W20 at HB HP HQ HZ hHeld ⊢
      refine take_ (i := 0) (N := some 37) (v := ?_) (a' := ?_) #[true, false, false, false, false, false, false, false, false, false, false, false] rfl rfl (by kernel_rfl) (fun _ _ _ h => h) (Or.inl ⟨by rfl, ?_⟩) hHeld ?_ ?_
      rotate_left
      · rintro w' ⟨s0, s1, s2, s3, s4, s5⟩
        go_simp
        with_reducible rfl
      rotate_left
      · simp only [Act.put, List.setIfInBounds_toArray, List.set_cons_zero, List.set_cons_succ, i64_w, i32_w]
        rfl
      refine take_ (i := 1) (N := some 38) (v := ?_) (a' := ?_) #[true, true, false, false, false, false, false, false, false, false, false, false] rfl rfl (by kernel_rfl) (fun _ _ _ h => h) (Or.inl ⟨by rfl, ?_⟩) hHeld ?_ ?_
      rotate_left
      · rintro w' ⟨s0, s1, s2, s3, s4, s5⟩
        go_simp
        with_reducible rfl
      rotate_left
      · simp only [Act.put, List.setIfInBounds_toArray, List.set_cons_zero, List.set_cons_succ, i64_w, i32_w]
        rfl
      refine join_ (σ := Value × Value × Nat) 3 #[true, true, true, true, true, true, true, true, true, false, false, false] (fun s => [(39, s.1), (40, .tuple #[s.2.1, .int .i64 b3, .bool b4]), (36, .tuple #[s.2.1, .int .i64 b3, .bool b4]), (41, s.2.1), (42, .int .i64 b3), (43, .bool b4), (12, .pointer (some ⟨s.2.2, 0, none⟩))]) (fun s w' => TF (fun b => b ≠ w.heap.size + 2 ∧ b ≠ s.2.2) w' s.2.1 b1 b2 ∧ w'.heap[s.2.2]? = some (.cells #[.slice none 0 0, .slice none 0 0] 26 (0, 0)) ∧ w.heap.size + 2 < s.2.2 ∧ Below w.heap.size w w' ∧ w'.heap[w.heap.size]? = some (.cells #[.slice A1_0 l1_0.length c1_0, .slice A1_1 l1_1.length c1_1] 26 (0, 0)) ∧ w'.heap[w.heap.size + 1]? = some (.cells #[.int .i64 a2_0, .int .i64 a2_1, .int .i64 a2_2, .slice A2_3 l2_3.length c2_3] 28 (0, 0)) ∧ w'.heap[w.heap.size + 2]? = some (.cells #[.slice none 0 0, .slice none 0 0] 26 (0, 0))) ?_ ?_
      rotate_left
      · intro hCont
        refine two_ (i := 2) (j := 8) (Ni := some 39) (Nj := some 12) #[true, true, true, false, false, false, false, false, false, false, false, false] #[true, true, false, false, false, false, false, false, true, false, false, false] rfl rfl rfl rfl (by kernel_rfl) (by decide) (by decide) (fun K hK => ?_) (fun K hK => ?_)
        · skip
          refine goes_ Try.func24 (by kernel_rfl) rfl #[.agg #[.int .i64 a2_0, .int .i64 a2_1, .int .i64 a2_2, .slice A2_3 l2_3.length c2_3]] (by rfl) rfl rfl (by simp only [List.map_toArray, List.map_cons, List.map_nil]; rfl) ?_
          with_reducible refine (tammyref03_Key.calls a2_0 a2_1 a2_2 A2_3 c2_3 l2_3 key W20 (Kd.C_below HR23.out HB.out) hc2_3 HKEY.out).mono ?_
          rintro e W3 ⟨v3, rfl, ho3, hb3⟩
          obtain ⟨A3, c3, rfl⟩ := Kd.R_slice ho3
          have HM3 := Aside0.mk (Kd.R_reads' ho3).2.1
          have HKF := Aside0.mk (Kd.F_mono (Kd.R_F (Kd.R_bound ho3)) (fun b hb => (show b ≠ w.heap.size + 2 from by have h1 := blk_lt HZ.out; have h3 := hb.2.1; omega)))
          have H_2B := Aside0.mk (below_step HB.out hb3)
          have H_2P := Aside0.mk (blk_below HP.out hb3)
          have H_2Q := Aside0.mk (blk_below HQ.out hb3)
          have H_2Z := Aside0.mk (blk_below HZ.out hb3)
          refine ⟨_, rfl, ?_⟩
          refine hK.out _ _ ⟨(pw_cell_below hb3 hHeld.1), (pw_cell_below hb3 hHeld.2.1), (pw_cell_below hb3 hHeld.2.2.1), (pw_cell_below hb3 hHeld.2.2.2.1), (pw_cell_below hb3 hHeld.2.2.2.2.1), (pw_cell_below hb3 hHeld.2.2.2.2.2)⟩ (fun hHeld => ?_)
          clear hK K
          refine norm_ (a' := ?_) ?_ ?_
          rotate_left
          · show Act.put _ (some 39) _ = _
            simp only [Act.put, List.setIfInBounds_toArray, List.set_cons_zero, List.set_cons_succ, i64_w, i32_w]
            rfl
          refine two_ (i := 3) (j := 8) (Ni := some 40) (Nj := some 12) #[true, true, true, true, false, false, false, false, false, false, false, false] #[true, true, true, false, false, false, false, false, true, false, false, false] rfl rfl rfl rfl (by kernel_rfl) (by decide) (by decide) (fun K hK => ?_) (fun K hK => ?_)
          · skip
            refine goes_ Try.func25 (by kernel_rfl) rfl #[.agg #[.slice A1_0 l1_0.length c1_0, .slice A1_1 l1_1.length c1_1], .slice A3 key.length c3] (by rfl) rfl rfl (by simp only [List.map_toArray, List.map_cons, List.map_nil]; rfl) ?_
            with_reducible refine (tammyref02_Put.calls k (fun b => b ≠ w.heap.size + 2) A1_0 c1_0 l1_0 A1_1 c1_1 l1_1 A3 c3 key b1 b2 b3 b4 W3 (Kd.F_mono (Kd.F_below HX0.out H_2B.out) (fun b hb => (show b ≠ w.heap.size + 2 from by omega))) hc1_0 (Kd.F_mono (Kd.F_below HX1.out H_2B.out) (fun b hb => (show b ≠ w.heap.size + 2 from by omega))) hc1_1 HKF.out HM3.out HPUT.out).mono ?_
            rintro e W4 ⟨v4, rfl, hT4, hb4⟩
            have HT4 := Aside0.mk hT4
            have H_2_3B := Aside0.mk (below_step H_2B.out hb4)
            have H_2_3P := Aside0.mk (blk_below H_2P.out hb4)
            have H_2_3Q := Aside0.mk (blk_below H_2Q.out hb4)
            have H_2_3Z := Aside0.mk (blk_below H_2Z.out hb4)
            refine ⟨_, rfl, ?_⟩
            refine hK.out _ _ ⟨(pw_cell_below hb4 hHeld.1), (pw_cell_below hb4 hHeld.2.1), (pw_cell_below hb4 hHeld.2.2.1), (pw_cell_below hb4 hHeld.2.2.2.1), (pw_cell_below hb4 hHeld.2.2.2.2.1), (pw_cell_below hb4 hHeld.2.2.2.2.2)⟩ (fun hHeld => ?_)
            clear hK K
            refine norm_ (a' := ?_) ?_ ?_
            rotate_left
            · show Act.put _ (some 40) _ = _
              simp only [Act.put, List.setIfInBounds_toArray, List.set_cons_zero, List.set_cons_succ, i64_w, i32_w]
              rfl
            refine pure_ (i := 4) (N := some 36) (v := ?_) (a' := ?_) #[true, true, true, true, true, false, false, false, false, false, false, false] rfl rfl (by kernel_rfl) (fun _ _ _ h => h) (Or.inl ⟨by rfl, ?_⟩) ?_ ?_
            rotate_left
            · intro w'
              go_simp
              with_reducible rfl
            rotate_left
            · simp only [Act.put, List.setIfInBounds_toArray, List.set_cons_zero, List.set_cons_succ, i64_w, i32_w]
              rfl
            refine pure_ (i := 5) (N := some 41) (v := ?_) (a' := ?_) #[true, true, true, true, true, true, false, false, false, false, false, false] rfl rfl (by kernel_rfl) (fun _ _ _ h => h) (Or.inl ⟨by rfl, ?_⟩) ?_ ?_
            rotate_left
            · intro w'
              go_simp
              with_reducible rfl
            rotate_left
            · simp only [Act.put, List.setIfInBounds_toArray, List.set_cons_zero, List.set_cons_succ, i64_w, i32_w]
              rfl
            refine pure_ (i := 6) (N := some 42) (v := ?_) (a' := ?_) #[true, true, true, true, true, true, true, false, false, false, false, false] rfl rfl (by kernel_rfl) (fun _ _ _ h => h) (Or.inl ⟨by rfl, ?_⟩) ?_ ?_
            rotate_left
            · intro w'
              go_simp
              with_reducible rfl
            rotate_left
            · simp only [Act.put, List.setIfInBounds_toArray, List.set_cons_zero, List.set_cons_succ, i64_w, i32_w]
              rfl
            refine pure_ (i := 7) (N := some 43) (v := ?_) (a' := ?_) #[true, true, true, true, true, true, true, true, false, false, false, false] rfl rfl (by kernel_rfl) (fun _ _ _ h => h) (Or.inl ⟨by rfl, ?_⟩) ?_ ?_
            rotate_left
            · intro w'
              go_simp
              with_reducible rfl
            rotate_left
            · simp only [Act.put, List.setIfInBounds_toArray, List.set_cons_zero, List.set_cons_succ, i64_w, i32_w]
              rfl
            refine one_ (i := 8) (N := some 12) #[true, true, true, true, true, true, true, true, true, false, false, false] rfl rfl (by kernel_rfl) (by decide) (fun K hK => ?_)
            refine value_ (w1 := ?_) (v := ?_) (by rfl) rfl ?_ ?_
            rotate_left 2
            · go_simp
              constructor
              · rfl
              · rfl
            have hb5 := below_alloc (Below.refl W4.heap.size W4) (.cells #[.slice none 0 0, .slice none 0 0] 26)
            have H_2_3_8B := Aside0.mk (below_step H_2_3B.out hb5)
            have H_2_3_8P := Aside0.mk (blk_below H_2_3P.out hb5)
            have H_2_3_8Q := Aside0.mk (blk_below H_2_3Q.out hb5)
            have H_2_3_8Z := Aside0.mk (blk_below H_2_3Z.out hb5)
            have H_2_3_8N := Aside0.mk (blk_new W4 (.cells #[.slice none 0 0, .slice none 0 0] 26))
            have HLT5 := Aside0.mk (show w.heap.size + 2 < W4.heap.size from blk_lt H_2_3Z.out)
            have HTA := Aside0.mk (TF.elder HT4.out W4.heap.size (Nat.le_refl _) hb5)
            obtain ⟨gb5, hgb5⟩ : ∃ q, q = W4.heap.size := ⟨_, rfl⟩
            rw [← hgb5] at H_2_3_8N HLT5 HTA ⊢
            generalize W4.alloc (.cells #[.slice none 0 0, .slice none 0 0] 26) = W5 at H_2_3_8B H_2_3_8P H_2_3_8Q H_2_3_8Z H_2_3_8N hb5 HTA ⊢
            have HG5 := Aside0.mk hgb5
            clear hgb5
            refine hK.out _ _ ⟨(pw_cell_below hb5 hHeld.1), (pw_cell_below hb5 hHeld.2.1), (pw_cell_below hb5 hHeld.2.2.1), (pw_cell_below hb5 hHeld.2.2.2.1), (pw_cell_below hb5 hHeld.2.2.2.2.1), (pw_cell_below hb5 hHeld.2.2.2.2.2)⟩ (fun hHeld => ?_)
            clear hK K
            refine norm_ (a' := ?_) ?_ ?_
            rotate_left
            · show Act.put _ (some 12) _ = _
              simp only [Act.put, List.setIfInBounds_toArray, List.set_cons_zero, List.set_cons_succ, i64_w, i32_w]
              rfl
            exact norm_ (by simp only [putAll, Act.put, List.setIfInBounds_toArray, List.set_cons_zero, List.set_cons_succ]) (hCont (Value.slice A3 key.length c3, v4, gb5) _ ⟨(TF.mono HTA.out (fun b hb => ⟨hb.1.elim (fun h => h) (fun h => by have := blk_lt H_2Z.out; omega), hb.2⟩)), H_2_3_8N.out, HLT5.out, H_2_3_8B.out, H_2_3_8P.out, H_2_3_8Q.out, H_2_3_8Z.out⟩)
          · skip
            refine value_ (w1 := ?_) (v := ?_) (by rfl) rfl ?_ ?_
            rotate_left 2
            · go_simp
              constructor
              · rfl
              · rfl
            have hb5 := below_alloc (Below.refl W3.heap.size W3) (.cells #[.slice none 0 0, .slice none 0 0] 26)
            have H_2_8B := Aside0.mk (below_step H_2B.out hb5)
            have H_2_8P := Aside0.mk (blk_below H_2P.out hb5)
            have H_2_8Q := Aside0.mk (blk_below H_2Q.out hb5)
            have H_2_8Z := Aside0.mk (blk_below H_2Z.out hb5)
            have H_2_8N := Aside0.mk (blk_new W3 (.cells #[.slice none 0 0, .slice none 0 0] 26))
            have HLT5 := Aside0.mk (show w.heap.size + 2 < W3.heap.size from blk_lt H_2Z.out)
            have HKF2 := Aside0.mk (Kd.F_below (Kd.F_elderB HKF.out W3.heap.size (Nat.le_refl _)) hb5)
            obtain ⟨gb5, hgb5⟩ : ∃ q, q = W3.heap.size := ⟨_, rfl⟩
            rw [← hgb5] at H_2_8N HLT5 HKF2 ⊢
            generalize W3.alloc (.cells #[.slice none 0 0, .slice none 0 0] 26) = W5 at H_2_8B H_2_8P H_2_8Q H_2_8Z H_2_8N hb5 HKF2 ⊢
            have HG5 := Aside0.mk hgb5
            clear hgb5
            refine hK.out _ _ ⟨(pw_cell_below hb5 hHeld.1), (pw_cell_below hb5 hHeld.2.1), (pw_cell_below hb5 hHeld.2.2.1), (pw_cell_below hb5 hHeld.2.2.2.1), (pw_cell_below hb5 hHeld.2.2.2.2.1), (pw_cell_below hb5 hHeld.2.2.2.2.2)⟩ (fun hHeld => ?_)
            clear hK K
            refine norm_ (a' := ?_) ?_ ?_
            rotate_left
            · show Act.put _ (some 12) _ = _
              simp only [Act.put, List.setIfInBounds_toArray, List.set_cons_zero, List.set_cons_succ, i64_w, i32_w]
              rfl
            refine one_ (i := 3) (N := some 40) #[true, true, true, true, false, false, false, false, true, false, false, false] rfl rfl (by kernel_rfl) (by decide) (fun K hK => ?_)
            refine goes_ Try.func25 (by kernel_rfl) rfl #[.agg #[.slice A1_0 l1_0.length c1_0, .slice A1_1 l1_1.length c1_1], .slice A3 key.length c3] (by rfl) rfl rfl (by simp only [List.map_toArray, List.map_cons, List.map_nil]; rfl) ?_
            with_reducible refine (tammyref02_Put.calls k (fun b => b ≠ w.heap.size + 2 ∧ b ≠ gb5) A1_0 c1_0 l1_0 A1_1 c1_1 l1_1 A3 c3 key b1 b2 b3 b4 W5 (Kd.F_mono (Kd.F_below HX0.out H_2_8B.out) (fun b hb => (show b ≠ w.heap.size + 2 ∧ b ≠ gb5 from by have := HLT5.out; exact ⟨by omega, by omega⟩))) hc1_0 (Kd.F_mono (Kd.F_below HX1.out H_2_8B.out) (fun b hb => (show b ≠ w.heap.size + 2 ∧ b ≠ gb5 from by have := HLT5.out; exact ⟨by omega, by omega⟩))) hc1_1 HKF2.out HM3.out HPUT.out).mono ?_
            rintro e W4 ⟨v4, rfl, hT4, hb4⟩
            have HT4 := Aside0.mk hT4
            have H_2_8_3B := Aside0.mk (below_step H_2_8B.out hb4)
            have H_2_8_3P := Aside0.mk (blk_below H_2_8P.out hb4)
            have H_2_8_3Q := Aside0.mk (blk_below H_2_8Q.out hb4)
            have H_2_8_3Z := Aside0.mk (blk_below H_2_8Z.out hb4)
            have H_2_8_3N := Aside0.mk (blk_below H_2_8N.out hb4)
            refine ⟨_, rfl, ?_⟩
            refine hK.out _ _ ⟨(pw_cell_below hb4 hHeld.1), (pw_cell_below hb4 hHeld.2.1), (pw_cell_below hb4 hHeld.2.2.1), (pw_cell_below hb4 hHeld.2.2.2.1), (pw_cell_below hb4 hHeld.2.2.2.2.1), (pw_cell_below hb4 hHeld.2.2.2.2.2)⟩ (fun hHeld => ?_)
            clear hK K
            refine norm_ (a' := ?_) ?_ ?_
            rotate_left
            · show Act.put _ (some 40) _ = _
              simp only [Act.put, List.setIfInBounds_toArray, List.set_cons_zero, List.set_cons_succ, i64_w, i32_w]
              rfl
            refine pure_ (i := 4) (N := some 36) (v := ?_) (a' := ?_) #[true, true, true, true, true, false, false, false, true, false, false, false] rfl rfl (by kernel_rfl) (fun _ _ _ h => h) (Or.inl ⟨by rfl, ?_⟩) ?_ ?_
            rotate_left
            · intro w'
              go_simp
              with_reducible rfl
            rotate_left
            · simp only [Act.put, List.setIfInBounds_toArray, List.set_cons_zero, List.set_cons_succ, i64_w, i32_w]
              rfl
            refine pure_ (i := 5) (N := some 41) (v := ?_) (a' := ?_) #[true, true, true, true, true, true, false, false, true, false, false, false] rfl rfl (by kernel_rfl) (fun _ _ _ h => h) (Or.inl ⟨by rfl, ?_⟩) ?_ ?_
            rotate_left
            · intro w'
              go_simp
              with_reducible rfl
            rotate_left
            · simp only [Act.put, List.setIfInBounds_toArray, List.set_cons_zero, List.set_cons_succ, i64_w, i32_w]
              rfl
            refine pure_ (i := 6) (N := some 42) (v := ?_) (a' := ?_) #[true, true, true, true, true, true, true, false, true, false, false, false] rfl rfl (by kernel_rfl) (fun _ _ _ h => h) (Or.inl ⟨by rfl, ?_⟩) ?_ ?_
            rotate_left
            · intro w'
              go_simp
              with_reducible rfl
            rotate_left
            · simp only [Act.put, List.setIfInBounds_toArray, List.set_cons_zero, List.set_cons_succ, i64_w, i32_w]
              rfl
            refine pure_ (i := 7) (N := some 43) (v := ?_) (a' := ?_) #[true, true, true, true, true, true, true, true, true, false, false, false] rfl rfl (by kernel_rfl) (fun _ _ _ h => h) (Or.inl ⟨by rfl, ?_⟩) ?_ ?_
            rotate_left
            · intro w'
              go_simp
              with_reducible rfl
            rotate_left
            · simp only [Act.put, List.setIfInBounds_toArray, List.set_cons_zero, List.set_cons_succ, i64_w, i32_w]
              rfl
            exact norm_ (by simp only [putAll, Act.put, List.setIfInBounds_toArray, List.set_cons_zero, List.set_cons_succ]) (hCont (Value.slice A3 key.length c3, v4, gb5) _ ⟨(TF.mono HT4.out (fun b hb => by have h1 := blk_lt H_2_8Z.out; have h2 := blk_lt H_2_8N.out; exact hb.elim (fun h => ⟨h.1, h.2⟩) (fun h => ⟨by omega, (by omega : b ≠ gb5)⟩))), H_2_8_3N.out, HLT5.out, H_2_8_3B.out, H_2_8_3P.out, H_2_8_3Q.out, H_2_8_3Z.out⟩)
        · skip
          refine value_ (w1 := ?_) (v := ?_) (by rfl) rfl ?_ ?_
          rotate_left 2
          · go_simp
            constructor
            · rfl
            · rfl
          have hb5 := below_alloc (Below.refl W20.heap.size W20) (.cells #[.slice none 0 0, .slice none 0 0] 26)
          have H_8B := Aside0.mk (below_step HB.out hb5)
          have H_8P := Aside0.mk (blk_below HP.out hb5)
          have H_8Q := Aside0.mk (blk_below HQ.out hb5)
          have H_8Z := Aside0.mk (blk_below HZ.out hb5)
          have H_8N := Aside0.mk (blk_new W20 (.cells #[.slice none 0 0, .slice none 0 0] 26))
          have HLT5 := Aside0.mk (show w.heap.size + 2 < W20.heap.size from blk_lt HZ.out)
          obtain ⟨gb5, hgb5⟩ : ∃ q, q = W20.heap.size := ⟨_, rfl⟩
          rw [← hgb5] at H_8N HLT5  ⊢
          generalize W20.alloc (.cells #[.slice none 0 0, .slice none 0 0] 26) = W5 at H_8B H_8P H_8Q H_8Z H_8N hb5  ⊢
          have HG5 := Aside0.mk hgb5
          clear hgb5
          refine hK.out _ _ ⟨(pw_cell_below hb5 hHeld.1), (pw_cell_below hb5 hHeld.2.1), (pw_cell_below hb5 hHeld.2.2.1), (pw_cell_below hb5 hHeld.2.2.2.1), (pw_cell_below hb5 hHeld.2.2.2.2.1), (pw_cell_below hb5 hHeld.2.2.2.2.2)⟩ (fun hHeld => ?_)
          clear hK K
          refine norm_ (a' := ?_) ?_ ?_
          rotate_left
          · show Act.put _ (some 12) _ = _
            simp only [Act.put, List.setIfInBounds_toArray, List.set_cons_zero, List.set_cons_succ, i64_w, i32_w]
            rfl
          refine one_ (i := 2) (N := some 39) #[true, true, true, false, false, false, false, false, true, false, false, false] rfl rfl (by kernel_rfl) (by decide) (fun K hK => ?_)
          refine goes_ Try.func24 (by kernel_rfl) rfl #[.agg #[.int .i64 a2_0, .int .i64 a2_1, .int .i64 a2_2, .slice A2_3 l2_3.length c2_3]] (by rfl) rfl rfl (by simp only [List.map_toArray, List.map_cons, List.map_nil]; rfl) ?_
          with_reducible refine (tammyref03_Key.calls a2_0 a2_1 a2_2 A2_3 c2_3 l2_3 key W5 (Kd.C_below HR23.out H_8B.out) hc2_3 HKEY.out).mono ?_
          rintro e W3 ⟨v3, rfl, ho3, hb3⟩
          obtain ⟨A3, c3, rfl⟩ := Kd.R_slice ho3
          have HM3 := Aside0.mk (Kd.R_reads' ho3).2.1
          have HKF := Aside0.mk (Kd.F_mono (Kd.R_F (Kd.R_bound ho3)) (fun b hb => (show b ≠ w.heap.size + 2 ∧ b ≠ gb5 from by have h1 := blk_lt H_8Z.out; have h2 := blk_lt H_8N.out; have h3 := hb.2.1; exact ⟨by omega, by omega⟩)))
          have H_8_2B := Aside0.mk (below_step H_8B.out hb3)
          have H_8_2P := Aside0.mk (blk_below H_8P.out hb3)
          have H_8_2Q := Aside0.mk (blk_below H_8Q.out hb3)
          have H_8_2Z := Aside0.mk (blk_below H_8Z.out hb3)
          have H_8_2N := Aside0.mk (blk_below H_8N.out hb3)
          refine ⟨_, rfl, ?_⟩
          refine hK.out _ _ ⟨(pw_cell_below hb3 hHeld.1), (pw_cell_below hb3 hHeld.2.1), (pw_cell_below hb3 hHeld.2.2.1), (pw_cell_below hb3 hHeld.2.2.2.1), (pw_cell_below hb3 hHeld.2.2.2.2.1), (pw_cell_below hb3 hHeld.2.2.2.2.2)⟩ (fun hHeld => ?_)
          clear hK K
          refine norm_ (a' := ?_) ?_ ?_
          rotate_left
          · show Act.put _ (some 39) _ = _
            simp only [Act.put, List.setIfInBounds_toArray, List.set_cons_zero, List.set_cons_succ, i64_w, i32_w]
            rfl
          refine one_ (i := 3) (N := some 40) #[true, true, true, true, false, false, false, false, true, false, false, false] rfl rfl (by kernel_rfl) (by decide) (fun K hK => ?_)
          refine goes_ Try.func25 (by kernel_rfl) rfl #[.agg #[.slice A1_0 l1_0.length c1_0, .slice A1_1 l1_1.length c1_1], .slice A3 key.length c3] (by rfl) rfl rfl (by simp only [List.map_toArray, List.map_cons, List.map_nil]; rfl) ?_
          with_reducible refine (tammyref02_Put.calls k (fun b => b ≠ w.heap.size + 2 ∧ b ≠ gb5) A1_0 c1_0 l1_0 A1_1 c1_1 l1_1 A3 c3 key b1 b2 b3 b4 W3 (Kd.F_mono (Kd.F_below HX0.out H_8_2B.out) (fun b hb => (show b ≠ w.heap.size + 2 ∧ b ≠ gb5 from by have := HLT5.out; exact ⟨by omega, by omega⟩))) hc1_0 (Kd.F_mono (Kd.F_below HX1.out H_8_2B.out) (fun b hb => (show b ≠ w.heap.size + 2 ∧ b ≠ gb5 from by have := HLT5.out; exact ⟨by omega, by omega⟩))) hc1_1 HKF.out HM3.out HPUT.out).mono ?_
          rintro e W4 ⟨v4, rfl, hT4, hb4⟩
          have HT4 := Aside0.mk hT4
          have H_8_2_3B := Aside0.mk (below_step H_8_2B.out hb4)
          have H_8_2_3P := Aside0.mk (blk_below H_8_2P.out hb4)
          have H_8_2_3Q := Aside0.mk (blk_below H_8_2Q.out hb4)
          have H_8_2_3Z := Aside0.mk (blk_below H_8_2Z.out hb4)
          have H_8_2_3N := Aside0.mk (blk_below H_8_2N.out hb4)
          refine ⟨_, rfl, ?_⟩
          refine hK.out _ _ ⟨(pw_cell_below hb4 hHeld.1), (pw_cell_below hb4 hHeld.2.1), (pw_cell_below hb4 hHeld.2.2.1), (pw_cell_below hb4 hHeld.2.2.2.1), (pw_cell_below hb4 hHeld.2.2.2.2.1), (pw_cell_below hb4 hHeld.2.2.2.2.2)⟩ (fun hHeld => ?_)
          clear hK K
          refine norm_ (a' := ?_) ?_ ?_
          rotate_left
          · show Act.put _ (some 40) _ = _
            simp only [Act.put, List.setIfInBounds_toArray, List.set_cons_zero, List.set_cons_succ, i64_w, i32_w]
            rfl
          refine pure_ (i := 4) (N := some 36) (v := ?_) (a' := ?_) #[true, true, true, true, true, false, false, false, true, false, false, false] rfl rfl (by kernel_rfl) (fun _ _ _ h => h) (Or.inl ⟨by rfl, ?_⟩) ?_ ?_
          rotate_left
          · intro w'
            go_simp
            with_reducible rfl
          rotate_left
          · simp only [Act.put, List.setIfInBounds_toArray, List.set_cons_zero, List.set_cons_succ, i64_w, i32_w]
            rfl
          refine pure_ (i := 5) (N := some 41) (v := ?_) (a' := ?_) #[true, true, true, true, true, true, false, false, true, false, false, false] rfl rfl (by kernel_rfl) (fun _ _ _ h => h) (Or.inl ⟨by rfl, ?_⟩) ?_ ?_
          rotate_left
          · intro w'
            go_simp
            with_reducible rfl
          rotate_left
          · simp only [Act.put, List.setIfInBounds_toArray, List.set_cons_zero, List.set_cons_succ, i64_w, i32_w]
            rfl
          refine pure_ (i := 6) (N := some 42) (v := ?_) (a' := ?_) #[true, true, true, true, true, true, true, false, true, false, false, false] rfl rfl (by kernel_rfl) (fun _ _ _ h => h) (Or.inl ⟨by rfl, ?_⟩) ?_ ?_
          rotate_left
          · intro w'
            go_simp
            with_reducible rfl
          rotate_left
          · simp only [Act.put, List.setIfInBounds_toArray, List.set_cons_zero, List.set_cons_succ, i64_w, i32_w]
            rfl
          refine pure_ (i := 7) (N := some 43) (v := ?_) (a' := ?_) #[true, true, true, true, true, true, true, true, true, false, false, false] rfl rfl (by kernel_rfl) (fun _ _ _ h => h) (Or.inl ⟨by rfl, ?_⟩) ?_ ?_
          rotate_left
          · intro w'
            go_simp
            with_reducible rfl
          rotate_left
          · simp only [Act.put, List.setIfInBounds_toArray, List.set_cons_zero, List.set_cons_succ, i64_w, i32_w]
            rfl
          exact norm_ (by simp only [putAll, Act.put, List.setIfInBounds_toArray, List.set_cons_zero, List.set_cons_succ]) (hCont (Value.slice A3 key.length c3, v4, gb5) _ ⟨(TF.mono HT4.out (fun b hb => by have h1 := blk_lt H_8_2Z.out; have h2 := blk_lt H_8_2N.out; exact hb.elim (fun h => ⟨h.1, h.2⟩) (fun h => ⟨by omega, (by omega : b ≠ gb5)⟩))), H_8_2_3N.out, HLT5.out, H_8_2_3B.out, H_8_2_3P.out, H_8_2_3Q.out, H_8_2_3Z.out⟩)
      rintro ⟨vk, vt, gb⟩ W6 ⟨hF1, hF2, hF3, hF4, hF5, hF6, hF7⟩
      (try dsimp only at hF1)
      (try dsimp only at hF2)
      (try dsimp only at hF3)
      have HF1 := Aside0.mk hF1
      have HN6 := Aside0.mk hF2
      have HLT6 := Aside0.mk hF3
      have HB6 := Aside0.mk hF4
      have HP6 := Aside0.mk hF5
      have HQ6 := Aside0.mk hF6
      have HZ6 := Aside0.mk hF7
      have hHeld : W6.cell? ⟨w.heap.size, 0, none⟩ = some (.slice A1_0 l1_0.length c1_0) ∧ W6.cell? ⟨w.heap.size, 1, none⟩ = some (.slice A1_1 l1_1.length c1_1) ∧ W6.cell? ⟨w.heap.size + 1, 0, none⟩ = some (.int .i64 a2_0) ∧ W6.cell? ⟨w.heap.size + 1, 1, none⟩ = some (.int .i64 a2_1) ∧ W6.cell? ⟨w.heap.size + 1, 2, none⟩ = some (.int .i64 a2_2) ∧ W6.cell? ⟨w.heap.size + 1, 3, none⟩ = some (.slice A2_3 l2_3.length c2_3) := ⟨(blk_cell hF5 0).trans rfl, (blk_cell hF5 1).trans rfl, (blk_cell hF6 0).trans rfl, (blk_cell hF6 1).trans rfl, (blk_cell hF6 2).trans rfl, (blk_cell hF6 3).trans rfl⟩
      clear hF1 hF2 hF3 hF4 hF5 hF6 hF7
      obtain ⟨A40, c40, A41, c41, rfl, hc40, hc41, hF40, hF41⟩ := HF1.out
      have HC40 := Aside0.mk hc40
      have HC41 := Aside0.mk hc41
      have HF40 := Aside0.mk hF40
      have HF41 := Aside0.mk hF41
      clear hc40 hc41 hF40 hF41 HF1
      refine norm_ (a' := ?_) ?_ ?_
      rotate_left
      · simp only [putAll, Act.put, List.setIfInBounds_toArray, List.set_cons_zero, List.set_cons_succ]
        rfl
      refine one_ (i := 9) (N := none) #[true, true, true, true, true, true, true, true, true, true, false, false] rfl rfl (by kernel_rfl) (by decide) (fun K hK => ?_)
      have hs9 := (blk_cell HN6.out 0).trans rfl
      have hs9b := (blk_cell HN6.out 1).trans rfl
      have hf9 := blk_frozen HN6.out 0
      have hf9b := blk_frozen HN6.out 1
      refine skip_ (w1 := ?_) (by rfl) rfl ?_ ?_
      rotate_left
      · go_simp
        rfl
      refine hK.out _ _ ⟨((cell_far (p := ⟨gb, _, none⟩) (by show _ ≠ gb; have := HLT6.out; simp only []; omega) _).trans ((cell_far (p := ⟨gb, _, none⟩) (by show _ ≠ gb; have := HLT6.out; simp only []; omega) _).trans hHeld.1)), ((cell_far (p := ⟨gb, _, none⟩) (by show _ ≠ gb; have := HLT6.out; simp only []; omega) _).trans ((cell_far (p := ⟨gb, _, none⟩) (by show _ ≠ gb; have := HLT6.out; simp only []; omega) _).trans hHeld.2.1)), ((cell_far (p := ⟨gb, _, none⟩) (by show _ ≠ gb; have := HLT6.out; simp only []; omega) _).trans ((cell_far (p := ⟨gb, _, none⟩) (by show _ ≠ gb; have := HLT6.out; simp only []; omega) _).trans hHeld.2.2.1)), ((cell_far (p := ⟨gb, _, none⟩) (by show _ ≠ gb; have := HLT6.out; simp only []; omega) _).trans ((cell_far (p := ⟨gb, _, none⟩) (by show _ ≠ gb; have := HLT6.out; simp only []; omega) _).trans hHeld.2.2.2.1)), ((cell_far (p := ⟨gb, _, none⟩) (by show _ ≠ gb; have := HLT6.out; simp only []; omega) _).trans ((cell_far (p := ⟨gb, _, none⟩) (by show _ ≠ gb; have := HLT6.out; simp only []; omega) _).trans hHeld.2.2.2.2.1)), ((cell_far (p := ⟨gb, _, none⟩) (by show _ ≠ gb; have := HLT6.out; simp only []; omega) _).trans ((cell_far (p := ⟨gb, _, none⟩) (by show _ ≠ gb; have := HLT6.out; simp only []; omega) _).trans hHeld.2.2.2.2.2))⟩ (fun hHeld => ?_)
      clear hK K
      refine pure_ (i := 10) (N := some 13) (v := ?_) (a' := ?_) #[true, true, true, true, true, true, true, true, true, true, true, false] rfl rfl (by kernel_rfl) (fun _ _ _ h => h) (Or.inl ⟨by rfl, ?_⟩) ?_ ?_
      rotate_left
      · intro w'
        go_simp
        with_reducible rfl
      rotate_left
      · simp only [Act.put, List.setIfInBounds_toArray, List.set_cons_zero, List.set_cons_succ, i64_w, i32_w]
        rfl
      refine pure_ (i := 11) (N := some 14) (v := ?_) (a' := ?_) #[true, true, true, true, true, true, true, true, true, true, true, true] rfl rfl (by kernel_rfl) (fun _ _ _ h => h) (Or.inl ⟨by rfl, ?_⟩) ?_ ?_
      rotate_left
      · intro w'
        go_simp
        with_reducible rfl
      rotate_left
      · simp only [Act.put, List.setIfInBounds_toArray, List.set_cons_zero, List.set_cons_succ, i64_w, i32_w]
        rfl
      refine done_ (by kernel_rfl) ?_

      have HB7 := Aside0.mk ((HB6.out.setCell (p := ⟨gb, 0, none⟩) (by have := HLT6.out; show w.heap.size ≤ gb; omega) (.slice A40 b1.length c40)).setCell (p := ⟨gb, 1, none⟩) (by have := HLT6.out; show w.heap.size ≤ gb; omega) (.slice A41 b2.length c41))
      have HP7 := Aside0.mk (blk_far (blk_far HP6.out (p := ⟨gb, 0, none⟩) (by have := HLT6.out; show w.heap.size ≠ gb; omega) (.slice A40 b1.length c40)) (p := ⟨gb, 1, none⟩) (by have := HLT6.out; show w.heap.size ≠ gb; omega) (.slice A41 b2.length c41))
      have HZ7 := Aside0.mk (blk_far (blk_far HZ6.out (p := ⟨gb, 0, none⟩) (by have := HLT6.out; show w.heap.size + 2 ≠ gb; omega) (.slice A40 b1.length c40)) (p := ⟨gb, 1, none⟩) (by have := HLT6.out; show w.heap.size + 2 ≠ gb; omega) (.slice A41 b2.length c41))
      have HN7 := Aside0.mk (blk_put (cs' := #[.slice A40 b1.length c40, .slice A41 b2.length c41]) (blk_put (cs' := #[.slice A40 b1.length c40, .slice none 0 0]) HN6.out 0 (.slice A40 b1.length c40) rfl) 1 (.slice A41 b2.length c41) rfl)
      have HF50 := Aside0.mk (Kd.F_mono (Kd.F_far (p := ⟨gb, 1, none⟩) (Kd.F_far (p := ⟨gb, 0, none⟩) HF40.out (fun b hb => hb.2) (.slice A40 b1.length c40)) (fun b hb => hb.2) (.slice A41 b2.length c41)) (fun b hb => hb.1))
      have HF51 := Aside0.mk (Kd.F_mono (Kd.F_far (p := ⟨gb, 1, none⟩) (Kd.F_far (p := ⟨gb, 0, none⟩) HF41.out (fun b hb => hb.2) (.slice A40 b1.length c40)) (fun b hb => hb.2) (.slice A41 b2.length c41)) (fun b hb => hb.1))
      clear hHeld
      generalize (W6.setCell ⟨gb, 0, none⟩ (.slice A40 b1.length c40)).setCell ⟨gb, 1, none⟩ (.slice A41 b2.length c41) = W7 at HB7 HP7 HZ7 HN7 HF50 HF51 ⊢
      clear HB6 HP6 HQ6 HZ6 HN6 HF40 HF41 hcP0 hfP0 hcP1 hfP1 hcQ0 hfQ0 hcQ1 hfQ1 hcQ2 hfQ2 hcQ3 hfQ3 hcZ0 hfZ0 hcZ1 hfZ1
      have hcP0 := blk_cell HP7.out 0
      have hfP0 := blk_frozen HP7.out 0
      have hcP1 := blk_cell HP7.out 1
      have hfP1 := blk_frozen HP7.out 1
      have hcZ0 := blk_cell HZ7.out 0
      have hfZ0 := blk_frozen HZ7.out 0
      have hcZ1 := blk_cell HZ7.out 1
      have hfZ1 := blk_frozen HZ7.out 1
      have hcN0 := blk_cell HN7.out 0
      have hfN0 := blk_frozen HN7.out 0
      have hcN1 := blk_cell HN7.out 1
      have hfN1 := blk_frozen HN7.out 1
      simp only [List.getElem?_toArray, List.getElem?_cons_zero, List.getElem?_cons_succ] at hcP0 hcP1 hcZ0 hcZ1 hcN0 hcN1
      go_wp2_with fail
      have hbe : Below w.heap.size w ((W7.setCell ⟨w.heap.size + 2, 0, none⟩ (.slice A40 b1.length c40)).setCell ⟨w.heap.size + 2, 1, none⟩ (.slice A41 b2.length c41)) :=
        (HB7.out.setCell (p := ⟨w.heap.size + 2, 0, none⟩) (by show w.heap.size ≤ w.heap.size + 2; omega) _).setCell (p := ⟨w.heap.size + 2, 1, none⟩) (by show w.heap.size ≤ w.heap.size + 2; omega) _
      refine bodyPost_ret (results_ctt rfl _ _ (w.heap.size + 1 + 1) 26 #[.slice A40 b1.length c40, .slice A41 b2.length c41] (0, 0) _ rfl (by refine blk_put (cs := #[.slice A40 b1.length c40, .slice none 0 0]) ?_ 1 _ rfl; refine blk_put (cs := #[.slice none 0 0, .slice none 0 0]) ?_ 0 _ rfl; exact HZ7.out) Try.underlying26 rfl (by kernel_rfl)) rfl ?_
      exact ⟨_, rfl, ⟨_, _, _, _, rfl, HC40.out, HC41.out, Kd.F_now (Kd.F_far (p := ⟨w.heap.size + 2, 1, none⟩) (Kd.F_far (p := ⟨w.heap.size + 2, 0, none⟩) HF50.out (fun b hb => hb) _) (fun b hb => hb) _), Kd.F_now (Kd.F_far (p := ⟨w.heap.size + 2, 1, none⟩) (Kd.F_far (p := ⟨w.heap.size + 2, 0, none⟩) HF51.out (fun b hb => hb) _) (fun b hb => hb) _)⟩, hbe⟩
end Go.Proofs.Ytiliknfmlmdmbaa.T
