/- tammyref02.Put and tammyref03.Put, as they read. -/
import Derived.Test.YtiliknfmlmdmbaaHi
import Derived.Test.YtiliknfmlmdmbaaTx0
import Derived.Test.YtiliknfmlmdmbaaTx10
namespace Go.Proofs.Ytiliknfmlmdmbaa.T
open Go.RowKit Go.Proofs.YtiliknfmlmdmbaaW.PrintWords Go.Proofs.YtiliknfmlmdmbaaW.PrintLast Go.Proofs.YtiliknfmlmdmbaaW.PrintMore
set_option linter.unusedVariables false
set_option linter.unusedSimpArgs false
def tammyref02_Put.f (k : Nat) (l0_0 : List (List Int)) (l0_1 : List Int) (l1 : List Int) : Option (List (List Int) × List Int × Int × Bool) :=
  (tammyref02_At.f k l0_0 l1).bind fun n => if n ≥ 0 then some (l0_0, l0_1, n, false) else if l0_0.length < 5864062014804 then (tammyref02_Lay.f k (l0_0 ++ [l1])).bind fun s => some (l0_0 ++ [l1], s, (l0_0.length : Int), true) else none
theorem tammyref02_Put.mono : ∀ l0_0 l0_1 l1 k, LeO (tammyref02_Put.f k l0_0 l0_1 l1) (tammyref02_Put.f (k + 1) l0_0 l0_1 l1) := fun l0_0 l0_1 l1 k =>
  LeO.bind (tammyref02_At.mono _ _ k) fun n => LeO.ite (LeO.refl _) (LeO.ite (LeO.bind (tammyref02_Lay.mono _ k) fun s => LeO.refl _) (LeO.refl _))
set_option maxRecDepth 100000 in
set_option maxHeartbeats 4000000 in
theorem tammyref02_Put.calls (k : Nat) (ok : Nat → Prop) (A0_0 : Option Addr) (c0_0 : Nat) (l0_0 : List (List Int)) (A0_1 : Option Addr) (c0_1 : Nat) (l0_1 : List Int) (A1 : Option Addr) (c1 : Nat) (l1 : List Int) (r1 : List (List Int)) (r2 : List Int) (r3 : Int) (r4 : Bool) (w : World)
    (hr0_0 : Kd.F (Kd.slice 3 (Kd.int .i64)) w ok A0_0 l0_0.length l0_0) (hc0_0 : l0_0.length ≤ c0_0) (hr0_1 : Kd.F (Kd.int .i64) w ok A0_1 l0_1.length l0_1) (hc0_1 : l0_1.length ≤ c0_1) (hr1 : Kd.F (Kd.int .i64) w ok A1 l1.length l1) (hc1 : l1.length ≤ c1) (h : tammyref02_Put.f k l0_0 l0_1 l1 = some (r1, r2, r3, r4)) :
    Calls Try.prog 25 #[.agg #[.slice A0_0 l0_0.length c0_0, .slice A0_1 l0_1.length c0_1], .slice A1 l1.length c1] w (TPut ok r1 r2 r3 r4 w) := by
  have hu26 := Try.underlying26
  have hu24 := Try.underlying24
  have HX0 := Aside0.mk hr0_0
  have HX1 := Aside0.mk hr0_1
  have HX2 := Aside0.mk hr1
  clear hr0_0 hr0_1 hr1
  unfold tammyref02_Put.f at h
  obtain ⟨n, hn, h⟩ := Option.bind_eq_some_iff.mp h
  have HN := Aside0.mk hn
  have H := Aside0.mk h
  clear hn h
  have hB1 : Below w.heap.size w ((w.alloc (.cells #[.slice A0_0 l0_0.length c0_0, .slice A0_1 l0_1.length c0_1] 26)).alloc (.cells #[.slice none 0 0, .slice none 0 0] 26)) := below_alloc (below_alloc (Below.refl _ _) _) _
  have hP1 := blk_alloc (blk_new w (.cells #[.slice A0_0 l0_0.length c0_0, .slice A0_1 l0_1.length c0_1] 26)) (.cells #[.slice none 0 0, .slice none 0 0] 26)
  have hZ1 := blk_new (w.alloc (.cells #[.slice A0_0 l0_0.length c0_0, .slice A0_1 l0_1.length c0_1] 26)) (.cells #[.slice none 0 0, .slice none 0 0] 26)
  simp only [World.size_alloc] at hZ1
  have HB1 := Aside0.mk hB1
  have HP1 := Aside0.mk hP1
  have HZ1 := Aside0.mk hZ1
  clear hB1 hP1 hZ1
  have HK0 := Aside0.mk (Kd.F_now HX0.out)
  have HK2 := Aside0.mk (Kd.F_now HX2.out)
  go_enter Try.func25, Try.ntmps25
  go_wp2_with fail
  refine (tammyref02_At.calls k _ _ l0_0 _ _ l1 n _ (Kd.C_below HK0.out HB1.out) hc0_0 (Kd.C_below HK2.out HB1.out) hc1 HN.out).mono ?_
  rintro e W2 ⟨rfl, hb2⟩
  replace hb2 := hb2.below
  have HB := Aside0.mk (below_step HB1.out hb2)
  have HP := Aside0.mk (blk_below HP1.out hb2)
  have HZ := Aside0.mk (blk_below HZ1.out hb2)
  clear hb2 HB1 HP1 HZ1 HK0 HK2
  have hcP0 := blk_cell HP.out 0
  have hfP0 := blk_frozen HP.out 0
  have hcP1 := blk_cell HP.out 1
  have hfP1 := blk_frozen HP.out 1
  have hcZ0 := blk_cell HZ.out 0
  have hfZ0 := blk_frozen HZ.out 0
  have hcZ1 := blk_cell HZ.out 1
  have hfZ1 := blk_frozen HZ.out 1
  simp only [List.getElem?_toArray, List.getElem?_cons_zero, List.getElem?_cons_succ] at hcP0 hcP1 hcZ0 hcZ1
  by_cases c1b : n ≥ 0
  · have H2 := H.out
    rw [if_pos c1b] at H2
    simp only [Option.some.injEq, Prod.mk.injEq] at H2
    obtain ⟨rfl, rfl, rfl, rfl⟩ := H2
    clear H
    have hd : decide (0 ≤ n) = true := decide_eq_true c1b
    clear c1b
    go_wp2_with fail
    have hbe : Below w.heap.size w ((W2.setCell ⟨w.heap.size + 1, 0, none⟩ (.slice A0_0 l0_0.length c0_0)).setCell ⟨w.heap.size + 1, 1, none⟩ (.slice A0_1 l0_1.length c0_1)) :=
      (HB.out.setCell (p := ⟨w.heap.size + 1, 0, none⟩) (by show w.heap.size ≤ w.heap.size + 1; omega) _).setCell (p := ⟨w.heap.size + 1, 1, none⟩) (by show w.heap.size ≤ w.heap.size + 1; omega) _
    refine bodyPost_ret (results_ctt rfl _ _ (w.heap.size + 1) 26 #[.slice A0_0 l0_0.length c0_0, .slice A0_1 l0_1.length c0_1] (0, 0) _ rfl (by refine blk_put (cs := #[.slice A0_0 l0_0.length c0_0, .slice none 0 0]) ?_ 1 _ rfl; refine blk_put (cs := #[.slice none 0 0, .slice none 0 0]) ?_ 0 _ rfl; exact HZ.out) Try.underlying26 rfl (by kernel_rfl)) rfl ?_
    exact ⟨_, rfl, ⟨_, _, _, _, rfl, hc0_0, hc0_1, Kd.F_mono (Kd.F_below HX0.out hbe) (fun k hk => .inl hk), Kd.F_mono (Kd.F_below HX1.out hbe) (fun k hk => .inl hk)⟩, hbe⟩
  · have H2 := H.out
    rw [if_neg c1b] at H2
    have hd : decide (0 ≤ n) = false := decide_eq_false c1b
    clear c1b
    by_cases c3 : l0_0.length < 5864062014804
    case neg => rw [if_neg c3] at H2; cases H2
    rw [if_pos c3] at H2
    obtain ⟨y, hy⟩ : ∃ y, y = l0_0 ++ [l1] := ⟨_, rfl⟩
    rw [← hy] at H2
    have HY := Aside0.mk hy
    have LM3 := Aside0.mk c3
    obtain ⟨s2, hs2, H2⟩ := Option.bind_eq_some_iff.mp H2
    simp only [Option.some.injEq, Prod.mk.injEq] at H2
    obtain ⟨rfl, rfl, rfl, rfl⟩ := H2
    have HS2 := Aside0.mk hs2
    clear hs2 c3 H hy
    go_upto_region 5 with (first
      | ((with_reducible refine gate_dst (N := 17) rfl ?_); refine Kd.R_lit (Kd.slice 3 (Kd.int .i64)) _ 24 ?hg (N := 17) ?hd (xs := ([] : List (List Int))) (inner := []) (ok := fun _ => True) (okp := fun _ => True) ?hr ?hp (fun _ hk => hk) trivial (Below.refl W2.heap.size W2) (Nat.le_refl _) (by simp) ?_; (case hd => rfl); (case hg => rfl); (case hr => first | (go_simp; done) | (go_simp; rfl)); (case hp => exact Reps.none _ _); intro v17 W3 ho3 hb3 hg3 hn3; have HO3 := Aside0.mk (Kd.N_mono (Kd.R_N (Kd.R_bound ho3)) (ok' := OkN ok w.heap.size) (fun k hk => .inr (by have h1 := blk_lt HZ.out; have h2 := hk.2.1; omega))); have HB3 := Aside0.mk hb3; have HN3 := Aside0.mk hn3; (have hcP0 := (blk_cell (blk_below HP.out HB3.out) 0).trans rfl); clear ho3 hb3 hg3 hn3)
      | ((with_reducible refine gate_builtin (b := .append) (xs := #[.tmp 17, .tmp 19]) rfl ?_); at_builtin; refine Kd.N_append_rows (Kd.slice 3 (Kd.int .i64)) (w0 := W2) W2.heap.size rfl (.tmp 17) (.tmp 19) 23 24 (.slice none 0 0) 24 rfl Try.underlying23 infoK24 rfl (by decide) (by omega) v17 [] l0_0 _ _ _ (OkN ok w.heap.size) (fun k => OkN ok w.heap.size k ∧ some k ≠ (v17 : Value).ownBlock) rfl rfl ?aO ?aR (fun _ hk => hk) ?aF ?aB ?aS ?aL ?_; (case aO => exact HO3.out); (case aR => exact Kd.F_mono (Kd.F_below (Kd.F_below (Kd.F_bound HX0.out) HB.out) HB3.out) (fun k hk => ⟨.inl hk, fun e => by obtain ⟨b, hb, hle⟩ := HN3.out; rw [hb] at e; have h1 := blk_lt HZ.out; injection e with e; omega⟩)); (case aF => exact (fun k hk => .inr (by have h1 := blk_lt HZ.out; have h2 := HB3.out.size; omega))); (case aB => exact HB3.out); (case aS => exact HB3.out.size); (case aL => have := LM3.out; simp; omega); intro v18 W4 ho4 hb4 hg4 hat4; have HO4 := Aside0.mk ho4; have HB4 := Aside0.mk hb4; clear ho4 hb4 hg4 hat4)
      | ((with_reducible refine gate_builtin (b := .append) (xs := #[.tmp 20, .tmp 22]) rfl ?_); at_builtin; refine Kd.N_append (Kd.slice 3 (Kd.int .i64)) (w0 := W2) (W := W4) W2.heap.size rfl (.tmp 20) (.tmp 22) 23 24 (.slice none 0 0) 24 rfl Try.underlying23 infoK24 rfl (by decide) (by omega) v18 ([] ++ l0_0) l1 [.slice A1 l1.length c1] (OkN ok w.heap.size) (fun k => OkN ok w.heap.size k ∧ some k ≠ (v18 : Value).ownBlock) rfl rfl ?aP (fun _ hk => hk) ?aF HO4.out HB4.out HB4.out.size ?aL ?_; (case aP => exact Kd.FK_slice_mk hc1 (Kd.F_mono (Kd.F_below (Kd.F_below (Kd.F_bound HX2.out) HB.out) HB4.out) (fun k hk => ⟨.inl hk, fun e => by have h1 := Kd.N_base HO4.out k e.symm; have h2 := blk_lt HZ.out; have h3 := hk.2; omega⟩))); (case aF => exact (fun k hk => .inr (by have h1 := blk_lt HZ.out; have h2 := HB4.out.size; omega))); (case aL => have := LM3.out; simp; omega); intro v19 W5 ho5 hb5 hg5 hat5; have HO5 := Aside0.mk ho5; have HB5 := Aside0.mk hb5; clear ho5 hb5 hg5 hat5))
    obtain ⟨A5, c5, rfl⟩ : ∃ A c, v19 = .slice A y.length c := by have h := Kd.N_slice HO5.out; rw [HY.out]; exact h
    have HQ5 := Aside0.mk (show y.length ≤ c5 ∧ Kd.F (Kd.slice 3 (Kd.int .i64)) W5.drew (OkN ok w.heap.size) A5 y.length y from by
      have h := HO5.out
      rw [show ([] ++ l0_0 ++ [l1] : List (List Int)) = y from by rw [HY.out]; rfl] at h
      exact ⟨(Kd.N_reads' h).2.1, Kd.F_drew (Kd.N_F h)⟩)
    have HB6 := Aside0.mk (below_drew (below_step HB.out HB5.out))
    have HP6 := Aside0.mk (blk_drew (blk_below HP.out HB5.out))
    have HZ6 := Aside0.mk (blk_drew (blk_below HZ.out HB5.out))
    clear hcP0 hcP1 hfP0 hfP1 hcZ0 hcZ1 hfZ0 hfZ1 HO5 HO4 HO3
    have hcP0 := (blk_cell HP6.out 0).trans rfl
    refine start_ (n := 10) (S := fun w' => w'.cell? ⟨w.heap.size, 0, none⟩ = some (.slice A0_0 l0_0.length c0_0)) (ds := []) #[false, false, false, false, false, false, false, false, false, false] (by kernel_rfl) rfl rfl (hcP0) (fun hHeld => ?_)
    generalize W5.drew = W6 at HQ5 HB6 HP6 HZ6 hHeld ⊢
    refine pure_ (i := 0) (N := some 24) (v := ?_) (a' := ?_) #[true, false, false, false, false, false, false, false, false, false] rfl rfl (by kernel_rfl) (fun _ _ _ h => h) (Or.inl ⟨by rfl, ?_⟩) ?_ ?_
    rotate_left
    · intro w'
      go_simp
      with_reducible rfl
    rotate_left
    · simp only [Act.put, List.setIfInBounds_toArray, List.set_cons_zero, List.set_cons_succ, i64_w, i32_w]
      rfl
    refine pure_ (i := 1) (N := some 25) (v := ?_) (a' := ?_) #[true, true, false, false, false, false, false, false, false, false] rfl rfl (by kernel_rfl) (fun _ _ _ h => h) (Or.inl ⟨by rfl, ?_⟩) ?_ ?_
    rotate_left
    · intro w'
      go_simp
      with_reducible rfl
    rotate_left
    · simp only [Act.put, List.setIfInBounds_toArray, List.set_cons_zero, List.set_cons_succ, i64_w, i32_w]
      rfl
    refine pure_ (i := 4) (N := some 28) (v := ?_) (a' := ?_) #[true, true, false, false, true, false, false, false, false, false] rfl rfl (by kernel_rfl) (fun _ _ _ h => h) (Or.inl ⟨by rfl, ?_⟩) ?_ ?_
    rotate_left
    · intro w'
      go_simp
      with_reducible rfl
    rotate_left
    · simp only [Act.put, List.setIfInBounds_toArray, List.set_cons_zero, List.set_cons_succ, i64_w, i32_w]
      rfl
    refine take_ (i := 5) (N := some 29) (v := ?_) (a' := ?_) #[true, true, false, false, true, true, false, false, false, false] rfl rfl (by kernel_rfl) (fun _ _ _ h => h) (Or.inl ⟨by rfl, ?_⟩) hHeld ?_ ?_
    rotate_left
    · intro w' s0
      go_simp
      with_reducible rfl
    rotate_left
    · simp only [Act.put, List.setIfInBounds_toArray, List.set_cons_zero, List.set_cons_succ, i64_w, i32_w]
      rfl
    refine pure_ (i := 6) (N := some 30) (v := ?_) (a' := ?_) #[true, true, false, false, true, true, true, false, false, false] rfl rfl (by kernel_rfl) (fun _ _ _ h => h) (Or.inl ⟨by rfl, ?_⟩) ?_ ?_
    rotate_left
    · intro w'
      go_simp
      with_reducible rfl
    rotate_left
    · simp only [Act.put, List.setIfInBounds_toArray, List.set_cons_zero, List.set_cons_succ, i64_w, i32_w]
      rfl
    refine one_ (i := 2) (N := some 26) #[true, true, true, false, true, true, true, false, false, false] rfl rfl (by kernel_rfl) (by decide) (fun K hK => ?_)
    refine goes_ Try.func44 (by kernel_rfl) rfl #[.slice A5 y.length c5] (by rfl) rfl rfl (by simp only [List.map_toArray, List.map_cons, List.map_nil]; rfl) ?_
    with_reducible refine (tammyref02_Lay.calls k A5 c5 y s2 W6 (Kd.F_now HQ5.out.2) HQ5.out.1 HS2.out).mono ?_
    rintro e W7 ⟨v7, rfl, ho7, hb7⟩
    obtain ⟨A7, c7, rfl⟩ := Kd.R_slice ho7
    have HM7 := Aside0.mk (Kd.R_reads' ho7)
    have HG7 := Aside0.mk (Kd.F_mono (Kd.R_F (Kd.R_bound ho7)) (fun k hk => (show OkN ok w.heap.size k from .inr (by have h1 := blk_lt HZ6.out; have h2 := hk.2.1; omega))))
    have HF7 := Aside0.mk (Kd.F_below HQ5.out.2 hb7)
    have HB7 := Aside0.mk (below_step HB6.out hb7)
    have HZ7 := Aside0.mk (blk_below HZ6.out hb7)
    refine ⟨_, rfl, ?_⟩
    refine hK.out _ _ ((pw_cell_below hb7 hHeld)) (fun hHeld => ?_)
    clear hK K
    refine norm_ (a' := ?_) ?_ ?_
    rotate_left
    · show Act.put _ (some 26) _ = _
      simp only [Act.put, List.setIfInBounds_toArray, List.set_cons_zero, List.set_cons_succ, i64_w, i32_w]
      rfl
    refine pure_ (i := 3) (N := some 27) (v := ?_) (a' := ?_) #[true, true, true, true, true, true, true, false, false, false] rfl rfl (by kernel_rfl) (fun _ _ _ h => h) (Or.inl ⟨by rfl, ?_⟩) ?_ ?_
    rotate_left
    · intro w'
      go_simp
      with_reducible rfl
    rotate_left
    · simp only [Act.put, List.setIfInBounds_toArray, List.set_cons_zero, List.set_cons_succ, i64_w, i32_w]
      rfl
    refine one_ (i := 7) (N := none) #[true, true, true, true, true, true, true, true, false, false] rfl rfl (by kernel_rfl) (by decide) (fun K hK => ?_)
    have hs9 := (blk_cell HZ7.out 0).trans rfl
    have hs9b := (blk_cell HZ7.out 1).trans rfl
    have hf9 := blk_frozen HZ7.out 0
    have hf9b := blk_frozen HZ7.out 1
    refine skip_ (w1 := ?_) (by rfl) rfl ?_ ?_
    rotate_left
    · go_simp
      rfl
    refine hK.out _ _ (((cell_far (p := ⟨w.heap.size + 1, _, none⟩) (by show w.heap.size ≠ w.heap.size + 1; omega) _).trans ((cell_far (p := ⟨w.heap.size + 1, _, none⟩) (by show w.heap.size ≠ w.heap.size + 1; omega) _).trans hHeld))) (fun hHeld => ?_)
    clear hK K
    refine pure_ (i := 8) (N := some 5) (v := ?_) (a' := ?_) #[true, true, true, true, true, true, true, true, true, false] rfl rfl (by kernel_rfl) (fun _ _ _ h => h) (Or.inl ⟨by rfl, ?_⟩) ?_ ?_
    rotate_left
    · intro w'
      go_simp
      with_reducible rfl
    rotate_left
    · simp only [Act.put, List.setIfInBounds_toArray, List.set_cons_zero, List.set_cons_succ, i64_w, i32_w]
      rfl
    refine pure_ (i := 9) (N := some 6) (v := ?_) (a' := ?_) #[true, true, true, true, true, true, true, true, true, true] rfl rfl (by kernel_rfl) (fun _ _ _ h => h) (Or.inl ⟨by rfl, ?_⟩) ?_ ?_
    rotate_left
    · intro w'
      go_simp
      with_reducible rfl
    rotate_left
    · simp only [Act.put, List.setIfInBounds_toArray, List.set_cons_zero, List.set_cons_succ, i64_w, i32_w]
      rfl
    refine done_ (by kernel_rfl) ?_

    clear hHeld
    go_wp2_with fail
    have hbe : Below w.heap.size w ((W7.setCell ⟨w.heap.size + 1, 0, none⟩ (.slice A5 y.length c5)).setCell ⟨w.heap.size + 1, 1, none⟩ (.slice A7 s2.length c7)) :=
      (HB7.out.setCell (p := ⟨w.heap.size + 1, 0, none⟩) (by show w.heap.size ≤ w.heap.size + 1; omega) _).setCell (p := ⟨w.heap.size + 1, 1, none⟩) (by show w.heap.size ≤ w.heap.size + 1; omega) _
    refine bodyPost_ret (results_ctt rfl _ _ (w.heap.size + 1) 26 #[.slice A5 y.length c5, .slice A7 s2.length c7] (0, 0) _ rfl (by refine blk_put (cs := #[.slice A5 y.length c5, .slice none 0 0]) ?_ 1 _ rfl; refine blk_put (cs := #[.slice none 0 0, .slice none 0 0]) ?_ 0 _ rfl; exact HZ7.out) Try.underlying26 rfl (by kernel_rfl)) rfl ?_
    exact ⟨_, rfl, ⟨_, _, _, _, rfl, HQ5.out.1, HM7.out.2.1, Kd.F_mono (Kd.F_far (p := ⟨w.heap.size + 1, 1, none⟩) (Kd.F_far (p := ⟨w.heap.size + 1, 0, none⟩) HF7.out (fun k hk => hk.ne1) _) (fun k hk => hk.ne1) _) (fun k hk => hk.out), Kd.F_mono (Kd.F_far (p := ⟨w.heap.size + 1, 1, none⟩) (Kd.F_far (p := ⟨w.heap.size + 1, 0, none⟩) HG7.out (fun k hk => hk.ne1) _) (fun k hk => hk.ne1) _) (fun k hk => hk.out)⟩, hbe⟩
end Go.Proofs.Ytiliknfmlmdmbaa.T
