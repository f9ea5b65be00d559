/- The methods of a row of pairs that change its length: Push, Pop. -/
import Derived.Test.YtfjgfkokhnpbcaaHr
import Derived.Test.YtfjgfkokhnpbcaaUx0
namespace Go.Proofs.Ytfjgfkokhnpbcaa.U
open Go.RowKit Go.Proofs.YtfjgfkokhnpbcaaW.PrintWords Go.Proofs.YtfjgfkokhnpbcaaW.PrintLast Go.Proofs.YtfjgfkokhnpbcaaW.PrintMore
set_option linter.unusedVariables false
set_option linter.unusedSimpArgs false
theorem as30 (v : Value) (w : World) : (Instr.typeAssert (.iface 30 v) 20 30 false).run Try.prog w = .ok v w := by kernel_rfl
attribute [local go_sem] as30
set_option maxRecDepth 100000 in
set_option maxHeartbeats 4000000 in
theorem Push75 (base g : Nat) (l : List S30) (a0 a1 : Int) (w : World) (h : RowAt base w g l) (hl : l.length < 8796093022207) (hbase : base ≤ w.heap.size) :
    Calls Try.prog 75 #[.pointer (some ⟨g, 0, none⟩), .iface 30 (.agg #[.int .i64 a0, .int .i64 a1])] w fun e w' => e = .returned (.tuple #[]) ∧ RowAt base w' g (l ++ [⟨a0, a1⟩]) ∧ Below base w w' := by
  obtain ⟨v, h1, hge, h3⟩ := h
  have hc0 : w.cell? ⟨g, 0, none⟩ = some v := (blk_cell h1 0).trans rfl
  have hu59 := Try.underlying59
  have hu30 := Try.underlying30
  have hu22 := Try.underlying22
  have HL := Aside0.mk hl
  have HG := Aside0.mk (blk_drew h1)
  have HO := Aside0.mk (Kd.R_drew h3)
  have HB := Aside0.mk (show Below base w w.drew from ((Below.refl w.heap.size w).mono hbase).drew)
  have HS := Aside0.mk (show base ≤ w.drew.heap.size from hbase)
  obtain ⟨y, hy⟩ : ∃ y, y = l ++ [(⟨a0, a1⟩ : S30)] := ⟨_, rfl⟩
  rw [← hy]
  have HY := Aside0.mk hy
  clear h1 h3 hl hy
  go_enter Try.func75, Try.ntmps75
  go_wp2_with fail
  refine start_ (n := 12) (S := fun w' => w'.cell? ⟨g, 0, none⟩ = some v) (ds := [11]) #[false, false, false, false, false, false, false, false, false, false, false, false] (by kernel_rfl) rfl rfl (hc0) (fun hHeld => ?_)
  generalize w.drew = W at HG HO HB HS hHeld ⊢
  refine pure_ (i := 0) (N := some 4) (v := ?_) (a' := ?_) #[true, false, false, false, false, false, false, false, false, false, false, false] rfl rfl (by kernel_rfl) (fun _ _ _ h => h) (Or.inl ⟨by rfl, ?_⟩) ?_ ?_
  rotate_left
  · intro w'
    go_simp
    with_reducible rfl
  rotate_left
  · simp only [Act.put, List.setIfInBounds_toArray, List.set_cons_zero, List.set_cons_succ, i64_w, i32_w]
    rfl
  refine pure_ (i := 1) (N := some 5) (v := ?_) (a' := ?_) #[true, true, false, false, false, false, false, false, false, false, false, false] rfl rfl (by kernel_rfl) (fun _ _ _ h => h) (Or.inl ⟨by rfl, ?_⟩) ?_ ?_
  rotate_left
  · intro w'
    go_simp
    with_reducible rfl
  rotate_left
  · simp only [Act.put, List.setIfInBounds_toArray, List.set_cons_zero, List.set_cons_succ, i64_w, i32_w]
    rfl
  refine pure_ (i := 2) (N := some 6) (v := ?_) (a' := ?_) #[true, true, true, false, false, false, false, false, false, false, false, false] rfl rfl (by kernel_rfl) (fun _ _ _ h => h) (Or.inl ⟨by rfl, ?_⟩) ?_ ?_
  rotate_left
  · intro w'
    go_simp
    with_reducible rfl
  rotate_left
  · simp only [Act.put, List.setIfInBounds_toArray, List.set_cons_zero, List.set_cons_succ, i64_w, i32_w]
    rfl
  refine pure_ (i := 3) (N := some 7) (v := ?_) (a' := ?_) #[true, true, true, true, false, false, false, false, false, false, false, false] rfl rfl (by kernel_rfl) (fun _ _ _ h => h) (Or.inl ⟨by rfl, ?_⟩) ?_ ?_
  rotate_left
  · intro w'
    go_simp
    with_reducible rfl
  rotate_left
  · simp only [Act.put, List.setIfInBounds_toArray, List.set_cons_zero, List.set_cons_succ, i64_w, i32_w]
    rfl
  refine pure_ (i := 5) (N := some 9) (v := ?_) (a' := ?_) #[true, true, true, true, false, true, false, false, false, false, false, false] rfl rfl (by kernel_rfl) (fun _ _ _ h => h) (Or.inl ⟨by rfl, ?_⟩) ?_ ?_
  rotate_left
  · intro w'
    go_simp
    with_reducible rfl
  rotate_left
  · simp only [Act.put, List.setIfInBounds_toArray, List.set_cons_zero, List.set_cons_succ, i64_w, i32_w]
    rfl
  refine pure_ (i := 6) (N := some 10) (v := ?_) (a' := ?_) #[true, true, true, true, false, true, true, false, false, false, false, false] rfl rfl (by kernel_rfl) (fun _ _ _ h => h) (Or.inl ⟨by rfl, ?_⟩) ?_ ?_
  rotate_left
  · intro w'
    go_simp
    with_reducible rfl
  rotate_left
  · simp only [Act.put, List.setIfInBounds_toArray, List.set_cons_zero, List.set_cons_succ, i64_w, i32_w]
    rfl
  refine take_ (i := 4) (N := some 8) (v := ?_) (a' := ?_) #[true, true, true, true, true, true, true, false, false, false, false, false] rfl rfl (by kernel_rfl) (fun _ _ _ h => h) (Or.inl ⟨by rfl, ?_⟩) hHeld ?_ ?_
  rotate_left
  · intro w' s0
    go_simp
    with_reducible rfl
  rotate_left
  · simp only [Act.put, List.setIfInBounds_toArray, List.set_cons_zero, List.set_cons_succ, i64_w, i32_w]
    rfl
  refine one_ (i := 7) (N := some 11) #[true, true, true, true, true, true, true, true, false, false, false, false] rfl rfl (by kernel_rfl) (by decide) (fun K hK => ?_)
  refine value_ (w1 := ?_) (v := ?_) (by rfl) rfl ?_ ?_
  rotate_left 2
  · go_simp
    constructor
    · rfl
    · rfl
  refine hK.out _ _ ((pw_cell_below (below_alloc (Below.refl _ _) _) hHeld)) (fun hHeld => ?_)
  clear hK K
  refine norm_ (a' := ?_) ?_ ?_
  rotate_left
  · show Act.put _ (some 11) _ = _
    simp only [Act.put, List.setIfInBounds_toArray, List.set_cons_zero, List.set_cons_succ, i64_w, i32_w]
    rfl
  refine one_ (i := 8) (N := some 12) #[true, true, true, true, true, true, true, true, true, false, false, false] rfl rfl (by kernel_rfl) (by decide) (fun K hK => ?_)
  refine Kd.R_append_step k30 (w0 := w) (W := W) base (by rfl) (.tmp 8) (.tmp 11) 22 30 (.agg #[(.int .i64 0), (.int .i64 0)]) 16 rfl Try.underlying22 info30 rfl (by decide) (by omega) v l (⟨a0, a1⟩ : S30) [.int .i64 a0, .int .i64 a1] (fun k => k ≠ g) (fun _ => False) rfl rfl (k30_mkM _ _ _ (⟨a0, a1⟩ : S30)) (fun _ hk => hk.elim) (fun k hk => by have := blk_lt HG.out; omega) HO.out HB.out HS.out (by have := HL.out; omega) ?_
  intro v1 w1 ho1 hb1 hg1 hat1
  rw [← HY.out] at ho1
  obtain ⟨A1, c1, rfl⟩ := Kd.R_slice ho1
  have HG1 := blk_grown HG.out hg1 (Kd.R_away HO.out (fun _ hk => hk))
  refine hK.out _ _ (((blk_cell HG1 0).trans rfl)) (fun hHeld => ?_)
  clear hK K
  refine norm_ (a' := ?_) ?_ ?_
  rotate_left
  · show Act.put _ (some 12) _ = _
    simp only [Act.put, List.setIfInBounds_toArray, List.set_cons_zero, List.set_cons_succ, i64_w, i32_w]
    rfl
  refine pure_ (i := 9) (N := some 13) (v := ?_) (a' := ?_) #[true, true, true, true, true, true, true, true, true, true, false, false] rfl rfl (by kernel_rfl) (fun _ _ _ h => h) (Or.inl ⟨by rfl, ?_⟩) ?_ ?_
  rotate_left
  · intro w'
    go_simp
    with_reducible rfl
  rotate_left
  · simp only [Act.put, List.setIfInBounds_toArray, List.set_cons_zero, List.set_cons_succ, i64_w, i32_w]
    rfl
  refine pure_ (i := 10) (N := some 14) (v := ?_) (a' := ?_) #[true, true, true, true, true, true, true, true, true, true, true, false] rfl rfl (by kernel_rfl) (fun _ _ _ h => h) (Or.inl ⟨by rfl, ?_⟩) ?_ ?_
  rotate_left
  · intro w'
    go_simp
    with_reducible rfl
  rotate_left
  · simp only [Act.put, List.setIfInBounds_toArray, List.set_cons_zero, List.set_cons_succ, i64_w, i32_w]
    rfl
  refine last_ (i := 11) (N := none) #[true, true, true, true, true, true, true, true, true, true, true, true] rfl rfl (by kernel_rfl) (by decide) (fun K hK => ?_)
  have hs9 := (blk_cell HG1 0).trans rfl
  have hf9 := blk_frozen HG1 0
  refine skip_ (w1 := ?_) (by rfl) rfl ?_ ?_
  rotate_left
  · go_simp
    rfl
  refine hK.out _ _ ?_
  clear hK K
  refine done_ (by kernel_rfl) ?_

  go_wp2_with fail
  refine bodyPost_end (v := .tuple #[]) ?_ rfl ?_
  · simp [results, show Try.f75.results = #[] from rfl]
  have hG2 := blk_set HG1 0 (.slice A1 y.length c1)
  exact ⟨rfl, ⟨_, hG2, hge, Kd.R_far (p := ⟨g, 0, none⟩) ho1 (fun k hk => hk) _⟩, hb1.setCell (p := ⟨g, 0, none⟩) hge _⟩
set_option maxRecDepth 100000 in
set_option maxHeartbeats 4000000 in
theorem Pop74 (base g : Nat) (l : List S30) (x : S30) (w : World) (h : RowAt base w g (l ++ [x])) (hl : l.length < 8796093022207) (hbase : base ≤ w.heap.size) :
    Calls Try.prog 74 #[.pointer (some ⟨g, 0, none⟩)] w fun e w' => e = .returned (.iface 30 (.agg #[.int .i64 x.f0, .int .i64 x.f1])) ∧ RowAt base w' g l ∧ Below base w w' := by
  obtain ⟨v, h1, hge, h3⟩ := h
  obtain ⟨y, hy⟩ : ∃ y, y = l ++ [x] := ⟨_, rfl⟩
  rw [← hy] at h3
  have hyl : y.length = l.length + 1 := by rw [hy]; simp
  obtain ⟨b, c, rfl, hbb, hbl, hbt⟩ := Kd.R_form h3 (by omega)
  have hne : b ≠ g := h3.1 b (by simp [Value.ownBlock])
  have hc0 : w.cell? ⟨g, 0, none⟩ = some (.slice (some ⟨b, 0, none⟩) y.length c) := (blk_cell h1 0).trans rfl
  have hf0 : w.frozen? ⟨g, 0, none⟩ = false := blk_frozen h1 0
  obtain ⟨ad, eA, hx0, hx1⟩ := at_T30 (Kd.R_reads' h3).2.2 (l.length : Int) (by omega) (by omega)
  injection eA with eA
  subst eA
  rw [add_plain] at hx0 hx1
  have hrd : rd_T30 y (l.length : Int) = x := by rw [hy]; simp [rd_T30]
  rw [hrd] at hx0 hx1
  rw [Int.toNat_natCast] at hx0 hx1
  have hyl2 : (y.length : Int) - 1 = (l.length : Int) := by omega
  have hcc : y.length ≤ c := (Kd.R_reads' h3).2.1
  have hi1 : ((l.length : Int) < (y.length : Int)) = True := eq_true (by omega)
  have hi0 : (0 ≤ (l.length : Int)) = True := eq_true (by omega)
  obtain ⟨i0, hi0', _, hsz, _⟩ := info_parts info30
  have hcut := cut_to (P := Try.prog) 22 30 .i64 Try.underlying22 hi0' (some ⟨b, 0, none⟩) y.length c (l.length : Int) (by omega) (by omega) hcc
  rw [Int.toNat_natCast] at hcut
  have hO1 := Kd.R_take (m := l.length) h3 (by omega)
  have htk : y.take l.length = l := by rw [hy]; simp
  rw [htk] at hO1
  have hu59 := Try.underlying59
  have hu30 := Try.underlying30
  have HG := Aside0.mk h1
  have HO := Aside0.mk hO1
  have hyl3 : (Value.slice (some ⟨b, 0, none⟩) y.length c) = .slice (some ⟨b, 0, none⟩) y.length c := rfl
  have HYL := Aside0.mk hyl
  have hgl := blk_lt h1
  have hP := blk_alloc h1 (.cells #[.int .i64 x.f0, .int .i64 x.f1] 30)
  have hc1 : (w.alloc (.cells #[.int .i64 x.f0, .int .i64 x.f1] 30)).cell? ⟨g, 0, none⟩ = some (.slice (some ⟨b, 0, none⟩) y.length c) := (blk_cell hP 0).trans rfl
  have hf1 := blk_frozen hP 0
  have hgne : w.heap.size ≠ g := by omega
  have hN := blk_far (blk_new w (.cells #[.int .i64 x.f0, .int .i64 x.f1] 30)) (p := ⟨g, 0, none⟩) hgne (.slice (some ⟨b, 0, none⟩) l.length c)
  have hz0 := (blk_cell hN 0).trans rfl
  have hz1 := (blk_cell hN 1).trans rfl
  have HP := Aside0.mk hP
  clear h1 h3 hbt hO1 hy htk hyl hyl3 hP hN hgl
  go_enter Try.func74, Try.ntmps74
  go_wp2_with fail
  go_ret
  have hB : Below base w (w.alloc (.cells #[.int .i64 x.f0, .int .i64 x.f1] 30)) := (below_alloc (Below.refl _ _) _).mono hbase
  exact ⟨rfl, ⟨_, blk_set HP.out 0 (.slice (some ⟨b, 0, none⟩) l.length c), hge, Kd.R_far (p := ⟨g, 0, none⟩) (Kd.R_alloc HO.out _) (fun k hk => hk) _⟩, hB.setCell (p := ⟨g, 0, none⟩) hge _⟩
end Go.Proofs.Ytfjgfkokhnpbcaa.U
