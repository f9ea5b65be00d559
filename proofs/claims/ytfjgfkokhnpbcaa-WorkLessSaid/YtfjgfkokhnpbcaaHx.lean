/- work.Next: the least pair that waits. -/
import Derived.Test.YtfjgfkokhnpbcaaHw
import Derived.Test.YtfjgfkokhnpbcaaUx0
namespace Go.Proofs.Ytfjgfkokhnpbcaa.U
open Go.RowKit Go.Proofs.YtfjgfkokhnpbcaaW.PrintWords Go.Proofs.YtfjgfkokhnpbcaaW.PrintLast Go.Proofs.YtfjgfkokhnpbcaaW.PrintMore
set_option linter.unusedVariables false
set_option linter.unusedSimpArgs false
attribute [local go_sem] as30
theorem results_cct {P : Program} {fn : Func} {p p' u : Tmp} {ty ty' : TypeId} (h : fn.results = #[.cell p ty, .cell p' ty', .tmp u]) (tmps : Array Value) (w : World) (g g' : Nat) (t t' : TypeId) (cs cs' : Array Value) (fr fr' : Nat × Nat) (d d' : TypeDesc)
    (hp : tmps.getD p undef = .pointer (some ⟨g, 0, none⟩)) (hg : w.heap[g]? = some (.cells cs t fr)) (hu : P.underlying ty = some d) (hd : (match d with | .struct _ | .array _ _ => true | _ => false) = true) (hi : (P.info? ty).map (·.size) = some cs.size)
    (hp' : tmps.getD p' undef = .pointer (some ⟨g', 0, none⟩)) (hg' : w.heap[g']? = some (.cells cs' t' fr')) (hu' : P.underlying ty' = some d') (hd' : (match d' with | .struct _ | .array _ _ => true | _ => false) = true) (hi' : (P.info? ty').map (·.size) = some cs'.size) :
    (results fn tmps).run P w = .ok (.tuple #[.agg cs, .agg cs', tmps.getD u undef]) w := by
  have hq : tmps[p]?.getD undef = .pointer (some ⟨g, 0, none⟩) := by simpa using hp
  have hq' : tmps[p']?.getD undef = .pointer (some ⟨g', 0, none⟩) := by simpa using hp'
  simp [results, h, hq, hq', asAddr, run_loadVar_row w g t ty cs fr d hg hu hd hi, run_loadVar_row w g' t' ty' cs' fr' d' hg' hu' hd' hi']
def popL (L : List S30) : List S30 := (downL (L.length - 1) (swap2 L 0 ((L.length : Int) - 1)) 0 ((L.length : Int) - 1)).take (L.length - 1)
def work_Next.f (L : List S30) (keys : List (List Int)) (slots : List Int) : Option (List S30 × List (List Int) × List Int × Int × Int × Bool) :=
  if L.length = 0 then some (L, keys, slots, 0, 0, false) else if L.length < 8796093022208 then some (popL L, keys, slots, (rd_T30 L 0).f0, (rd_T30 L 0).f1, true) else none
def WNext (ok : Nat → Prop) (L : List S30) (keys : List (List Int)) (slots : List Int) (x0 x1 : Int) (b : Bool) (w : World) (e : Ending) (w' : World) : Prop := ∃ v, e = .returned (.tuple #[v, .agg #[.int .i64 x0, .int .i64 x1], .bool b]) ∧ QF (fun k => ok k ∨ w.heap.size ≤ k) w' v L keys slots ∧ Below w.heap.size w w'
set_option maxRecDepth 100000 in
set_option maxHeartbeats 4000000 in
theorem work_Next.calls (ok : Nat → Prop) (A0 : Option Addr) (c0 : Nat) (L : List S30) (A1 : Option Addr) (c1 : Nat) (keys : List (List Int)) (A2 : Option Addr) (c2 : Nat) (slots : List Int) (r0 : List S30) (r1 : List (List Int)) (r2 : List Int) (x0 x1 : Int) (r3 : Bool) (w : World)
    (hr0 : Kd.F k30 w ok A0 L.length L) (hc0 : L.length ≤ c0) (hr1 : Kd.F (Kd.slice 3 (Kd.int .i64)) w ok A1 keys.length keys) (hc1 : keys.length ≤ c1) (hr2 : Kd.F (Kd.int .i64) w ok A2 slots.length slots) (hc2 : slots.length ≤ c2)
    (h : work_Next.f L keys slots = some (r0, r1, r2, x0, x1, r3)) :
    Calls Try.prog 12 #[.agg #[.slice A0 L.length c0, .slice A1 keys.length c1, .slice A2 slots.length c2]] w (WNext ok r0 r1 r2 x0 x1 r3 w) := by
  have hu26 := Try.underlying26
  have hu28 := Try.underlying28
  have hu30 := Try.underlying30
  have HX0 := Aside0.mk (Kd.F_bound hr0)
  have HX1 := Aside0.mk (Kd.F_bound hr1)
  have HX2 := Aside0.mk (Kd.F_bound hr2)
  clear hr0 hr1 hr2
  unfold work_Next.f at h
  have hB1 : Below w.heap.size w (((w.alloc (.cells #[.slice A0 L.length c0, .slice A1 keys.length c1, .slice A2 slots.length c2] 28)).alloc (.cells #[.slice none 0 0, .slice none 0 0, .slice none 0 0] 28)).alloc (.cells #[.int .i64 0, .int .i64 0] 30)) := below_alloc (below_alloc (below_alloc (Below.refl _ _) _) _) _
  have hQ1 := blk_alloc (blk_alloc (blk_new w (.cells #[.slice A0 L.length c0, .slice A1 keys.length c1, .slice A2 slots.length c2] 28)) (.cells #[.slice none 0 0, .slice none 0 0, .slice none 0 0] 28)) (.cells #[.int .i64 0, .int .i64 0] 30)
  have hP1 := blk_alloc (blk_new (w.alloc (.cells #[.slice A0 L.length c0, .slice A1 keys.length c1, .slice A2 slots.length c2] 28)) (.cells #[.slice none 0 0, .slice none 0 0, .slice none 0 0] 28)) (.cells #[.int .i64 0, .int .i64 0] 30)
  have hZ1 := blk_new ((w.alloc (.cells #[.slice A0 L.length c0, .slice A1 keys.length c1, .slice A2 slots.length c2] 28)).alloc (.cells #[.slice none 0 0, .slice none 0 0, .slice none 0 0] 28)) (.cells #[.int .i64 0, .int .i64 0] 30)
  simp only [World.size_alloc] at hP1 hZ1
  have HB := Aside0.mk hB1
  have HQ := Aside0.mk hQ1
  have HP := Aside0.mk hP1
  have HZ := Aside0.mk hZ1
  have hcq0 := (blk_cell HQ.out 0).trans rfl
  have hcq1 := (blk_cell HQ.out 1).trans rfl
  have hcq2 := (blk_cell HQ.out 2).trans rfl
  clear hB1 hQ1 hP1 hZ1
  by_cases h0 : L.length = 0
  · rw [if_pos h0] at h
    simp only [Option.some.injEq, Prod.mk.injEq] at h
    obtain ⟨rfl, rfl, rfl, rfl, rfl, rfl⟩ := h
    have he : ((L.length : Int) == 0) = true := by rw [h0]; rfl
    have hL0 := List.eq_nil_of_length_eq_zero h0
    have HL0 := Aside0.mk hL0
    clear h0 hL0
    have hcp0 := (blk_cell HP.out 0).trans rfl
    have hcp1 := (blk_cell HP.out 1).trans rfl
    have hcp2 := (blk_cell HP.out 2).trans rfl
    have hfp0 := blk_frozen HP.out 0
    have hfp1 := blk_frozen HP.out 1
    have hfp2 := blk_frozen HP.out 2
    have hcz0 := (blk_cell HZ.out 0).trans rfl
    have hcz1 := (blk_cell HZ.out 1).trans rfl
    have hfz0 := blk_frozen HZ.out 0
    have hfz1 := blk_frozen HZ.out 1
    go_enter Try.func12, Try.ntmps12
    go_wp2_with fail
    have hBf : Below w.heap.size w (((w.alloc (.cells #[.slice A0 L.length c0, .slice A1 keys.length c1, .slice A2 slots.length c2] 28)).alloc (.cells #[.slice A0 L.length c0, .slice A1 keys.length c1, .slice A2 slots.length c2] 28)).alloc (.cells #[.int .i64 0, .int .i64 0] 30)) := below_alloc (below_alloc (below_alloc (Below.refl _ _) _) _) _
    have hPf := blk_alloc (blk_new (w.alloc (.cells #[.slice A0 L.length c0, .slice A1 keys.length c1, .slice A2 slots.length c2] 28)) (.cells #[.slice A0 L.length c0, .slice A1 keys.length c1, .slice A2 slots.length c2] 28)) (.cells #[.int .i64 0, .int .i64 0] 30)
    have hZf := blk_new ((w.alloc (.cells #[.slice A0 L.length c0, .slice A1 keys.length c1, .slice A2 slots.length c2] 28)).alloc (.cells #[.slice A0 L.length c0, .slice A1 keys.length c1, .slice A2 slots.length c2] 28)) (.cells #[.int .i64 0, .int .i64 0] 30)
    simp only [World.size_alloc] at hPf hZf
    refine bodyPost_ret (results_cct rfl _ _ (w.heap.size + 1) (w.heap.size + 1 + 1) 28 30 _ _ (0, 0) (0, 0) _ _ rfl hPf Try.underlying28 rfl (by kernel_rfl) rfl hZf Try.underlying30 rfl (by kernel_rfl)) rfl ?_
    exact ⟨_, rfl, ⟨_, _, _, _, _, _, rfl, hc0, hc1, hc2, Kd.F_mono (Kd.F_below HX0.out hBf) (fun k hk => .inl hk.1), Kd.F_mono (Kd.F_below HX1.out hBf) (fun k hk => .inl hk.1), Kd.F_mono (Kd.F_below HX2.out hBf) (fun k hk => .inl hk.1)⟩, hBf⟩
  · rw [if_neg h0] at h
    by_cases hL : L.length < 8796093022208
    case neg => rw [if_neg hL] at h; cases h
    rw [if_pos hL] at h
    simp only [Option.some.injEq, Prod.mk.injEq] at h
    obtain ⟨hr0, rfl, rfl, hx0, hx1, rfl⟩ := h
    have HR0 := Aside0.mk hr0
    have HX := Aside0.mk (And.intro hx0 hx1)
    have he : ((L.length : Int) == 0) = false := beq_eq_false_iff_ne.mpr (by omega)
    have HL0 := Aside0.mk h0
    have HLL := Aside0.mk hL
    clear h0 hL hr0 hx0 hx1
    go_enter Try.func12, Try.ntmps12
    go_wp2_with fail
    refine (waits26 A0 c0 L _ (Kd.F_now (Kd.F_below HX0.out HB.out)) hc0 HLL.out).mono ?_
    rintro e W8 ⟨g, rfl, hr8, hb8⟩
    have HR8 := Aside0.mk hr8
    have HB8 := Aside0.mk hb8
    clear hr8 hb8 hcq0 hcq1 hcq2
    go_wp2_with fail
    refine (Pop28 _ g L W8 HR8.out (by have := HL0.out; omega) HLL.out HB8.out.size).mono ?_
    rintro e W9 ⟨rfl, hr9, hb9⟩
    rw [HX.out.1, HX.out.2]
    rw [show (downL (L.length - 1) (swap2 L 0 ((L.length : Int) - 1)) 0 ((L.length : Int) - 1)).take (L.length - 1) = r0 from HR0.out] at hr9
    obtain ⟨v9, h91, hge9, h93⟩ := hr9
    obtain ⟨A9, c9, rfl⟩ := Kd.R_slice h93
    obtain ⟨n1, hn1⟩ : ∃ q, q = (((w.alloc (.cells #[.slice A0 L.length c0, .slice A1 keys.length c1, .slice A2 slots.length c2] 28)).alloc (.cells #[.slice none 0 0, .slice none 0 0, .slice none 0 0] 28)).alloc (.cells #[.int .i64 0, .int .i64 0] 30)).heap.size := ⟨_, rfl⟩
    have hn2 : n1 = w.heap.size + 3 := by rw [hn1]; simp only [World.size_alloc]
    rw [← hn1] at hge9 h93 hb9
    have HB9 := Aside0.mk (show Below (((w.alloc (.cells #[.slice A0 L.length c0, .slice A1 keys.length c1, .slice A2 slots.length c2] 28)).alloc (.cells #[.slice none 0 0, .slice none 0 0, .slice none 0 0] 28)).alloc (.cells #[.int .i64 0, .int .i64 0] 30)).heap.size _ W9 from HB8.out.trans (by rw [← hn1]; exact hb9))
    have HBa := Aside0.mk (below_drew (below_alloc HB9.out (.cells #[.int .i64 x0, .int .i64 x1] 30)))
    have HG9 := Aside0.mk (blk_drew (blk_alloc h91 (.cells #[.int .i64 x0, .int .i64 x1] 30)))
    have HN9 := Aside0.mk (blk_drew (blk_new W9 (.cells #[.int .i64 x0, .int .i64 x1] 30)))
    have HQ9 := Aside0.mk (blk_below HQ.out HBa.out)
    have HP9 := Aside0.mk (blk_below HP.out HBa.out)
    have HZ9 := Aside0.mk (blk_below HZ.out HBa.out)
    have HC9 := Aside0.mk (Kd.R_reads' h93).2.1
    have HF0 := Aside0.mk (Kd.F_drew (Kd.F_below (Kd.R_F (Kd.R_bound h93)) (below_alloc (Below.refl _ _) (.cells #[.int .i64 x0, .int .i64 x1] 30))))
    have HBW := Aside0.mk (below_step HB.out HBa.out)
    have HF1 := Aside0.mk (Kd.F_below HX1.out HBW.out)
    have HF2 := Aside0.mk (Kd.F_below HX2.out HBW.out)
    obtain ⟨gx, hgx⟩ : ∃ q, q = W9.heap.size := ⟨_, rfl⟩
    have HGX := Aside0.mk (show w.heap.size + 3 ≤ gx from by rw [hgx, ← hn2, hn1]; exact HB9.out.size)
    have HGG := Aside0.mk (show w.heap.size + 3 ≤ g from by rw [← hn2]; exact hge9)
    have HH := Aside0.mk (And.intro hgx hn2)
    rw [← hgx] at HN9
    have hcg0 := (blk_cell HG9.out 0).trans rfl
    have hcq1 := (blk_cell HQ9.out 1).trans rfl
    have hcq2 := (blk_cell HQ9.out 2).trans rfl
    have hcx0 := (blk_cell HN9.out 0).trans rfl
    have hcx1 := (blk_cell HN9.out 1).trans rfl
    clear h91 h93 hb9 hgx hn1 hn2 hge9
    go_wp2_with fail
    rw [← HH.out.1]
    refine start_ (n := 11) (S := fun w' => w'.cell? ⟨g, 0, none⟩ = some (.slice A9 r0.length c9) ∧ w'.cell? ⟨w.heap.size, 1, none⟩ = some (.slice A1 keys.length c1) ∧ w'.cell? ⟨w.heap.size, 2, none⟩ = some (.slice A2 slots.length c2) ∧ w'.cell? ⟨gx, 0, none⟩ = some (.int .i64 x0) ∧ w'.cell? ⟨gx, 1, none⟩ = some (.int .i64 x1)) (ds := [9]) #[false, false, false, false, false, false, false, false, false, false, false] (by kernel_rfl) rfl rfl ⟨hcg0, hcq1, hcq2, hcx0, hcx1⟩ (fun hHeld => ?_)
    generalize (W9.alloc (.cells #[.int .i64 x0, .int .i64 x1] 30)).drew = W10 at HBa HG9 HN9 HQ9 HP9 HZ9 HF0 HF1 HF2 HBW hHeld ⊢
    clear hcg0 hcq1 hcq2 hcx0 hcx1
    refine pure_ (i := 0) (N := some 23) (v := ?_) (a' := ?_) #[true, false, false, false, false, false, false, false, false, false, false] rfl rfl (by kernel_rfl) (fun _ _ _ h => h) (Or.inl ⟨by rfl, ?_⟩) ?_ ?_
    rotate_left
    · intro w'
      go_simp
      with_reducible rfl
    rotate_left
    · simp only [Act.put, List.setIfInBounds_toArray, List.set_cons_zero, List.set_cons_succ, i64_w, i32_w]
      rfl
    refine pure_ (i := 1) (N := some 24) (v := ?_) (a' := ?_) #[true, true, false, false, false, false, false, false, false, false, false] rfl rfl (by kernel_rfl) (fun _ _ _ h => h) (Or.inl ⟨by rfl, ?_⟩) ?_ ?_
    rotate_left
    · intro w'
      go_simp
      with_reducible rfl
    rotate_left
    · simp only [Act.put, List.setIfInBounds_toArray, List.set_cons_zero, List.set_cons_succ, i64_w, i32_w]
      rfl
    refine pure_ (i := 2) (N := some 25) (v := ?_) (a' := ?_) #[true, true, true, false, false, false, false, false, false, false, false] rfl rfl (by kernel_rfl) (fun _ _ _ h => h) (Or.inl ⟨by rfl, ?_⟩) ?_ ?_
    rotate_left
    · intro w'
      go_simp
      with_reducible rfl
    rotate_left
    · simp only [Act.put, List.setIfInBounds_toArray, List.set_cons_zero, List.set_cons_succ, i64_w, i32_w]
      rfl
    refine pure_ (i := 4) (N := some 27) (v := ?_) (a' := ?_) #[true, true, true, false, true, false, false, false, false, false, false] rfl rfl (by kernel_rfl) (fun _ _ _ h => h) (Or.inl ⟨by rfl, ?_⟩) ?_ ?_
    rotate_left
    · intro w'
      go_simp
      with_reducible rfl
    rotate_left
    · simp only [Act.put, List.setIfInBounds_toArray, List.set_cons_zero, List.set_cons_succ, i64_w, i32_w]
      rfl
    refine take_ (i := 3) (N := some 26) (v := ?_) (a' := ?_) #[true, true, true, true, true, false, false, false, false, false, false] rfl rfl (by kernel_rfl) (fun _ _ _ h => h) (Or.inl ⟨by rfl, ?_⟩) hHeld ?_ ?_
    rotate_left
    · rintro w' ⟨s0, s1, s2, s3, s4⟩
      go_simp
      with_reducible rfl
    rotate_left
    · simp only [Act.put, List.setIfInBounds_toArray, List.set_cons_zero, List.set_cons_succ, i64_w, i32_w]
      rfl
    refine take_ (i := 5) (N := some 28) (v := ?_) (a' := ?_) #[true, true, true, true, true, true, false, false, false, false, false] rfl rfl (by kernel_rfl) (fun _ _ _ h => h) (Or.inl ⟨by rfl, ?_⟩) hHeld ?_ ?_
    rotate_left
    · rintro w' ⟨s0, s1, s2, s3, s4⟩
      go_simp
      with_reducible rfl
    rotate_left
    · simp only [Act.put, List.setIfInBounds_toArray, List.set_cons_zero, List.set_cons_succ, i64_w, i32_w]
      rfl
    refine pure_ (i := 6) (N := some 29) (v := ?_) (a' := ?_) #[true, true, true, true, true, true, true, false, false, false, false] rfl rfl (by kernel_rfl) (fun _ _ _ h => h) (Or.inl ⟨by rfl, ?_⟩) ?_ ?_
    rotate_left
    · intro w'
      go_simp
      with_reducible rfl
    rotate_left
    · simp only [Act.put, List.setIfInBounds_toArray, List.set_cons_zero, List.set_cons_succ, i64_w, i32_w]
      rfl
    refine take_ (i := 7) (N := some 30) (v := ?_) (a' := ?_) #[true, true, true, true, true, true, true, true, false, false, false] rfl rfl (by kernel_rfl) (fun _ _ _ h => h) (Or.inl ⟨by rfl, ?_⟩) hHeld ?_ ?_
    rotate_left
    · rintro w' ⟨s0, s1, s2, s3, s4⟩
      go_simp
      with_reducible rfl
    rotate_left
    · simp only [Act.put, List.setIfInBounds_toArray, List.set_cons_zero, List.set_cons_succ, i64_w, i32_w]
      rfl
    refine one_ (i := 8) (N := none) #[true, true, true, true, true, true, true, true, true, false, false] rfl rfl (by kernel_rfl) (by decide) (fun K hK => ?_)
    have hs0 := (blk_cell HP9.out 0).trans rfl
    have hs1 := (blk_cell HP9.out 1).trans rfl
    have hs2 := (blk_cell HP9.out 2).trans rfl
    have hf0 := blk_frozen HP9.out 0
    have hf1 := blk_frozen HP9.out 1
    have hf2 := blk_frozen HP9.out 2
    refine skip_ (w1 := ?_) (by rfl) rfl ?_ ?_
    rotate_left
    · go_simp
      rfl
    refine hK.out _ _ ⟨((cell_far (p := ⟨w.heap.size + 1, _, none⟩) (by show g ≠ w.heap.size + 1; have := HGG.out; omega) _).trans ((cell_far (p := ⟨w.heap.size + 1, _, none⟩) (by show g ≠ w.heap.size + 1; have := HGG.out; omega) _).trans ((cell_far (p := ⟨w.heap.size + 1, _, none⟩) (by show g ≠ w.heap.size + 1; have := HGG.out; omega) _).trans hHeld.1))), ((cell_far (p := ⟨w.heap.size + 1, _, none⟩) (by show w.heap.size ≠ w.heap.size + 1; omega) _).trans ((cell_far (p := ⟨w.heap.size + 1, _, none⟩) (by show w.heap.size ≠ w.heap.size + 1; omega) _).trans ((cell_far (p := ⟨w.heap.size + 1, _, none⟩) (by show w.heap.size ≠ w.heap.size + 1; omega) _).trans hHeld.2.1))), ((cell_far (p := ⟨w.heap.size + 1, _, none⟩) (by show w.heap.size ≠ w.heap.size + 1; omega) _).trans ((cell_far (p := ⟨w.heap.size + 1, _, none⟩) (by show w.heap.size ≠ w.heap.size + 1; omega) _).trans ((cell_far (p := ⟨w.heap.size + 1, _, none⟩) (by show w.heap.size ≠ w.heap.size + 1; omega) _).trans hHeld.2.2.1))), ((cell_far (p := ⟨w.heap.size + 1, _, none⟩) (by show gx ≠ w.heap.size + 1; have := HGX.out; omega) _).trans ((cell_far (p := ⟨w.heap.size + 1, _, none⟩) (by show gx ≠ w.heap.size + 1; have := HGX.out; omega) _).trans ((cell_far (p := ⟨w.heap.size + 1, _, none⟩) (by show gx ≠ w.heap.size + 1; have := HGX.out; omega) _).trans hHeld.2.2.2.1))), ((cell_far (p := ⟨w.heap.size + 1, _, none⟩) (by show gx ≠ w.heap.size + 1; have := HGX.out; omega) _).trans ((cell_far (p := ⟨w.heap.size + 1, _, none⟩) (by show gx ≠ w.heap.size + 1; have := HGX.out; omega) _).trans ((cell_far (p := ⟨w.heap.size + 1, _, none⟩) (by show gx ≠ w.heap.size + 1; have := HGX.out; omega) _).trans hHeld.2.2.2.2)))⟩ (fun hHeld => ?_)
    clear hK K
    refine last_ (i := 9) (N := none) #[true, true, true, true, true, true, true, true, true, true, false] rfl rfl (by kernel_rfl) (by decide) (fun K hK => ?_)
    have hne2 : w.heap.size + 1 + 1 ≠ w.heap.size + 1 := by omega
    have HZ10 := blk_far (blk_far (blk_far HZ9.out (p := ⟨w.heap.size + 1, 0, none⟩) hne2 (.slice A9 r0.length c9)) (p := ⟨w.heap.size + 1, 1, none⟩) hne2 (.slice A1 keys.length c1)) (p := ⟨w.heap.size + 1, 2, none⟩) hne2 (.slice A2 slots.length c2)
    have hs0 := (blk_cell HZ10 0).trans rfl
    have hs1 := (blk_cell HZ10 1).trans rfl
    have hf0 := blk_frozen HZ10 0
    have hf1 := blk_frozen HZ10 1
    refine skip_ (w1 := ?_) (by rfl) rfl ?_ ?_
    rotate_left
    · go_simp
      rfl
    refine hK.out _ _ ?_
    clear hK K
    refine pure_ (i := 10) (N := some 4) (v := ?_) (a' := ?_) #[true, true, true, true, true, true, true, true, true, true, true] rfl rfl (by kernel_rfl) (fun _ _ _ h => h) (Or.inl ⟨by rfl, ?_⟩) ?_ ?_
    rotate_left
    · intro w'
      go_simp
      with_reducible rfl
    rotate_left
    · simp only [Act.put, List.setIfInBounds_toArray, List.set_cons_zero, List.set_cons_succ, i64_w, i32_w]
      rfl
    refine done_ (by kernel_rfl) ?_

    go_wp2_with fail
    have hPf := blk_put (cs := #[.slice A9 r0.length c9, .slice A1 keys.length c1, .slice none 0 0]) (blk_put (cs := #[.slice A9 r0.length c9, .slice none 0 0, .slice none 0 0]) (blk_put (cs := #[.slice none 0 0, .slice none 0 0, .slice none 0 0]) HP9.out 0 (.slice A9 r0.length c9) rfl) 1 (.slice A1 keys.length c1) rfl) 2 (.slice A2 slots.length c2) rfl
    have hne3 : w.heap.size + 1 ≠ w.heap.size + 1 + 1 := by omega
    have hPf2 := blk_far (blk_far hPf (p := ⟨w.heap.size + 1 + 1, 0, none⟩) hne3 (.int .i64 x0)) (p := ⟨w.heap.size + 1 + 1, 1, none⟩) hne3 (.int .i64 x1)
    have hZf := blk_put (cs := #[.int .i64 x0, .int .i64 0]) (blk_put (cs := #[.int .i64 0, .int .i64 0]) HZ10 0 (.int .i64 x0) rfl) 1 (.int .i64 x1) rfl
    have hB2 : Below w.heap.size w (((((W10.setCell ⟨w.heap.size + 1, 0, none⟩ (.slice A9 r0.length c9)).setCell ⟨w.heap.size + 1, 1, none⟩ (.slice A1 keys.length c1)).setCell ⟨w.heap.size + 1, 2, none⟩ (.slice A2 slots.length c2)).setCell ⟨w.heap.size + 1 + 1, 0, none⟩ (.int .i64 x0)).setCell ⟨w.heap.size + 1 + 1, 1, none⟩ (.int .i64 x1)) :=
      ((((HBW.out.setCell (p := ⟨w.heap.size + 1, 0, none⟩) (by show w.heap.size ≤ w.heap.size + 1; omega) _).setCell (p := ⟨w.heap.size + 1, 1, none⟩) (by show w.heap.size ≤ w.heap.size + 1; omega) _).setCell (p := ⟨w.heap.size + 1, 2, none⟩) (by show w.heap.size ≤ w.heap.size + 1; omega) _).setCell (p := ⟨w.heap.size + 1 + 1, 0, none⟩) (by show w.heap.size ≤ w.heap.size + 1 + 1; omega) _).setCell (p := ⟨w.heap.size + 1 + 1, 1, none⟩) (by show w.heap.size ≤ w.heap.size + 1 + 1; omega) _
    refine bodyPost_ret (results_cct rfl _ _ (w.heap.size + 1) (w.heap.size + 1 + 1) 28 30 _ _ (0, 0) (0, 0) _ _ rfl hPf2 Try.underlying28 rfl (by kernel_rfl) rfl hZf Try.underlying30 rfl (by kernel_rfl)) rfl ?_
    have hn := HH.out.2
    have f0 : ∀ k, (k ≠ g ∧ n1 ≤ k ∧ k < W9.heap.size ∧ ∃ q, q ∈ 30 :: k30.E ∧ ∃ cells, W9.heap[k]? = some (.cells cells q (0, 0))) → k ≠ w.heap.size + 1 ∧ k ≠ w.heap.size + 1 + 1 := fun k hk => by have := hk.2.1; omega
    have f1 : ∀ k, (ok k ∧ k < w.heap.size) → k ≠ w.heap.size + 1 ∧ k ≠ w.heap.size + 1 + 1 := fun k hk => by have := hk.2; omega
    refine ⟨_, rfl, ⟨_, _, _, _, _, _, rfl, HC9.out, hc1, hc2, ?_, ?_, ?_⟩, hB2⟩
    · exact Kd.F_mono (Kd.F_far (p := ⟨w.heap.size + 1 + 1, 1, none⟩) (Kd.F_far (p := ⟨w.heap.size + 1 + 1, 0, none⟩) (Kd.F_far (p := ⟨w.heap.size + 1, 2, none⟩) (Kd.F_far (p := ⟨w.heap.size + 1, 1, none⟩) (Kd.F_far (p := ⟨w.heap.size + 1, 0, none⟩) HF0.out (fun k hk => (f0 k hk).1) _) (fun k hk => (f0 k hk).1) _) (fun k hk => (f0 k hk).1) _) (fun k hk => (f0 k hk).2) _) (fun k hk => (f0 k hk).2) _) (fun k hk => .inr (by have := hk.2.1; omega))
    · exact Kd.F_mono (Kd.F_far (p := ⟨w.heap.size + 1 + 1, 1, none⟩) (Kd.F_far (p := ⟨w.heap.size + 1 + 1, 0, none⟩) (Kd.F_far (p := ⟨w.heap.size + 1, 2, none⟩) (Kd.F_far (p := ⟨w.heap.size + 1, 1, none⟩) (Kd.F_far (p := ⟨w.heap.size + 1, 0, none⟩) HF1.out (fun k hk => (f1 k hk).1) _) (fun k hk => (f1 k hk).1) _) (fun k hk => (f1 k hk).1) _) (fun k hk => (f1 k hk).2) _) (fun k hk => (f1 k hk).2) _) (fun k hk => .inl hk.1)
    · exact Kd.F_mono (Kd.F_far (p := ⟨w.heap.size + 1 + 1, 1, none⟩) (Kd.F_far (p := ⟨w.heap.size + 1 + 1, 0, none⟩) (Kd.F_far (p := ⟨w.heap.size + 1, 2, none⟩) (Kd.F_far (p := ⟨w.heap.size + 1, 1, none⟩) (Kd.F_far (p := ⟨w.heap.size + 1, 0, none⟩) HF2.out (fun k hk => (f1 k hk).1) _) (fun k hk => (f1 k hk).1) _) (fun k hk => (f1 k hk).1) _) (fun k hk => (f1 k hk).2) _) (fun k hk => (f1 k hk).2) _) (fun k hk => .inl hk.1)
end Go.Proofs.Ytfjgfkokhnpbcaa.U
