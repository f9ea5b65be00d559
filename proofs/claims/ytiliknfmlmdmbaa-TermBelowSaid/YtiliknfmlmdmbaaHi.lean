/- term.New, term.Put: the store of two, and a store with a term. -/
import Derived.Deep.RegionHeld3
import Derived.Test.YtiliknfmlmdmbaaHh
import Derived.Test.YtiliknfmlmdmbaaTx0
import Derived.Test.YtiliknfmlmdmbaaTx2
import Derived.Test.YtiliknfmlmdmbaaTx3
import Derived.Test.YtiliknfmlmdmbaaTx5
namespace Go.Proofs.Ytiliknfmlmdmbaa.T
open Go.RowKit Go.Proofs.YtiliknfmlmdmbaaW.PrintWords Go.Proofs.YtiliknfmlmdmbaaW.PrintLast Go.Proofs.YtiliknfmlmdmbaaW.PrintMore
set_option linter.unusedVariables false
set_option linter.unusedSimpArgs false

theorem results_c1 {P : Program} {fn : Func} {p : Tmp} {ty : TypeId} (h : fn.results = #[.cell p ty]) (tmps : Array Value) (w : World) (g : Nat) (t : TypeId) (cs : Array Value) (fr : Nat × Nat) (d : TypeDesc)
    (hp : tmps.getD p undef = .pointer (some ⟨g, 0, none⟩)) (hg : w.heap[g]? = some (.cells cs t fr))
    (hu : P.underlying ty = some d) (hd : (match d with | .struct _ | .array _ _ => true | _ => false) = true) (hi : (P.info? ty).map (·.size) = some cs.size) :
    (results fn tmps).run P w = .ok (.agg cs) w := by
  have hp' : tmps[p]?.getD undef = .pointer (some ⟨g, 0, none⟩) := by simpa using hp
  simp [results, h, hp', asAddr, run_loadVar_row w g t ty cs fr d hg hu hd hi]

theorem key_nil (j : Int) (w : World) : Calls Try.prog 21 #[.agg #[.int .i64 j, .int .i64 0, .int .i64 0, .slice none 0 0]] w fun e w' => ∃ v0_ : Value, e = .returned (v0_) ∧ Kd.R (Kd.int .i64) 3 w' w.heap.size (fun _ => True) v0_ [j, 0, 0] ∧ Below w.heap.size w w' :=
  term_Key.calls j 0 0 none 0 [] [j, 0, 0] w (Kd.C_nil _ _) (Nat.le_refl _) rfl
theorem put_at (k : Nat) (ok : Nat → Prop) (A0_0 : Option Addr) (c0_0 : Nat) (l0_0 : List (List Int)) (A0_1 : Option Addr) (c0_1 : Nat) (l0_1 : List Int) (A1 : Option Addr) (n1 c1 : Nat) (l1 : List Int) (r1 : List (List Int)) (r2 : List Int) (r3 : Int) (r4 : Bool) (w : World) (hn : n1 = l1.length)
    (hr0_0 : Kd.F (Kd.slice 3 (Kd.int .i64)) w ok A0_0 l0_0.length l0_0) (hc0_0 : l0_0.length ≤ c0_0) (hr0_1 : Kd.F (Kd.int .i64) w ok A0_1 l0_1.length l0_1) (hc0_1 : l0_1.length ≤ c0_1) (hr1 : Kd.C (Kd.int .i64) w A1 l1.length l1) (hc1 : l1.length ≤ c1) (h : hash_Put.f k l0_0 l0_1 l1 = some (r1, r2, r3, r4)) :
    Calls Try.prog 20 #[.agg #[.slice A0_0 l0_0.length c0_0, .slice A0_1 l0_1.length c0_1], .slice A1 n1 c1] w (TPut ok r1 r2 r3 r4 w) := by
  subst hn
  exact hash_Put.calls k ok A0_0 c0_0 l0_0 A0_1 c0_1 l0_1 A1 c1 l1 r1 r2 r3 r4 w hr0_0 hc0_0 hr0_1 hc0_1 hr1 hc1 h
def term_New.f (k : Nat) : Option (List (List Int) × List Int) :=
  (hash_Lay.f k []).bind fun s => (hash_Put.f k [] s [0, 0, 0]).bind fun t => (hash_Put.f k t.1 t.2.1 [1, 0, 0]).bind fun u => some (u.1, u.2.1)
theorem term_New.mono : ∀ k, LeO (term_New.f k) (term_New.f (k + 1)) := fun k =>
  LeO.bind (hash_Lay.mono _ k) fun s => LeO.bind (hash_Put.mono _ _ _ k) fun t => LeO.bind (hash_Put.mono _ _ _ k) fun u => LeO.refl _
/-- The table ahead of the j-th round. -/
def NewJ (k : Nat) (s : List Int) : Nat → List (List Int) → List Int → Prop
  | 0, ks, sl => ks = [] ∧ sl = s
  | 1, ks, sl => ∃ n b, hash_Put.f k [] s [0, 0, 0] = some (ks, sl, n, b)
  | _, ks, sl => ∃ ks1 sl1 n1 b1 n b, hash_Put.f k [] s [0, 0, 0] = some (ks1, sl1, n1, b1) ∧ hash_Put.f k ks1 sl1 [1, 0, 0] = some (ks, sl, n, b)
theorem term_New.rounds {k : Nat} {r1 : List (List Int)} {r2 : List Int} (h : term_New.f k = some (r1, r2)) : ∃ s, hash_Lay.f k [] = some s ∧ (∀ j ks sl, j < 2 → NewJ k s j ks sl → ∃ ks' sl' n b, hash_Put.f k ks sl [(j : Int), 0, 0] = some (ks', sl', n, b) ∧ NewJ k s (j + 1) ks' sl') ∧ ∀ ks sl, NewJ k s 2 ks sl → ks = r1 ∧ sl = r2 := by
  unfold term_New.f at h
  obtain ⟨s, hs, h⟩ := Option.bind_eq_some_iff.mp h
  obtain ⟨⟨ks1, sl1, n1, b1⟩, h1, h⟩ := Option.bind_eq_some_iff.mp h
  obtain ⟨⟨ks2, sl2, n2, b2⟩, h2, h⟩ := Option.bind_eq_some_iff.mp h
  simp only [Option.some.injEq, Prod.mk.injEq] at h
  obtain ⟨rfl, rfl⟩ := h
  refine ⟨s, hs, fun j ks sl hj hJ => ?_, fun ks sl hJ => ?_⟩
  · have hj2 : j = 0 ∨ j = 1 := by omega
    rcases hj2 with rfl | rfl
    · obtain ⟨rfl, rfl⟩ := hJ
      exact ⟨ks1, sl1, n1, b1, h1, n1, b1, h1⟩
    · obtain ⟨n, b, hJ⟩ := hJ
      rw [h1] at hJ
      simp only [Option.some.injEq, Prod.mk.injEq] at hJ
      obtain ⟨rfl, rfl, rfl, rfl⟩ := hJ
      exact ⟨ks2, sl2, n2, b2, h2, ks1, sl1, n1, b1, n2, b2, h1, h2⟩
  · obtain ⟨q1, q2, q3, q4, q5, q6, e1, e2⟩ := hJ
    rw [h1] at e1
    simp only [Option.some.injEq, Prod.mk.injEq] at e1
    obtain ⟨rfl, rfl, rfl, rfl⟩ := e1
    rw [h2] at e2
    simp only [Option.some.injEq, Prod.mk.injEq] at e2
    exact ⟨e2.1.symm, e2.2.1.symm⟩
def TTab (r1 : List (List Int)) (r2 : List Int) (w : World) (e : Ending) (w' : World) : Prop := ∃ v, e = .returned v ∧ TKeyed w' v r1 r2 ∧ Below w.heap.size w w'
/-- What term.New keeps between two rounds. -/
def NewRel (k : Nat) (s : List Int) (g0 g1 B : Nat) (w0 : World) (j : Nat) (wr : World) : Prop := ∃ A0 c0 A1 c1 ks sl, NewJ k s j ks sl ∧ wr.heap[g1]? = some (.cells #[.slice A0 ks.length c0, .slice A1 sl.length c1] 26 (0, 0)) ∧ wr.heap[g0]? = some (.cells #[.slice none 0 0, .slice none 0 0] 26 (0, 0)) ∧ wr.heap[B]? = some (.cells #[.int .i64 0, .int .i64 1] 3 (0, 0)) ∧ ks.length ≤ c0 ∧ sl.length ≤ c1 ∧
  Kd.F (Kd.slice 3 (Kd.int .i64)) wr (fun b => b ≠ g0 ∧ b ≠ g1) A0 ks.length ks ∧ Kd.F (Kd.int .i64) wr (fun b => b ≠ g0 ∧ b ≠ g1) A1 sl.length sl ∧ Below w0.heap.size w0 wr
set_option maxRecDepth 100000 in
set_option maxHeartbeats 4000000 in
theorem term_New.calls (k : Nat) (r1 : List (List Int)) (r2 : List Int) (w : World) (h : term_New.f k = some (r1, r2)) : Calls Try.prog 14 #[] w (TTab r1 r2 w) := by
  have hu26 := Try.underlying26
  obtain ⟨s, hs, hround, hend⟩ := term_New.rounds h
  have HS := Aside0.mk hs
  have HRD := Aside0.mk hround
  have HE := Aside0.mk hend
  clear h hs hround hend
  go_enter Try.func14, Try.ntmps14
  go_wp2_with fail
  refine (hash_Lay.calls k none 0 [] s _ (Kd.C_nil _ _) (Nat.le_refl _) HS.out).mono ?_
  rintro e w2 ⟨v2, rfl, ho2, hb2⟩
  obtain ⟨A2, c2, rfl⟩ := Kd.R_slice ho2
  have HM2 := Aside0.mk (Kd.R_reads' ho2)
  have HB2 := Aside0.mk (below_step (below_alloc (Below.refl _ _) _) hb2)
  have HR2 := Aside0.mk (blk_below (blk_new w _) hb2)
  clear hb2
  go_wp2_with fail
  have H0 := Aside0.mk (show NewRel k s w.heap.size w2.heap.size (w2.heap.size + 1) w 0 ((w2.alloc (.cells #[.slice none 0 0, .slice A2 s.length c2] 26)).alloc (.cells #[.int .i64 0, .int .i64 1] 3)) from by
    refine ⟨none, 0, A2, c2, [], s, ⟨rfl, rfl⟩, blk_alloc (blk_new w2 _) _, blk_alloc (blk_alloc HR2.out _) _, ?_, Nat.le_refl _, HM2.out.2.1, Kd.F_nil _ _ _, ?_, below_alloc (below_alloc HB2.out _) _⟩
    · have := blk_new (w2.alloc (.cells #[.slice none 0 0, .slice A2 s.length c2] 26)) (.cells #[.int .i64 0, .int .i64 1] 3)
      rwa [World.size_alloc] at this
    · exact Kd.F_mono (Kd.F_alloc (Kd.F_alloc (Kd.R_F (Kd.R_bound ho2)) _) _) (fun b hb => (by have h1 := hb.2.1; have h2 := hb.2.2.1; simp at h1; omega : b ≠ w.heap.size ∧ b ≠ w2.heap.size)))
  have HLT := Aside0.mk (show w.heap.size < w2.heap.size from blk_lt HR2.out)
  clear HR2 HM2 HB2 ho2
  go_loopw [8] (fun i wr => ∃ j : Nat, j ≤ 2 ∧ i = .int .i64 (j : Int) ∧ Aside0 (NewRel k s w.heap.size w2.heap.size (w2.heap.size + 1) w j wr)) (fun i _ => (2 - intOf i).toNat)
  case atStart => exact ⟨0, by omega, rfl, H0⟩
  case round =>
    obtain ⟨j, hj, rfl, HJ⟩ := hrel
    clear H0
    obtain ⟨A0, c0, A1, c1, ks, sl, hJ, hT, hR, hL, hc0, hc1, hF0, hF1, hB⟩ := HJ.out
    clear HJ
    have hcK := blk_cell hT 0
    have hcS := blk_cell hT 1
    have hfTK := blk_frozen hT 0
    have hfTS := blk_frozen hT 1
    have hrK := blk_cell hR 0
    have hrS := blk_cell hR 1
    have hfK := blk_frozen hR 0
    have hfS := blk_frozen hR 1
    simp only [List.getElem?_toArray, List.getElem?_cons_zero, List.getElem?_cons_succ] at hcK hcS hrK hrS
    by_cases hlt : j < 2
    · obtain ⟨ks', sl', n', b', hput, hJ'⟩ := HRD.out j ks sl hlt hJ
      have hlj : wr.cell? ⟨w2.heap.size + 1, j, none⟩ = some (.int .i64 (j : Int)) := by
        rw [blk_cell hL j]
        have : j = 0 ∨ j = 1 := by omega
        rcases this with rfl | rfl <;> rfl
      have hi0 : (0 : Int) ≤ (j : Int) := by omega
      have hi1 : (j : Int) < 2 := by omega
      have HT := Aside0.mk hT
      have HR := Aside0.mk hR
      have HL := Aside0.mk hL
      have HC0 := Aside0.mk hc0
      have HC1 := Aside0.mk hc1
      have HF0 := Aside0.mk hF0
      have HF1 := Aside0.mk hF1
      have HB := Aside0.mk hB
      have HPUT := Aside0.mk hput
      have HJ2 := Aside0.mk hJ'
      have HKEY := Aside0.mk (show term_Key.f (j : Int) 0 0 [] = some [(j : Int), 0, 0] from rfl)
      clear hT hR hL hc0 hc1 hF0 hF1 hB hput hJ' hJ
      go_upto_region 5 with (fail)
      refine start_ (n := 10) (S := fun w' => w'.cell? ⟨w2.heap.size, 0, none⟩ = some (.slice A0 ks.length c0) ∧ w'.cell? ⟨w2.heap.size, 1, none⟩ = some (.slice A1 sl.length c1)) (ds := [9]) #[false, false, false, false, false, false, false, false, false, false] (by kernel_rfl) rfl rfl ⟨hcK, hcS⟩ (fun hHeld => ?_)
      refine pure_ (i := 1) (N := some 14) (v := ?_) (a' := ?_) #[false, true, false, false, false, false, false, false, false, false] rfl rfl (by kernel_rfl) (fun _ _ _ h => h) (Or.inl ⟨by rfl, ?_⟩) ?_ ?_
      rotate_left
      · intro w'
        go_simp
        with_reducible rfl
      rotate_left
      · simp only [Act.put, List.setIfInBounds_toArray, List.set_cons_zero, List.set_cons_succ, i64_w, i32_w]
        rfl
      refine pure_ (i := 2) (N := some 15) (v := ?_) (a' := ?_) #[false, true, true, false, false, false, false, false, false, false] rfl rfl (by kernel_rfl) (fun _ _ _ h => h) (Or.inl ⟨by rfl, ?_⟩) ?_ ?_
      rotate_left
      · intro w'
        go_simp
        with_reducible rfl
      rotate_left
      · simp only [Act.put, List.setIfInBounds_toArray, List.set_cons_zero, List.set_cons_succ, i64_w, i32_w]
        rfl
      refine take_ (i := 0) (N := some 13) (v := ?_) (a' := ?_) #[true, true, true, false, false, false, false, false, false, false] rfl rfl (by kernel_rfl) (fun _ _ _ h => h) (Or.inl ⟨by rfl, ?_⟩) hHeld ?_ ?_
      rotate_left
      · rintro w' ⟨s0, s1⟩
        go_simp
        with_reducible rfl
      rotate_left
      · simp only [Act.put, List.setIfInBounds_toArray, List.set_cons_zero, List.set_cons_succ, i64_w, i32_w]
        rfl
      refine one_ (i := 3) (N := some 16) #[true, true, true, true, false, false, false, false, false, false] rfl rfl (by kernel_rfl) (by decide) (fun K hK => ?_)
      refine goes_ Try.func21 (by kernel_rfl) rfl #[.agg #[.int .i64 (j : Int), .int .i64 0, .int .i64 0, .slice none 0 0]] (by rfl) rfl rfl (by simp only [List.map_toArray, List.map_cons, List.map_nil]; rfl) ?_
      with_reducible refine (key_nil (j : Int) _).mono ?_
      rintro e w3 ⟨v3, rfl, ho3, hb3⟩
      obtain ⟨A3, c3, rfl⟩ : ∃ A c, v3 = .slice A 3 c := Kd.R_slice ho3
      have HM3 := Aside0.mk (show (([(j : Int), 0, 0] : List Int)).length ≤ c3 ∧ Kd.C (Kd.int .i64) w3 A3 ([(j : Int), 0, 0] : List Int).length [(j : Int), 0, 0] from ⟨(Kd.R_reads' ho3).2.1, (Kd.R_reads' ho3).2.2⟩)
      have HB3 := Aside0.mk (below_step (below_drew1 HB.out) hb3)
      have HT3 := Aside0.mk (blk_below (blk_drew HT.out) hb3)
      have HR3 := Aside0.mk (blk_below (blk_drew HR.out) hb3)
      have HL3 := Aside0.mk (blk_below (blk_drew HL.out) hb3)
      have HF03 := Aside0.mk (Kd.F_below (Kd.F_drew HF0.out) hb3)
      have HF13 := Aside0.mk (Kd.F_below (Kd.F_drew HF1.out) hb3)
      refine ⟨_, rfl, ?_⟩
      refine hK.out _ _ ⟨(pw_cell_below hb3 hHeld.1), (pw_cell_below hb3 hHeld.2)⟩ (fun hHeld => ?_)
      clear hK K
      refine norm_ (a' := ?_) ?_ ?_
      rotate_left
      · show Act.put _ (some 16) _ = _
        simp only [Act.put, List.setIfInBounds_toArray, List.set_cons_zero, List.set_cons_succ, i64_w, i32_w]
        rfl
      refine one_ (i := 4) (N := some 17) #[true, true, true, true, true, false, false, false, false, false] rfl rfl (by kernel_rfl) (by decide) (fun K hK => ?_)
      refine goes_ Try.func20 (by kernel_rfl) rfl #[.agg #[.slice A0 ks.length c0, .slice A1 sl.length c1], .slice A3 3 c3] (by rfl) rfl rfl (by simp only [List.map_toArray, List.map_cons, List.map_nil]; rfl) ?_
      with_reducible refine (put_at k (fun b => b ≠ w.heap.size ∧ b ≠ w2.heap.size) A0 c0 ks A1 c1 sl A3 3 c3 [(j : Int), 0, 0] ks' sl' n' b' w3 rfl HF03.out HC0.out HF13.out HC1.out HM3.out.2 HM3.out.1 HPUT.out).mono ?_
      rintro e w4 ⟨v4, rfl, hT4, hb4⟩
      obtain ⟨A40, c40, A41, c41, rfl, hc40, hc41, hC40, hC41⟩ := hT4
      have HF04 := Aside0.mk (Kd.F_mono hC40 (fun b hb => (show b ≠ w.heap.size ∧ b ≠ w2.heap.size from hb.elim (fun h => h) (fun h => by have h1 := blk_lt HT3.out; have h2 := blk_lt HR3.out; omega))))
      have HF14 := Aside0.mk (Kd.F_mono hC41 (fun b hb => (show b ≠ w.heap.size ∧ b ≠ w2.heap.size from hb.elim (fun h => h) (fun h => by have h1 := blk_lt HT3.out; have h2 := blk_lt HR3.out; omega))))
      have HB4 := Aside0.mk (below_step HB3.out hb4)
      have HT4 := Aside0.mk (blk_below HT3.out hb4)
      have HR4 := Aside0.mk (blk_below HR3.out hb4)
      have HL4 := Aside0.mk (blk_below HL3.out hb4)
      refine ⟨_, rfl, ?_⟩
      refine hK.out _ _ ⟨(pw_cell_below hb4 hHeld.1), (pw_cell_below hb4 hHeld.2)⟩ (fun hHeld => ?_)
      clear hK K
      refine norm_ (a' := ?_) ?_ ?_
      rotate_left
      · show Act.put _ (some 17) _ = _
        simp only [Act.put, List.setIfInBounds_toArray, List.set_cons_zero, List.set_cons_succ, i64_w, i32_w]
        rfl
      refine pure_ (i := 5) (N := some 12) (v := ?_) (a' := ?_) #[true, true, true, true, true, true, false, false, false, false] rfl rfl (by kernel_rfl) (fun _ _ _ h => h) (Or.inl ⟨by rfl, ?_⟩) ?_ ?_
      rotate_left
      · intro w'
        go_simp
        with_reducible rfl
      rotate_left
      · simp only [Act.put, List.setIfInBounds_toArray, List.set_cons_zero, List.set_cons_succ, i64_w, i32_w]
        rfl
      refine pure_ (i := 6) (N := some 18) (v := ?_) (a' := ?_) #[true, true, true, true, true, true, true, false, false, false] rfl rfl (by kernel_rfl) (fun _ _ _ h => h) (Or.inl ⟨by rfl, ?_⟩) ?_ ?_
      rotate_left
      · intro w'
        go_simp
        with_reducible rfl
      rotate_left
      · simp only [Act.put, List.setIfInBounds_toArray, List.set_cons_zero, List.set_cons_succ, i64_w, i32_w]
        rfl
      refine pure_ (i := 7) (N := some 19) (v := ?_) (a' := ?_) #[true, true, true, true, true, true, true, true, false, false] rfl rfl (by kernel_rfl) (fun _ _ _ h => h) (Or.inl ⟨by rfl, ?_⟩) ?_ ?_
      rotate_left
      · intro w'
        go_simp
        with_reducible rfl
      rotate_left
      · simp only [Act.put, List.setIfInBounds_toArray, List.set_cons_zero, List.set_cons_succ, i64_w, i32_w]
        rfl
      refine pure_ (i := 8) (N := some 20) (v := ?_) (a' := ?_) #[true, true, true, true, true, true, true, true, true, false] rfl rfl (by kernel_rfl) (fun _ _ _ h => h) (Or.inl ⟨by rfl, ?_⟩) ?_ ?_
      rotate_left
      · intro w'
        go_simp
        with_reducible rfl
      rotate_left
      · simp only [Act.put, List.setIfInBounds_toArray, List.set_cons_zero, List.set_cons_succ, i64_w, i32_w]
        rfl
      refine last_ (i := 9) (N := none) #[true, true, true, true, true, true, true, true, true, true] rfl rfl (by kernel_rfl) (by decide) (fun K hK => ?_)
      have hs9 := (blk_cell HT4.out 0).trans rfl
      have hs9b := (blk_cell HT4.out 1).trans rfl
      have hf9 := blk_frozen HT4.out 0
      have hf9b := blk_frozen HT4.out 1
      refine skip_ (w1 := ?_) (by rfl) rfl ?_ ?_
      rotate_left
      · go_simp
        rfl
      refine hK.out _ _ ?_
      clear hK K
      refine done_ (by kernel_rfl) ?_

      have HFIN := Aside0.mk (show NewRel k s w.heap.size w2.heap.size (w2.heap.size + 1) w (j + 1) ((w4.setCell ⟨w2.heap.size, 0, none⟩ (.slice A40 ks'.length c40)).setCell ⟨w2.heap.size, 1, none⟩ (.slice A41 sl'.length c41)) from by
        refine ⟨A40, c40, A41, c41, ks', sl', HJ2.out, ?_, ?_, ?_, hc40, hc41, ?_, ?_, ?_⟩
        · exact blk_put (cs := #[.slice A40 ks'.length c40, .slice A1 sl.length c1]) (blk_put (cs := #[.slice A0 ks.length c0, .slice A1 sl.length c1]) HT4.out 0 _ rfl) 1 _ rfl
        · exact blk_far (blk_far HR4.out (p := ⟨w2.heap.size, 0, none⟩) (by have := HLT.out; show w.heap.size ≠ w2.heap.size; omega) _) (p := ⟨w2.heap.size, 1, none⟩) (by have := HLT.out; show w.heap.size ≠ w2.heap.size; omega) _
        · exact blk_far (blk_far HL4.out (p := ⟨w2.heap.size, 0, none⟩) (by show w2.heap.size + 1 ≠ w2.heap.size; omega) _) (p := ⟨w2.heap.size, 1, none⟩) (by show w2.heap.size + 1 ≠ w2.heap.size; omega) _
        · exact Kd.F_far (p := ⟨w2.heap.size, 1, none⟩) (Kd.F_far (p := ⟨w2.heap.size, 0, none⟩) HF04.out (fun b hb => hb.2) _) (fun b hb => hb.2) _
        · exact Kd.F_far (p := ⟨w2.heap.size, 1, none⟩) (Kd.F_far (p := ⟨w2.heap.size, 0, none⟩) HF14.out (fun b hb => hb.2) _) (fun b hb => hb.2) _
        · exact (HB4.out.setCell (p := ⟨w2.heap.size, 0, none⟩) (by have := HLT.out; show w.heap.size ≤ w2.heap.size; omega) _).setCell (p := ⟨w2.heap.size, 1, none⟩) (by have := HLT.out; show w.heap.size ≤ w2.heap.size; omega) _)
      go_wp2
      go_roundw
      case rel => exact ⟨j + 1, by omega, by congr 1, HFIN⟩
      case measure => simp [intOf]; omega
    · obtain rfl : j = 2 := by omega
      obtain ⟨rfl, rfl⟩ := HE.out ks sl hJ
      have HF0 := Aside0.mk hF0
      have HF1 := Aside0.mk hF1
      have HB := Aside0.mk hB
      have HR := Aside0.mk hR
      have HC := Aside0.mk (show ks.length ≤ c0 ∧ sl.length ≤ c1 from ⟨hc0, hc1⟩)
      clear hF0 hF1 hB hR hc0 hc1 hJ hT hL
      go_wp2
      have hbe : Below w.heap.size w ((wr.setCell ⟨w.heap.size, 0, none⟩ (.slice A0 ks.length c0)).setCell ⟨w.heap.size, 1, none⟩ (.slice A1 sl.length c1)) :=
        (HB.out.setCell (p := ⟨w.heap.size, 0, none⟩) (Nat.le_refl _) _).setCell (p := ⟨w.heap.size, 1, none⟩) (Nat.le_refl _) _
      refine bodyPost_ret (results_c1 rfl _ _ w.heap.size 26 #[.slice A0 ks.length c0, .slice A1 sl.length c1] (0, 0) _ rfl (by refine blk_put (cs := #[.slice A0 ks.length c0, .slice none 0 0]) ?_ 1 _ rfl; refine blk_put (cs := #[.slice none 0 0, .slice none 0 0]) ?_ 0 _ rfl; exact HR.out) Try.underlying26 rfl (by kernel_rfl)) rfl ?_
      exact ⟨_, rfl, ⟨A0, c0, A1, c1, rfl, HC.out.1, HC.out.2, Kd.F_now (Kd.F_far (p := ⟨w.heap.size, 1, none⟩) (Kd.F_far (p := ⟨w.heap.size, 0, none⟩) HF0.out (fun b hb => hb.1) _) (fun b hb => hb.1) _), Kd.F_now (Kd.F_far (p := ⟨w.heap.size, 1, none⟩) (Kd.F_far (p := ⟨w.heap.size, 0, none⟩) HF1.out (fun b hb => hb.1) _) (fun b hb => hb.1) _)⟩, hbe⟩
/-- A term is put into a store. -/
theorem TF.mono {ok ok' : Nat → Prop} {w : World} {v : Value} {keys : List (List Int)} {slots : List Int} (h : TF ok w v keys slots) (hk : ∀ k, ok k → ok' k) : TF ok' w v keys slots := by
  obtain ⟨A0, c0, A1, c1, e, h1, h2, h3, h4⟩ := h
  exact ⟨A0, c0, A1, c1, e, h1, h2, Kd.F_mono h3 hk, Kd.F_mono h4 hk⟩
theorem TF.elder {ok : Nat → Prop} {w w1 : World} {v : Value} {keys : List (List Int)} {slots : List Int} (h : TF ok w v keys slots) (a : Nat) (ha : w.heap.size ≤ a) (hb : Below w.heap.size w w1) : TF (fun k => ok k ∧ k ≠ a) w1 v keys slots := by
  obtain ⟨A0, c0, A1, c1, e, h1, h2, h3, h4⟩ := h
  exact ⟨A0, c0, A1, c1, e, h1, h2, Kd.F_below (Kd.F_elderB h3 a ha) hb, Kd.F_below (Kd.F_elderB h4 a ha) hb⟩
def term_Put.f (k : Nat) (l0 : List S62) (l1_0 : List (List Int)) (l1_1 : List Int) (a2_0 a2_1 a2_2 : Int) (l2_3 : List Int) (a3 : Int) : Option (List (List Int) × List Int × Int × Int) :=
  (term_May.f l0 l1_0 l1_1 a2_0 a2_1 a2_2 l2_3).bind fun m => if m = true then (term_Key.f a2_0 a2_1 a2_2 l2_3).bind fun key => (hash_Put.f k l1_0 l1_1 key).bind fun t =>
    if t.2.2.2 = true then (if (l1_0.length : Int) ≥ a3 then some (l1_0, l1_1, 0, 7) else some (t.1, t.2.1, t.2.2.1, 0)) else some (t.1, t.2.1, t.2.2.1, 0)
  else some (l1_0, l1_1, 0, 1)
theorem term_Put.mono : ∀ l0 l1_0 l1_1 a2_0 a2_1 a2_2 l2_3 a3 k, LeO (term_Put.f k l0 l1_0 l1_1 a2_0 a2_1 a2_2 l2_3 a3) (term_Put.f (k + 1) l0 l1_0 l1_1 a2_0 a2_1 a2_2 l2_3 a3) := fun l0 l1_0 l1_1 a2_0 a2_1 a2_2 l2_3 a3 k =>
  LeO.bind (LeO.refl _) fun m => LeO.ite (LeO.bind (LeO.refl _) fun key => LeO.bind (hash_Put.mono _ _ _ k) fun t => LeO.refl _) (LeO.refl _)
def TPut2 (r1 : List (List Int)) (r2 : List Int) (r3 r4 : Int) (w : World) (e : Ending) (w' : World) : Prop := ∃ v, e = .returned (.tuple #[v, .int .i64 r3, .int .i64 r4]) ∧ TKeyed w' v r1 r2 ∧ Below w.heap.size w w'
set_option maxRecDepth 100000 in
set_option maxHeartbeats 4000000 in
theorem term_Put.calls (k : Nat) (A0 : Option Addr) (c0 : Nat) (l0 : List (S62)) (A1_0 : Option Addr) (c1_0 : Nat) (l1_0 : List (List Int)) (A1_1 : Option Addr) (c1_1 : Nat) (l1_1 : List Int) (a2_0 : Int) (a2_1 : Int) (a2_2 : Int) (A2_3 : Option Addr) (c2_3 : Nat) (l2_3 : List Int) (a3 : Int) (r1 : List (List Int)) (r2 : List Int) (r3 r4 : Int) (w : World) (hr0 : Kd.C k62 w A0 l0.length l0) (hc0 : l0.length ≤ c0) (hr1_0 : Kd.C (Kd.slice 3 (Kd.int .i64)) w A1_0 l1_0.length l1_0) (hc1_0 : l1_0.length ≤ c1_0) (hr1_1 : Kd.C (Kd.int .i64) w A1_1 l1_1.length l1_1) (hc1_1 : l1_1.length ≤ c1_1) (hr2_3 : Kd.C (Kd.int .i64) w A2_3 l2_3.length l2_3) (hc2_3 : l2_3.length ≤ c2_3)
    (h : term_Put.f k l0 l1_0 l1_1 a2_0 a2_1 a2_2 l2_3 a3 = some (r1, r2, r3, r4)) :
    Calls Try.prog 7 #[.slice A0 l0.length c0, .agg #[.slice A1_0 l1_0.length c1_0, .slice A1_1 l1_1.length c1_1], .agg #[.int .i64 a2_0, .int .i64 a2_1, .int .i64 a2_2, .slice A2_3 l2_3.length c2_3], .int .i64 a3] w (TPut2 r1 r2 r3 r4 w) := by
  have hu26 := Try.underlying26
  have hu28 := Try.underlying28
  have HR0 := Aside0.mk hr0
  have HR10 := Aside0.mk hr1_0
  have HR11 := Aside0.mk hr1_1
  have HR23 := Aside0.mk hr2_3
  have HX0 := Aside0.mk (Kd.C_F (Kd.heap_slice 3 (Kd.heap_int .i64)) hr1_0)
  have HX1 := Aside0.mk (Kd.C_F (Kd.heap_int .i64) hr1_1)
  clear hr0 hr1_0 hr1_1 hr2_3
  unfold term_Put.f at h
  obtain ⟨m, hm, h⟩ := Option.bind_eq_some_iff.mp h
  have HM := Aside0.mk hm
  have H := Aside0.mk h
  clear hm h
  have hB1 : Below w.heap.size w (((w.alloc (.cells #[.slice A1_0 l1_0.length c1_0, .slice A1_1 l1_1.length c1_1] 26)).alloc (.cells #[.int .i64 a2_0, .int .i64 a2_1, .int .i64 a2_2, .slice A2_3 l2_3.length c2_3] 28)).alloc (.cells #[.slice none 0 0, .slice none 0 0] 26)) := below_alloc (below_alloc (below_alloc (Below.refl _ _) _) _) _
  have hP1 := blk_alloc (blk_alloc (blk_new w (.cells #[.slice A1_0 l1_0.length c1_0, .slice A1_1 l1_1.length c1_1] 26)) (.cells #[.int .i64 a2_0, .int .i64 a2_1, .int .i64 a2_2, .slice A2_3 l2_3.length c2_3] 28)) (.cells #[.slice none 0 0, .slice none 0 0] 26)
  have hQ1 := blk_alloc (blk_new (w.alloc (.cells #[.slice A1_0 l1_0.length c1_0, .slice A1_1 l1_1.length c1_1] 26)) (.cells #[.int .i64 a2_0, .int .i64 a2_1, .int .i64 a2_2, .slice A2_3 l2_3.length c2_3] 28)) (.cells #[.slice none 0 0, .slice none 0 0] 26)
  have hZ1 := blk_new ((w.alloc (.cells #[.slice A1_0 l1_0.length c1_0, .slice A1_1 l1_1.length c1_1] 26)).alloc (.cells #[.int .i64 a2_0, .int .i64 a2_1, .int .i64 a2_2, .slice A2_3 l2_3.length c2_3] 28)) (.cells #[.slice none 0 0, .slice none 0 0] 26)
  simp only [World.size_alloc] at hQ1 hZ1
  have HB1 := Aside0.mk hB1
  have HP1 := Aside0.mk hP1
  have HQ1 := Aside0.mk hQ1
  have HZ1 := Aside0.mk hZ1
  clear hB1 hP1 hQ1 hZ1
  go_enter Try.func7, Try.ntmps7
  go_wp2_with fail
  refine (term_May.calls _ _ l0 _ _ l1_0 _ _ l1_1 a2_0 a2_1 a2_2 _ _ l2_3 m _ (Kd.C_below HR0.out HB1.out) hc0 (Kd.C_below HR10.out HB1.out) hc1_0 (Kd.C_below HR11.out HB1.out) hc1_1 (Kd.C_below HR23.out HB1.out) hc2_3 HM.out).mono ?_
  rintro e W2 ⟨rfl, hb2⟩
  have HB := Aside0.mk (below_step HB1.out hb2)
  have HP := Aside0.mk (blk_below HP1.out hb2)
  have HQ := Aside0.mk (blk_below HQ1.out hb2)
  have HZ := Aside0.mk (blk_below HZ1.out hb2)
  clear hb2 HB1 HP1 HQ1 HZ1
  have hcP0 := blk_cell HP.out 0
  have hfP0 := blk_frozen HP.out 0
  have hcP1 := blk_cell HP.out 1
  have hfP1 := blk_frozen HP.out 1
  have hcQ0 := blk_cell HQ.out 0
  have hfQ0 := blk_frozen HQ.out 0
  have hcQ1 := blk_cell HQ.out 1
  have hfQ1 := blk_frozen HQ.out 1
  have hcQ2 := blk_cell HQ.out 2
  have hfQ2 := blk_frozen HQ.out 2
  have hcQ3 := blk_cell HQ.out 3
  have hfQ3 := blk_frozen HQ.out 3
  have hcZ0 := blk_cell HZ.out 0
  have hfZ0 := blk_frozen HZ.out 0
  have hcZ1 := blk_cell HZ.out 1
  have hfZ1 := blk_frozen HZ.out 1
  simp only [List.getElem?_toArray, List.getElem?_cons_zero, List.getElem?_cons_succ] at hcP0 hcP1 hcQ0 hcQ1 hcQ2 hcQ3 hcZ0 hcZ1
  cases m with
  | false =>
    have H2 := H.out
    rw [if_neg (by decide)] at H2
    simp only [Option.some.injEq, Prod.mk.injEq] at H2
    obtain ⟨rfl, rfl, rfl, rfl⟩ := H2
    clear H
    go_wp2_with fail
    have hbe : Below w.heap.size w ((W2.setCell ⟨w.heap.size + 2, 0, none⟩ (.slice A1_0 l1_0.length c1_0)).setCell ⟨w.heap.size + 2, 1, none⟩ (.slice A1_1 l1_1.length c1_1)) :=
      (HB.out.setCell (p := ⟨w.heap.size + 2, 0, none⟩) (by show w.heap.size ≤ w.heap.size + 2; omega) _).setCell (p := ⟨w.heap.size + 2, 1, none⟩) (by show w.heap.size ≤ w.heap.size + 2; omega) _
    refine bodyPost_ret (results_ctt rfl _ _ (w.heap.size + 1 + 1) 26 #[.slice A1_0 l1_0.length c1_0, .slice A1_1 l1_1.length c1_1] (0, 0) _ rfl (by refine blk_put (cs := #[.slice A1_0 l1_0.length c1_0, .slice none 0 0]) ?_ 1 _ rfl; refine blk_put (cs := #[.slice none 0 0, .slice none 0 0]) ?_ 0 _ rfl; exact HZ.out) Try.underlying26 rfl (by kernel_rfl)) rfl ?_
    exact ⟨_, rfl, ⟨_, _, _, _, rfl, hc1_0, hc1_1, Kd.C_below HR10.out hbe, Kd.C_below HR11.out hbe⟩, hbe⟩
  | true =>
    have H2 := H.out
    rw [if_pos rfl] at H2
    obtain ⟨key, hkey, H2⟩ := Option.bind_eq_some_iff.mp H2
    obtain ⟨⟨b1, b2, b3, b4⟩, hput, H2⟩ := Option.bind_eq_some_iff.mp H2
    have HKEY := Aside0.mk hkey
    have HPUT := Aside0.mk hput
    have H3 := Aside0.mk H2
    clear hkey hput H2 H
    go_upto_region 3 with (fail)
    have n1_ := Aside0.mk (below_drew HB.out)
    have n2_ := Aside0.mk (blk_drew HP.out)
    have n3_ := Aside0.mk (blk_drew HQ.out)
    have n4_ := Aside0.mk (blk_drew HZ.out)
    clear HB HP HQ HZ
    have HB := n1_
    have HP := n2_
    have HQ := n3_
    have HZ := n4_
    clear n1_ n2_ n3_ n4_
    refine start_ (n := 12) (S := fun w' => w'.cell? ⟨w.heap.size, 0, none⟩ = some (.slice A1_0 l1_0.length c1_0) ∧ w'.cell? ⟨w.heap.size, 1, none⟩ = some (.slice A1_1 l1_1.length c1_1) ∧ w'.cell? ⟨w.heap.size + 1, 0, none⟩ = some (.int .i64 a2_0) ∧ w'.cell? ⟨w.heap.size + 1, 1, none⟩ = some (.int .i64 a2_1) ∧ w'.cell? ⟨w.heap.size + 1, 2, none⟩ = some (.int .i64 a2_2) ∧ w'.cell? ⟨w.heap.size + 1, 3, none⟩ = some (.slice A2_3 l2_3.length c2_3)) (ds := []) #[false, false, false, false, false, false, false, false, false, false, false, false] (by kernel_rfl) rfl rfl ⟨hcP0, hcP1, hcQ0, hcQ1, hcQ2, hcQ3⟩ (fun hHeld => ?_)
    generalize W2.drew = W20 at HB HP HQ HZ hHeld ⊢
    refine take_ (i := 0) (N := some 21) (v := ?_) (a' := ?_) #[true, false, false, false, false, false, false, false, false, false, false, false] rfl rfl (by kernel_rfl) (fun _ _ _ h => h) (Or.inl ⟨by rfl, ?_⟩) hHeld ?_ ?_
    rotate_left
    · rintro w' ⟨s0, s1, s2, s3, s4, s5⟩
      go_simp
      with_reducible rfl
    rotate_left
    · simp only [Act.put, List.setIfInBounds_toArray, List.set_cons_zero, List.set_cons_succ, i64_w, i32_w]
      rfl
    refine take_ (i := 1) (N := some 22) (v := ?_) (a' := ?_) #[true, true, false, false, false, false, false, false, false, false, false, false] rfl rfl (by kernel_rfl) (fun _ _ _ h => h) (Or.inl ⟨by rfl, ?_⟩) hHeld ?_ ?_
    rotate_left
    · rintro w' ⟨s0, s1, s2, s3, s4, s5⟩
      go_simp
      with_reducible rfl
    rotate_left
    · simp only [Act.put, List.setIfInBounds_toArray, List.set_cons_zero, List.set_cons_succ, i64_w, i32_w]
      rfl
    refine join_ (σ := Value × Value × Nat) 3 #[true, true, true, true, true, true, true, true, true, false, false, false] (fun s => [(23, s.1), (24, .tuple #[s.2.1, .int .i64 b3, .bool b4]), (20, .tuple #[s.2.1, .int .i64 b3, .bool b4]), (25, s.2.1), (26, .int .i64 b3), (27, .bool b4), (11, .pointer (some ⟨s.2.2, 0, none⟩))]) (fun s w' => TF (fun b => b ≠ w.heap.size + 2 ∧ b ≠ s.2.2) w' s.2.1 b1 b2 ∧ w'.heap[s.2.2]? = some (.cells #[.slice none 0 0, .slice none 0 0] 26 (0, 0)) ∧ w.heap.size + 2 < s.2.2 ∧ Below w.heap.size w w' ∧ w'.heap[w.heap.size]? = some (.cells #[.slice A1_0 l1_0.length c1_0, .slice A1_1 l1_1.length c1_1] 26 (0, 0)) ∧ w'.heap[w.heap.size + 1]? = some (.cells #[.int .i64 a2_0, .int .i64 a2_1, .int .i64 a2_2, .slice A2_3 l2_3.length c2_3] 28 (0, 0)) ∧ w'.heap[w.heap.size + 2]? = some (.cells #[.slice none 0 0, .slice none 0 0] 26 (0, 0))) ?_ ?_
    rotate_left
    · intro hCont
      refine two_ (i := 2) (j := 8) (Ni := some 23) (Nj := some 11) #[true, true, true, false, false, false, false, false, false, false, false, false] #[true, true, false, false, false, false, false, false, true, false, false, false] rfl rfl rfl rfl (by kernel_rfl) (by decide) (by decide) (fun K hK => ?_) (fun K hK => ?_)
      · skip
        refine goes_ Try.func21 (by kernel_rfl) rfl #[.agg #[.int .i64 a2_0, .int .i64 a2_1, .int .i64 a2_2, .slice A2_3 l2_3.length c2_3]] (by rfl) rfl rfl (by simp only [List.map_toArray, List.map_cons, List.map_nil]; rfl) ?_
        with_reducible refine (term_Key.calls a2_0 a2_1 a2_2 A2_3 c2_3 l2_3 key W20 (Kd.C_below HR23.out HB.out) hc2_3 HKEY.out).mono ?_
        rintro e W3 ⟨v3, rfl, ho3, hb3⟩
        obtain ⟨A3, c3, rfl⟩ := Kd.R_slice ho3
        have HM3 := Aside0.mk (Kd.R_reads' ho3)
        have H_2B := Aside0.mk (below_step HB.out hb3)
        have H_2P := Aside0.mk (blk_below HP.out hb3)
        have H_2Q := Aside0.mk (blk_below HQ.out hb3)
        have H_2Z := Aside0.mk (blk_below HZ.out hb3)
        refine ⟨_, rfl, ?_⟩
        refine hK.out _ _ ⟨(pw_cell_below hb3 hHeld.1), (pw_cell_below hb3 hHeld.2.1), (pw_cell_below hb3 hHeld.2.2.1), (pw_cell_below hb3 hHeld.2.2.2.1), (pw_cell_below hb3 hHeld.2.2.2.2.1), (pw_cell_below hb3 hHeld.2.2.2.2.2)⟩ (fun hHeld => ?_)
        clear hK K
        refine norm_ (a' := ?_) ?_ ?_
        rotate_left
        · show Act.put _ (some 23) _ = _
          simp only [Act.put, List.setIfInBounds_toArray, List.set_cons_zero, List.set_cons_succ, i64_w, i32_w]
          rfl
        refine two_ (i := 3) (j := 8) (Ni := some 24) (Nj := some 11) #[true, true, true, true, false, false, false, false, false, false, false, false] #[true, true, true, false, false, false, false, false, true, false, false, false] rfl rfl rfl rfl (by kernel_rfl) (by decide) (by decide) (fun K hK => ?_) (fun K hK => ?_)
        · skip
          refine goes_ Try.func20 (by kernel_rfl) rfl #[.agg #[.slice A1_0 l1_0.length c1_0, .slice A1_1 l1_1.length c1_1], .slice A3 key.length c3] (by rfl) rfl rfl (by simp only [List.map_toArray, List.map_cons, List.map_nil]; rfl) ?_
          with_reducible refine (hash_Put.calls k (fun b => b < w.heap.size) A1_0 c1_0 l1_0 A1_1 c1_1 l1_1 A3 c3 key b1 b2 b3 b4 W3 (Kd.F_below HX0.out H_2B.out) hc1_0 (Kd.F_below HX1.out H_2B.out) hc1_1 HM3.out.2.2 HM3.out.2.1 HPUT.out).mono ?_
          rintro e W4 ⟨v4, rfl, hT4, hb4⟩
          have HT4 := Aside0.mk hT4
          have H_2_3B := Aside0.mk (below_step H_2B.out hb4)
          have H_2_3P := Aside0.mk (blk_below H_2P.out hb4)
          have H_2_3Q := Aside0.mk (blk_below H_2Q.out hb4)
          have H_2_3Z := Aside0.mk (blk_below H_2Z.out hb4)
          refine ⟨_, rfl, ?_⟩
          refine hK.out _ _ ⟨(pw_cell_below hb4 hHeld.1), (pw_cell_below hb4 hHeld.2.1), (pw_cell_below hb4 hHeld.2.2.1), (pw_cell_below hb4 hHeld.2.2.2.1), (pw_cell_below hb4 hHeld.2.2.2.2.1), (pw_cell_below hb4 hHeld.2.2.2.2.2)⟩ (fun hHeld => ?_)
          clear hK K
          refine norm_ (a' := ?_) ?_ ?_
          rotate_left
          · show Act.put _ (some 24) _ = _
            simp only [Act.put, List.setIfInBounds_toArray, List.set_cons_zero, List.set_cons_succ, i64_w, i32_w]
            rfl
          refine pure_ (i := 4) (N := some 20) (v := ?_) (a' := ?_) #[true, true, true, true, true, false, false, false, false, false, false, false] rfl rfl (by kernel_rfl) (fun _ _ _ h => h) (Or.inl ⟨by rfl, ?_⟩) ?_ ?_
          rotate_left
          · intro w'
            go_simp
            with_reducible rfl
          rotate_left
          · simp only [Act.put, List.setIfInBounds_toArray, List.set_cons_zero, List.set_cons_succ, i64_w, i32_w]
            rfl
          refine pure_ (i := 5) (N := some 25) (v := ?_) (a' := ?_) #[true, true, true, true, true, true, false, false, false, false, false, false] rfl rfl (by kernel_rfl) (fun _ _ _ h => h) (Or.inl ⟨by rfl, ?_⟩) ?_ ?_
          rotate_left
          · intro w'
            go_simp
            with_reducible rfl
          rotate_left
          · simp only [Act.put, List.setIfInBounds_toArray, List.set_cons_zero, List.set_cons_succ, i64_w, i32_w]
            rfl
          refine pure_ (i := 6) (N := some 26) (v := ?_) (a' := ?_) #[true, true, true, true, true, true, true, false, false, false, false, false] rfl rfl (by kernel_rfl) (fun _ _ _ h => h) (Or.inl ⟨by rfl, ?_⟩) ?_ ?_
          rotate_left
          · intro w'
            go_simp
            with_reducible rfl
          rotate_left
          · simp only [Act.put, List.setIfInBounds_toArray, List.set_cons_zero, List.set_cons_succ, i64_w, i32_w]
            rfl
          refine pure_ (i := 7) (N := some 27) (v := ?_) (a' := ?_) #[true, true, true, true, true, true, true, true, false, false, false, false] rfl rfl (by kernel_rfl) (fun _ _ _ h => h) (Or.inl ⟨by rfl, ?_⟩) ?_ ?_
          rotate_left
          · intro w'
            go_simp
            with_reducible rfl
          rotate_left
          · simp only [Act.put, List.setIfInBounds_toArray, List.set_cons_zero, List.set_cons_succ, i64_w, i32_w]
            rfl
          refine one_ (i := 8) (N := some 11) #[true, true, true, true, true, true, true, true, true, false, false, false] rfl rfl (by kernel_rfl) (by decide) (fun K hK => ?_)
          refine value_ (w1 := ?_) (v := ?_) (by rfl) rfl ?_ ?_
          rotate_left 2
          · go_simp
            constructor
            · rfl
            · rfl
          have hb5 := below_alloc (Below.refl W4.heap.size W4) (.cells #[.slice none 0 0, .slice none 0 0] 26)
          have H_2_3_8B := Aside0.mk (below_step H_2_3B.out hb5)
          have H_2_3_8P := Aside0.mk (blk_below H_2_3P.out hb5)
          have H_2_3_8Q := Aside0.mk (blk_below H_2_3Q.out hb5)
          have H_2_3_8Z := Aside0.mk (blk_below H_2_3Z.out hb5)
          have H_2_3_8N := Aside0.mk (blk_new W4 (.cells #[.slice none 0 0, .slice none 0 0] 26))
          have HLT5 := Aside0.mk (show w.heap.size + 2 < W4.heap.size from blk_lt H_2_3Z.out)
          have HTA := Aside0.mk (TF.elder HT4.out W4.heap.size (Nat.le_refl _) hb5)
          obtain ⟨gb5, hgb5⟩ : ∃ q, q = W4.heap.size := ⟨_, rfl⟩
          rw [← hgb5] at H_2_3_8N HLT5 HTA ⊢
          generalize W4.alloc (.cells #[.slice none 0 0, .slice none 0 0] 26) = W5 at H_2_3_8B H_2_3_8P H_2_3_8Q H_2_3_8Z H_2_3_8N hb5 HTA ⊢
          have HG5 := Aside0.mk hgb5
          clear hgb5
          refine hK.out _ _ ⟨(pw_cell_below hb5 hHeld.1), (pw_cell_below hb5 hHeld.2.1), (pw_cell_below hb5 hHeld.2.2.1), (pw_cell_below hb5 hHeld.2.2.2.1), (pw_cell_below hb5 hHeld.2.2.2.2.1), (pw_cell_below hb5 hHeld.2.2.2.2.2)⟩ (fun hHeld => ?_)
          clear hK K
          refine norm_ (a' := ?_) ?_ ?_
          rotate_left
          · show Act.put _ (some 11) _ = _
            simp only [Act.put, List.setIfInBounds_toArray, List.set_cons_zero, List.set_cons_succ, i64_w, i32_w]
            rfl
          exact norm_ (by simp only [putAll, Act.put, List.setIfInBounds_toArray, List.set_cons_zero, List.set_cons_succ]) (hCont (Value.slice A3 key.length c3, v4, gb5) _ ⟨(TF.mono HTA.out (fun b hb => ⟨hb.1.elim (fun h => by omega) (fun h => by have := blk_lt H_2Z.out; omega), hb.2⟩)), H_2_3_8N.out, HLT5.out, H_2_3_8B.out, H_2_3_8P.out, H_2_3_8Q.out, H_2_3_8Z.out⟩)
        · skip
          refine value_ (w1 := ?_) (v := ?_) (by rfl) rfl ?_ ?_
          rotate_left 2
          · go_simp
            constructor
            · rfl
            · rfl
          have hb5 := below_alloc (Below.refl W3.heap.size W3) (.cells #[.slice none 0 0, .slice none 0 0] 26)
          have H_2_8B := Aside0.mk (below_step H_2B.out hb5)
          have H_2_8P := Aside0.mk (blk_below H_2P.out hb5)
          have H_2_8Q := Aside0.mk (blk_below H_2Q.out hb5)
          have H_2_8Z := Aside0.mk (blk_below H_2Z.out hb5)
          have H_2_8N := Aside0.mk (blk_new W3 (.cells #[.slice none 0 0, .slice none 0 0] 26))
          have HLT5 := Aside0.mk (show w.heap.size + 2 < W3.heap.size from blk_lt H_2Z.out)
          obtain ⟨gb5, hgb5⟩ : ∃ q, q = W3.heap.size := ⟨_, rfl⟩
          rw [← hgb5] at H_2_8N HLT5  ⊢
          generalize W3.alloc (.cells #[.slice none 0 0, .slice none 0 0] 26) = W5 at H_2_8B H_2_8P H_2_8Q H_2_8Z H_2_8N hb5  ⊢
          have HG5 := Aside0.mk hgb5
          clear hgb5
          refine hK.out _ _ ⟨(pw_cell_below hb5 hHeld.1), (pw_cell_below hb5 hHeld.2.1), (pw_cell_below hb5 hHeld.2.2.1), (pw_cell_below hb5 hHeld.2.2.2.1), (pw_cell_below hb5 hHeld.2.2.2.2.1), (pw_cell_below hb5 hHeld.2.2.2.2.2)⟩ (fun hHeld => ?_)
          clear hK K
          refine norm_ (a' := ?_) ?_ ?_
          rotate_left
          · show Act.put _ (some 11) _ = _
            simp only [Act.put, List.setIfInBounds_toArray, List.set_cons_zero, List.set_cons_succ, i64_w, i32_w]
            rfl
          refine one_ (i := 3) (N := some 24) #[true, true, true, true, false, false, false, false, true, false, false, false] rfl rfl (by kernel_rfl) (by decide) (fun K hK => ?_)
          refine goes_ Try.func20 (by kernel_rfl) rfl #[.agg #[.slice A1_0 l1_0.length c1_0, .slice A1_1 l1_1.length c1_1], .slice A3 key.length c3] (by rfl) rfl rfl (by simp only [List.map_toArray, List.map_cons, List.map_nil]; rfl) ?_
          with_reducible refine (hash_Put.calls k (fun b => b < w.heap.size) A1_0 c1_0 l1_0 A1_1 c1_1 l1_1 A3 c3 key b1 b2 b3 b4 W5 (Kd.F_below HX0.out H_2_8B.out) hc1_0 (Kd.F_below HX1.out H_2_8B.out) hc1_1 (Kd.C_below HM3.out.2.2 hb5) HM3.out.2.1 HPUT.out).mono ?_
          rintro e W4 ⟨v4, rfl, hT4, hb4⟩
          have HT4 := Aside0.mk hT4
          have H_2_8_3B := Aside0.mk (below_step H_2_8B.out hb4)
          have H_2_8_3P := Aside0.mk (blk_below H_2_8P.out hb4)
          have H_2_8_3Q := Aside0.mk (blk_below H_2_8Q.out hb4)
          have H_2_8_3Z := Aside0.mk (blk_below H_2_8Z.out hb4)
          have H_2_8_3N := Aside0.mk (blk_below H_2_8N.out hb4)
          refine ⟨_, rfl, ?_⟩
          refine hK.out _ _ ⟨(pw_cell_below hb4 hHeld.1), (pw_cell_below hb4 hHeld.2.1), (pw_cell_below hb4 hHeld.2.2.1), (pw_cell_below hb4 hHeld.2.2.2.1), (pw_cell_below hb4 hHeld.2.2.2.2.1), (pw_cell_below hb4 hHeld.2.2.2.2.2)⟩ (fun hHeld => ?_)
          clear hK K
          refine norm_ (a' := ?_) ?_ ?_
          rotate_left
          · show Act.put _ (some 24) _ = _
            simp only [Act.put, List.setIfInBounds_toArray, List.set_cons_zero, List.set_cons_succ, i64_w, i32_w]
            rfl
          refine pure_ (i := 4) (N := some 20) (v := ?_) (a' := ?_) #[true, true, true, true, true, false, false, false, true, false, false, false] rfl rfl (by kernel_rfl) (fun _ _ _ h => h) (Or.inl ⟨by rfl, ?_⟩) ?_ ?_
          rotate_left
          · intro w'
            go_simp
            with_reducible rfl
          rotate_left
          · simp only [Act.put, List.setIfInBounds_toArray, List.set_cons_zero, List.set_cons_succ, i64_w, i32_w]
            rfl
          refine pure_ (i := 5) (N := some 25) (v := ?_) (a' := ?_) #[true, true, true, true, true, true, false, false, true, false, false, false] rfl rfl (by kernel_rfl) (fun _ _ _ h => h) (Or.inl ⟨by rfl, ?_⟩) ?_ ?_
          rotate_left
          · intro w'
            go_simp
            with_reducible rfl
          rotate_left
          · simp only [Act.put, List.setIfInBounds_toArray, List.set_cons_zero, List.set_cons_succ, i64_w, i32_w]
            rfl
          refine pure_ (i := 6) (N := some 26) (v := ?_) (a' := ?_) #[true, true, true, true, true, true, true, false, true, false, false, false] rfl rfl (by kernel_rfl) (fun _ _ _ h => h) (Or.inl ⟨by rfl, ?_⟩) ?_ ?_
          rotate_left
          · intro w'
            go_simp
            with_reducible rfl
          rotate_left
          · simp only [Act.put, List.setIfInBounds_toArray, List.set_cons_zero, List.set_cons_succ, i64_w, i32_w]
            rfl
          refine pure_ (i := 7) (N := some 27) (v := ?_) (a' := ?_) #[true, true, true, true, true, true, true, true, true, false, false, false] rfl rfl (by kernel_rfl) (fun _ _ _ h => h) (Or.inl ⟨by rfl, ?_⟩) ?_ ?_
          rotate_left
          · intro w'
            go_simp
            with_reducible rfl
          rotate_left
          · simp only [Act.put, List.setIfInBounds_toArray, List.set_cons_zero, List.set_cons_succ, i64_w, i32_w]
            rfl
          exact norm_ (by simp only [putAll, Act.put, List.setIfInBounds_toArray, List.set_cons_zero, List.set_cons_succ]) (hCont (Value.slice A3 key.length c3, v4, gb5) _ ⟨(TF.mono HT4.out (fun b hb => by have h1 := blk_lt H_2_8Z.out; have h2 := blk_lt H_2_8N.out; have h3 := HLT5.out; rcases hb with h | h <;> exact ⟨by omega, (by omega : b ≠ gb5)⟩)), H_2_8_3N.out, HLT5.out, H_2_8_3B.out, H_2_8_3P.out, H_2_8_3Q.out, H_2_8_3Z.out⟩)
      · skip
        refine value_ (w1 := ?_) (v := ?_) (by rfl) rfl ?_ ?_
        rotate_left 2
        · go_simp
          constructor
          · rfl
          · rfl
        have hb5 := below_alloc (Below.refl W20.heap.size W20) (.cells #[.slice none 0 0, .slice none 0 0] 26)
        have H_8B := Aside0.mk (below_step HB.out hb5)
        have H_8P := Aside0.mk (blk_below HP.out hb5)
        have H_8Q := Aside0.mk (blk_below HQ.out hb5)
        have H_8Z := Aside0.mk (blk_below HZ.out hb5)
        have H_8N := Aside0.mk (blk_new W20 (.cells #[.slice none 0 0, .slice none 0 0] 26))
        have HLT5 := Aside0.mk (show w.heap.size + 2 < W20.heap.size from blk_lt HZ.out)
        obtain ⟨gb5, hgb5⟩ : ∃ q, q = W20.heap.size := ⟨_, rfl⟩
        rw [← hgb5] at H_8N HLT5  ⊢
        generalize W20.alloc (.cells #[.slice none 0 0, .slice none 0 0] 26) = W5 at H_8B H_8P H_8Q H_8Z H_8N hb5  ⊢
        have HG5 := Aside0.mk hgb5
        clear hgb5
        refine hK.out _ _ ⟨(pw_cell_below hb5 hHeld.1), (pw_cell_below hb5 hHeld.2.1), (pw_cell_below hb5 hHeld.2.2.1), (pw_cell_below hb5 hHeld.2.2.2.1), (pw_cell_below hb5 hHeld.2.2.2.2.1), (pw_cell_below hb5 hHeld.2.2.2.2.2)⟩ (fun hHeld => ?_)
        clear hK K
        refine norm_ (a' := ?_) ?_ ?_
        rotate_left
        · show Act.put _ (some 11) _ = _
          simp only [Act.put, List.setIfInBounds_toArray, List.set_cons_zero, List.set_cons_succ, i64_w, i32_w]
          rfl
        refine one_ (i := 2) (N := some 23) #[true, true, true, false, false, false, false, false, true, false, false, false] rfl rfl (by kernel_rfl) (by decide) (fun K hK => ?_)
        refine goes_ Try.func21 (by kernel_rfl) rfl #[.agg #[.int .i64 a2_0, .int .i64 a2_1, .int .i64 a2_2, .slice A2_3 l2_3.length c2_3]] (by rfl) rfl rfl (by simp only [List.map_toArray, List.map_cons, List.map_nil]; rfl) ?_
        with_reducible refine (term_Key.calls a2_0 a2_1 a2_2 A2_3 c2_3 l2_3 key W5 (Kd.C_below HR23.out H_8B.out) hc2_3 HKEY.out).mono ?_
        rintro e W3 ⟨v3, rfl, ho3, hb3⟩
        obtain ⟨A3, c3, rfl⟩ := Kd.R_slice ho3
        have HM3 := Aside0.mk (Kd.R_reads' ho3)
        have H_8_2B := Aside0.mk (below_step H_8B.out hb3)
        have H_8_2P := Aside0.mk (blk_below H_8P.out hb3)
        have H_8_2Q := Aside0.mk (blk_below H_8Q.out hb3)
        have H_8_2Z := Aside0.mk (blk_below H_8Z.out hb3)
        have H_8_2N := Aside0.mk (blk_below H_8N.out hb3)
        refine ⟨_, rfl, ?_⟩
        refine hK.out _ _ ⟨(pw_cell_below hb3 hHeld.1), (pw_cell_below hb3 hHeld.2.1), (pw_cell_below hb3 hHeld.2.2.1), (pw_cell_below hb3 hHeld.2.2.2.1), (pw_cell_below hb3 hHeld.2.2.2.2.1), (pw_cell_below hb3 hHeld.2.2.2.2.2)⟩ (fun hHeld => ?_)
        clear hK K
        refine norm_ (a' := ?_) ?_ ?_
        rotate_left
        · show Act.put _ (some 23) _ = _
          simp only [Act.put, List.setIfInBounds_toArray, List.set_cons_zero, List.set_cons_succ, i64_w, i32_w]
          rfl
        refine one_ (i := 3) (N := some 24) #[true, true, true, true, false, false, false, false, true, false, false, false] rfl rfl (by kernel_rfl) (by decide) (fun K hK => ?_)
        refine goes_ Try.func20 (by kernel_rfl) rfl #[.agg #[.slice A1_0 l1_0.length c1_0, .slice A1_1 l1_1.length c1_1], .slice A3 key.length c3] (by rfl) rfl rfl (by simp only [List.map_toArray, List.map_cons, List.map_nil]; rfl) ?_
        with_reducible refine (hash_Put.calls k (fun b => b < w.heap.size) A1_0 c1_0 l1_0 A1_1 c1_1 l1_1 A3 c3 key b1 b2 b3 b4 W3 (Kd.F_below HX0.out H_8_2B.out) hc1_0 (Kd.F_below HX1.out H_8_2B.out) hc1_1 HM3.out.2.2 HM3.out.2.1 HPUT.out).mono ?_
        rintro e W4 ⟨v4, rfl, hT4, hb4⟩
        have HT4 := Aside0.mk hT4
        have H_8_2_3B := Aside0.mk (below_step H_8_2B.out hb4)
        have H_8_2_3P := Aside0.mk (blk_below H_8_2P.out hb4)
        have H_8_2_3Q := Aside0.mk (blk_below H_8_2Q.out hb4)
        have H_8_2_3Z := Aside0.mk (blk_below H_8_2Z.out hb4)
        have H_8_2_3N := Aside0.mk (blk_below H_8_2N.out hb4)
        refine ⟨_, rfl, ?_⟩
        refine hK.out _ _ ⟨(pw_cell_below hb4 hHeld.1), (pw_cell_below hb4 hHeld.2.1), (pw_cell_below hb4 hHeld.2.2.1), (pw_cell_below hb4 hHeld.2.2.2.1), (pw_cell_below hb4 hHeld.2.2.2.2.1), (pw_cell_below hb4 hHeld.2.2.2.2.2)⟩ (fun hHeld => ?_)
        clear hK K
        refine norm_ (a' := ?_) ?_ ?_
        rotate_left
        · show Act.put _ (some 24) _ = _
          simp only [Act.put, List.setIfInBounds_toArray, List.set_cons_zero, List.set_cons_succ, i64_w, i32_w]
          rfl
        refine pure_ (i := 4) (N := some 20) (v := ?_) (a' := ?_) #[true, true, true, true, true, false, false, false, true, false, false, false] rfl rfl (by kernel_rfl) (fun _ _ _ h => h) (Or.inl ⟨by rfl, ?_⟩) ?_ ?_
        rotate_left
        · intro w'
          go_simp
          with_reducible rfl
        rotate_left
        · simp only [Act.put, List.setIfInBounds_toArray, List.set_cons_zero, List.set_cons_succ, i64_w, i32_w]
          rfl
        refine pure_ (i := 5) (N := some 25) (v := ?_) (a' := ?_) #[true, true, true, true, true, true, false, false, true, false, false, false] rfl rfl (by kernel_rfl) (fun _ _ _ h => h) (Or.inl ⟨by rfl, ?_⟩) ?_ ?_
        rotate_left
        · intro w'
          go_simp
          with_reducible rfl
        rotate_left
        · simp only [Act.put, List.setIfInBounds_toArray, List.set_cons_zero, List.set_cons_succ, i64_w, i32_w]
          rfl
        refine pure_ (i := 6) (N := some 26) (v := ?_) (a' := ?_) #[true, true, true, true, true, true, true, false, true, false, false, false] rfl rfl (by kernel_rfl) (fun _ _ _ h => h) (Or.inl ⟨by rfl, ?_⟩) ?_ ?_
        rotate_left
        · intro w'
          go_simp
          with_reducible rfl
        rotate_left
        · simp only [Act.put, List.setIfInBounds_toArray, List.set_cons_zero, List.set_cons_succ, i64_w, i32_w]
          rfl
        refine pure_ (i := 7) (N := some 27) (v := ?_) (a' := ?_) #[true, true, true, true, true, true, true, true, true, false, false, false] rfl rfl (by kernel_rfl) (fun _ _ _ h => h) (Or.inl ⟨by rfl, ?_⟩) ?_ ?_
        rotate_left
        · intro w'
          go_simp
          with_reducible rfl
        rotate_left
        · simp only [Act.put, List.setIfInBounds_toArray, List.set_cons_zero, List.set_cons_succ, i64_w, i32_w]
          rfl
        exact norm_ (by simp only [putAll, Act.put, List.setIfInBounds_toArray, List.set_cons_zero, List.set_cons_succ]) (hCont (Value.slice A3 key.length c3, v4, gb5) _ ⟨(TF.mono HT4.out (fun b hb => by have h1 := blk_lt H_8_2Z.out; have h2 := blk_lt H_8_2N.out; have h3 := HLT5.out; rcases hb with h | h <;> exact ⟨by omega, (by omega : b ≠ gb5)⟩)), H_8_2_3N.out, HLT5.out, H_8_2_3B.out, H_8_2_3P.out, H_8_2_3Q.out, H_8_2_3Z.out⟩)
    rintro ⟨vk, vt, gb⟩ W6 ⟨hF1, hF2, hF3, hF4, hF5, hF6, hF7⟩
    (try dsimp only at hF1)
    (try dsimp only at hF2)
    (try dsimp only at hF3)
    have HF1 := Aside0.mk hF1
    have HN6 := Aside0.mk hF2
    have HLT6 := Aside0.mk hF3
    have HB6 := Aside0.mk hF4
    have HP6 := Aside0.mk hF5
    have HQ6 := Aside0.mk hF6
    have HZ6 := Aside0.mk hF7
    have hHeld : W6.cell? ⟨w.heap.size, 0, none⟩ = some (.slice A1_0 l1_0.length c1_0) ∧ W6.cell? ⟨w.heap.size, 1, none⟩ = some (.slice A1_1 l1_1.length c1_1) ∧ W6.cell? ⟨w.heap.size + 1, 0, none⟩ = some (.int .i64 a2_0) ∧ W6.cell? ⟨w.heap.size + 1, 1, none⟩ = some (.int .i64 a2_1) ∧ W6.cell? ⟨w.heap.size + 1, 2, none⟩ = some (.int .i64 a2_2) ∧ W6.cell? ⟨w.heap.size + 1, 3, none⟩ = some (.slice A2_3 l2_3.length c2_3) := ⟨(blk_cell hF5 0).trans rfl, (blk_cell hF5 1).trans rfl, (blk_cell hF6 0).trans rfl, (blk_cell hF6 1).trans rfl, (blk_cell hF6 2).trans rfl, (blk_cell hF6 3).trans rfl⟩
    clear hF1 hF2 hF3 hF4 hF5 hF6 hF7
    obtain ⟨A40, c40, A41, c41, rfl, hc40, hc41, hF40, hF41⟩ := HF1.out
    have HC40 := Aside0.mk hc40
    have HC41 := Aside0.mk hc41
    have HF40 := Aside0.mk hF40
    have HF41 := Aside0.mk hF41
    clear hc40 hc41 hF40 hF41 HF1
    refine norm_ (a' := ?_) ?_ ?_
    rotate_left
    · simp only [putAll, Act.put, List.setIfInBounds_toArray, List.set_cons_zero, List.set_cons_succ]
      rfl
    refine one_ (i := 9) (N := none) #[true, true, true, true, true, true, true, true, true, true, false, false] rfl rfl (by kernel_rfl) (by decide) (fun K hK => ?_)
    have hs9 := (blk_cell HN6.out 0).trans rfl
    have hs9b := (blk_cell HN6.out 1).trans rfl
    have hf9 := blk_frozen HN6.out 0
    have hf9b := blk_frozen HN6.out 1
    refine skip_ (w1 := ?_) (by rfl) rfl ?_ ?_
    rotate_left
    · go_simp
      rfl
    refine hK.out _ _ ⟨((cell_far (p := ⟨gb, _, none⟩) (by show _ ≠ gb; have := HLT6.out; simp only []; omega) _).trans ((cell_far (p := ⟨gb, _, none⟩) (by show _ ≠ gb; have := HLT6.out; simp only []; omega) _).trans hHeld.1)), ((cell_far (p := ⟨gb, _, none⟩) (by show _ ≠ gb; have := HLT6.out; simp only []; omega) _).trans ((cell_far (p := ⟨gb, _, none⟩) (by show _ ≠ gb; have := HLT6.out; simp only []; omega) _).trans hHeld.2.1)), ((cell_far (p := ⟨gb, _, none⟩) (by show _ ≠ gb; have := HLT6.out; simp only []; omega) _).trans ((cell_far (p := ⟨gb, _, none⟩) (by show _ ≠ gb; have := HLT6.out; simp only []; omega) _).trans hHeld.2.2.1)), ((cell_far (p := ⟨gb, _, none⟩) (by show _ ≠ gb; have := HLT6.out; simp only []; omega) _).trans ((cell_far (p := ⟨gb, _, none⟩) (by show _ ≠ gb; have := HLT6.out; simp only []; omega) _).trans hHeld.2.2.2.1)), ((cell_far (p := ⟨gb, _, none⟩) (by show _ ≠ gb; have := HLT6.out; simp only []; omega) _).trans ((cell_far (p := ⟨gb, _, none⟩) (by show _ ≠ gb; have := HLT6.out; simp only []; omega) _).trans hHeld.2.2.2.2.1)), ((cell_far (p := ⟨gb, _, none⟩) (by show _ ≠ gb; have := HLT6.out; simp only []; omega) _).trans ((cell_far (p := ⟨gb, _, none⟩) (by show _ ≠ gb; have := HLT6.out; simp only []; omega) _).trans hHeld.2.2.2.2.2))⟩ (fun hHeld => ?_)
    clear hK K
    refine pure_ (i := 10) (N := some 12) (v := ?_) (a' := ?_) #[true, true, true, true, true, true, true, true, true, true, true, false] rfl rfl (by kernel_rfl) (fun _ _ _ h => h) (Or.inl ⟨by rfl, ?_⟩) ?_ ?_
    rotate_left
    · intro w'
      go_simp
      with_reducible rfl
    rotate_left
    · simp only [Act.put, List.setIfInBounds_toArray, List.set_cons_zero, List.set_cons_succ, i64_w, i32_w]
      rfl
    refine pure_ (i := 11) (N := some 13) (v := ?_) (a' := ?_) #[true, true, true, true, true, true, true, true, true, true, true, true] rfl rfl (by kernel_rfl) (fun _ _ _ h => h) (Or.inl ⟨by rfl, ?_⟩) ?_ ?_
    rotate_left
    · intro w'
      go_simp
      with_reducible rfl
    rotate_left
    · simp only [Act.put, List.setIfInBounds_toArray, List.set_cons_zero, List.set_cons_succ, i64_w, i32_w]
      rfl
    refine done_ (by kernel_rfl) ?_

    have HB7 := Aside0.mk ((HB6.out.setCell (p := ⟨gb, 0, none⟩) (by have := HLT6.out; show w.heap.size ≤ gb; omega) (.slice A40 b1.length c40)).setCell (p := ⟨gb, 1, none⟩) (by have := HLT6.out; show w.heap.size ≤ gb; omega) (.slice A41 b2.length c41))
    have HP7 := Aside0.mk (blk_far (blk_far HP6.out (p := ⟨gb, 0, none⟩) (by have := HLT6.out; show w.heap.size ≠ gb; omega) (.slice A40 b1.length c40)) (p := ⟨gb, 1, none⟩) (by have := HLT6.out; show w.heap.size ≠ gb; omega) (.slice A41 b2.length c41))
    have HZ7 := Aside0.mk (blk_far (blk_far HZ6.out (p := ⟨gb, 0, none⟩) (by have := HLT6.out; show w.heap.size + 2 ≠ gb; omega) (.slice A40 b1.length c40)) (p := ⟨gb, 1, none⟩) (by have := HLT6.out; show w.heap.size + 2 ≠ gb; omega) (.slice A41 b2.length c41))
    have HN7 := Aside0.mk (blk_put (cs' := #[.slice A40 b1.length c40, .slice A41 b2.length c41]) (blk_put (cs' := #[.slice A40 b1.length c40, .slice none 0 0]) HN6.out 0 (.slice A40 b1.length c40) rfl) 1 (.slice A41 b2.length c41) rfl)
    have HF50 := Aside0.mk (Kd.F_mono (Kd.F_far (p := ⟨gb, 1, none⟩) (Kd.F_far (p := ⟨gb, 0, none⟩) HF40.out (fun b hb => hb.2) (.slice A40 b1.length c40)) (fun b hb => hb.2) (.slice A41 b2.length c41)) (fun b hb => hb.1))
    have HF51 := Aside0.mk (Kd.F_mono (Kd.F_far (p := ⟨gb, 1, none⟩) (Kd.F_far (p := ⟨gb, 0, none⟩) HF41.out (fun b hb => hb.2) (.slice A40 b1.length c40)) (fun b hb => hb.2) (.slice A41 b2.length c41)) (fun b hb => hb.1))
    clear hHeld
    generalize (W6.setCell ⟨gb, 0, none⟩ (.slice A40 b1.length c40)).setCell ⟨gb, 1, none⟩ (.slice A41 b2.length c41) = W7 at HB7 HP7 HZ7 HN7 HF50 HF51 ⊢
    clear HB6 HP6 HQ6 HZ6 HN6 HF40 HF41 hcP0 hfP0 hcP1 hfP1 hcQ0 hfQ0 hcQ1 hfQ1 hcQ2 hfQ2 hcQ3 hfQ3 hcZ0 hfZ0 hcZ1 hfZ1
    have hcP0 := blk_cell HP7.out 0
    have hfP0 := blk_frozen HP7.out 0
    have hcP1 := blk_cell HP7.out 1
    have hfP1 := blk_frozen HP7.out 1
    have hcZ0 := blk_cell HZ7.out 0
    have hfZ0 := blk_frozen HZ7.out 0
    have hcZ1 := blk_cell HZ7.out 1
    have hfZ1 := blk_frozen HZ7.out 1
    have hcN0 := blk_cell HN7.out 0
    have hfN0 := blk_frozen HN7.out 0
    have hcN1 := blk_cell HN7.out 1
    have hfN1 := blk_frozen HN7.out 1
    simp only [List.getElem?_toArray, List.getElem?_cons_zero, List.getElem?_cons_succ] at hcP0 hcP1 hcZ0 hcZ1 hcN0 hcN1
    cases b4 with
    | false =>
      have H2 := H3.out
      simp only [Bool.false_eq_true, if_false, Option.some.injEq, Prod.mk.injEq] at H2
      obtain ⟨rfl, rfl, rfl, rfl⟩ := H2
      clear H3
      go_wp2_with fail
      have hbe : Below w.heap.size w ((W7.setCell ⟨w.heap.size + 2, 0, none⟩ (.slice A40 b1.length c40)).setCell ⟨w.heap.size + 2, 1, none⟩ (.slice A41 b2.length c41)) :=
        (HB7.out.setCell (p := ⟨w.heap.size + 2, 0, none⟩) (by show w.heap.size ≤ w.heap.size + 2; omega) _).setCell (p := ⟨w.heap.size + 2, 1, none⟩) (by show w.heap.size ≤ w.heap.size + 2; omega) _
      refine bodyPost_ret (results_ctt rfl _ _ (w.heap.size + 1 + 1) 26 #[.slice A40 b1.length c40, .slice A41 b2.length c41] (0, 0) _ rfl (by refine blk_put (cs := #[.slice A40 b1.length c40, .slice none 0 0]) ?_ 1 _ rfl; refine blk_put (cs := #[.slice none 0 0, .slice none 0 0]) ?_ 0 _ rfl; exact HZ7.out) Try.underlying26 rfl (by kernel_rfl)) rfl ?_
      exact ⟨_, rfl, ⟨_, _, _, _, rfl, HC40.out, HC41.out, Kd.F_now (Kd.F_far (p := ⟨w.heap.size + 2, 1, none⟩) (Kd.F_far (p := ⟨w.heap.size + 2, 0, none⟩) HF50.out (fun b hb => hb) _) (fun b hb => hb) _), Kd.F_now (Kd.F_far (p := ⟨w.heap.size + 2, 1, none⟩) (Kd.F_far (p := ⟨w.heap.size + 2, 0, none⟩) HF51.out (fun b hb => hb) _) (fun b hb => hb) _)⟩, hbe⟩
    | true =>
      by_cases hl : (l1_0.length : Int) ≥ a3
      · have H2 := H3.out
        simp only [if_true, hl, Option.some.injEq, Prod.mk.injEq] at H2
        obtain ⟨rfl, rfl, rfl, rfl⟩ := H2
        clear H3
        have hd : decide (a3 ≤ (l1_0.length : Int)) = true := decide_eq_true hl
        clear hl
        go_wp2_with fail
        have hbe : Below w.heap.size w ((W7.setCell ⟨w.heap.size + 2, 0, none⟩ (.slice A1_0 l1_0.length c1_0)).setCell ⟨w.heap.size + 2, 1, none⟩ (.slice A1_1 l1_1.length c1_1)) :=
          (HB7.out.setCell (p := ⟨w.heap.size + 2, 0, none⟩) (by show w.heap.size ≤ w.heap.size + 2; omega) _).setCell (p := ⟨w.heap.size + 2, 1, none⟩) (by show w.heap.size ≤ w.heap.size + 2; omega) _
        refine bodyPost_ret (results_ctt rfl _ _ (w.heap.size + 1 + 1) 26 #[.slice A1_0 l1_0.length c1_0, .slice A1_1 l1_1.length c1_1] (0, 0) _ rfl (by refine blk_put (cs := #[.slice A1_0 l1_0.length c1_0, .slice none 0 0]) ?_ 1 _ rfl; refine blk_put (cs := #[.slice none 0 0, .slice none 0 0]) ?_ 0 _ rfl; exact HZ7.out) Try.underlying26 rfl (by kernel_rfl)) rfl ?_
        exact ⟨_, rfl, ⟨_, _, _, _, rfl, hc1_0, hc1_1, Kd.C_below HR10.out hbe, Kd.C_below HR11.out hbe⟩, hbe⟩
      · have H2 := H3.out
        simp only [if_true, hl, if_false, Option.some.injEq, Prod.mk.injEq] at H2
        obtain ⟨rfl, rfl, rfl, rfl⟩ := H2
        clear H3
        have hd : decide (a3 ≤ (l1_0.length : Int)) = false := decide_eq_false hl
        clear hl
        go_wp2_with fail
        have hbe : Below w.heap.size w ((W7.setCell ⟨w.heap.size + 2, 0, none⟩ (.slice A40 b1.length c40)).setCell ⟨w.heap.size + 2, 1, none⟩ (.slice A41 b2.length c41)) :=
          (HB7.out.setCell (p := ⟨w.heap.size + 2, 0, none⟩) (by show w.heap.size ≤ w.heap.size + 2; omega) _).setCell (p := ⟨w.heap.size + 2, 1, none⟩) (by show w.heap.size ≤ w.heap.size + 2; omega) _
        refine bodyPost_ret (results_ctt rfl _ _ (w.heap.size + 1 + 1) 26 #[.slice A40 b1.length c40, .slice A41 b2.length c41] (0, 0) _ rfl (by refine blk_put (cs := #[.slice A40 b1.length c40, .slice none 0 0]) ?_ 1 _ rfl; refine blk_put (cs := #[.slice none 0 0, .slice none 0 0]) ?_ 0 _ rfl; exact HZ7.out) Try.underlying26 rfl (by kernel_rfl)) rfl ?_
        exact ⟨_, rfl, ⟨_, _, _, _, rfl, HC40.out, HC41.out, Kd.F_now (Kd.F_far (p := ⟨w.heap.size + 2, 1, none⟩) (Kd.F_far (p := ⟨w.heap.size + 2, 0, none⟩) HF50.out (fun b hb => hb) _) (fun b hb => hb) _), Kd.F_now (Kd.F_far (p := ⟨w.heap.size + 2, 1, none⟩) (Kd.F_far (p := ⟨w.heap.size + 2, 0, none⟩) HF51.out (fun b hb => hb) _) (fun b hb => hb) _)⟩, hbe⟩
end Go.Proofs.Ytiliknfmlmdmbaa.T
