/- work.Put: lets a pair wait. -/
import Derived.Test.YtfjgfkokhnpbcaaHh
import Derived.Test.YtfjgfkokhnpbcaaHv
import Derived.Test.YtfjgfkokhnpbcaaUx0
namespace Go.Proofs.Ytfjgfkokhnpbcaa.U
open Go.RowKit Go.Proofs.YtfjgfkokhnpbcaaW.PrintWords Go.Proofs.YtfjgfkokhnpbcaaW.PrintLast Go.Proofs.YtfjgfkokhnpbcaaW.PrintMore
set_option linter.unusedVariables false
set_option linter.unusedSimpArgs false
theorem TF.mono {ok ok' : Nat → Prop} {w : World} {v : Value} {keys : List (List Int)} {slots : List Int} (h : TF ok w v keys slots) (hk : ∀ k, ok k → ok' k) : TF ok' w v keys slots := by
  obtain ⟨A0, c0, A1, c1, e, h1, h2, h3, h4⟩ := h
  exact ⟨A0, c0, A1, c1, e, h1, h2, Kd.F_mono h3 hk, Kd.F_mono h4 hk⟩
theorem TF.elder {ok : Nat → Prop} {w w1 : World} {v : Value} {keys : List (List Int)} {slots : List Int} (h : TF ok w v keys slots) (a : Nat) (ha : w.heap.size ≤ a) (hb : Below w.heap.size w w1) : TF (fun k => ok k ∧ k ≠ a) w1 v keys slots := by
  obtain ⟨A0, c0, A1, c1, e, h1, h2, h3, h4⟩ := h
  exact ⟨A0, c0, A1, c1, e, h1, h2, Kd.F_below (Kd.F_elderB h3 a ha) hb, Kd.F_below (Kd.F_elderB h4 a ha) hb⟩
/-- A queue in memory, as it reads, and where it lies. -/
def QF (ok : Nat → Prop) (w : World) (v : Value) (L : List S30) (keys : List (List Int)) (slots : List Int) : Prop := ∃ A0 c0 A1 c1 A2 c2, v = .agg #[.slice A0 L.length c0, .slice A1 keys.length c1, .slice A2 slots.length c2] ∧ L.length ≤ c0 ∧ keys.length ≤ c1 ∧ slots.length ≤ c2 ∧ Kd.F k30 w ok A0 L.length L ∧ Kd.F (Kd.slice 3 (Kd.int .i64)) w ok A1 keys.length keys ∧ Kd.F (Kd.int .i64) w ok A2 slots.length slots
theorem QF.mono {ok ok' : Nat → Prop} {w : World} {v : Value} {L : List S30} {keys : List (List Int)} {slots : List Int} (h : QF ok w v L keys slots) (hk : ∀ k, ok k → ok' k) : QF ok' w v L keys slots := by
  obtain ⟨A0, c0, A1, c1, A2, c2, e, h1, h2, h3, h4, h5, h6⟩ := h
  exact ⟨A0, c0, A1, c1, A2, c2, e, h1, h2, h3, Kd.F_mono h4 hk, Kd.F_mono h5 hk, Kd.F_mono h6 hk⟩
def WPut (ok : Nat → Prop) (L : List S30) (keys : List (List Int)) (slots : List Int) (b : Bool) (w : World) (e : Ending) (w' : World) : Prop := ∃ v, e = .returned (.tuple #[v, .bool b]) ∧ QF (fun k => ok k ∨ w.heap.size ≤ k) w' v L keys slots ∧ Below w.heap.size w w'
def work_Put.f (k : Nat) (L : List S30) (keys : List (List Int)) (slots : List Int) (p0 p1 : Int) : Option (List S30 × List (List Int) × List Int × Bool) :=
  (hash_Put.f k keys slots [p0, p1]).bind fun x => if x.2.2.2 = true then (if L.length < 8796093022207 then some (upL L.length (L ++ [⟨p0, p1⟩]) L.length, x.1, x.2.1, true) else none) else some (L, keys, slots, false)
theorem work_Put.mono : ∀ L keys slots p0 p1 k, LeO (work_Put.f k L keys slots p0 p1) (work_Put.f (k + 1) L keys slots p0 p1) := fun L keys slots p0 p1 k => LeO.bind (hash_Put.mono _ _ _ k) fun x => LeO.refl _
theorem box_reads {w : World} {g : Nat} {a b : Int} (h : w.heap[g]? = some (.cells #[.int .i64 a, .int .i64 b] 30 (0, 0))) : Kd.C (Kd.int .i64) w (some ⟨g, 0, none⟩) ([a, b] : List Int).length [a, b] := by
  refine ⟨rfl, by show 2 ≤ maxLen; decide, fun _ => ⟨⟨g, 0, none⟩, rfl, fun j p hj => ?_⟩⟩
  rcases j with _ | _ | j
  · obtain rfl : a = p := by simpa using hj
    exact ⟨[.int .i64 a], rfl, rfl, fun i u hu => by
      obtain ⟨rfl, rfl⟩ : i = 0 ∧ u = .int .i64 a := by
        rcases i with _ | i
        · exact ⟨rfl, by simpa using hu.symm⟩
        · simp at hu
      rw [add_plain]; exact (blk_cell h 0).trans rfl⟩
  · obtain rfl : b = p := by simpa using hj
    exact ⟨[.int .i64 b], rfl, rfl, fun i u hu => by
      obtain ⟨rfl, rfl⟩ : i = 0 ∧ u = .int .i64 b := by
        rcases i with _ | i
        · exact ⟨rfl, by simpa using hu.symm⟩
        · simp at hu
      rw [add_plain]; exact (blk_cell h 1).trans rfl⟩
  · simp at hj
def OkP (ok : Nat → Prop) (n : Nat) (k : Nat) : Prop := (ok k ∧ k < n) ∨ n + 3 ≤ k
theorem OkP.ne2 {ok : Nat → Prop} {n k : Nat} (h : OkP ok n k) : k ≠ n + 2 := by rcases h with h | h <;> omega
theorem OkP.out {ok : Nat → Prop} {n k : Nat} (h : OkP ok n k) : ok k ∨ n ≤ k := h.elim (fun h => .inl h.1) (fun h => .inr (by omega))
set_option maxRecDepth 100000 in
set_option maxHeartbeats 4000000 in
theorem work_Put.calls (k : Nat) (ok : Nat → Prop) (A0 : Option Addr) (c0 : Nat) (L : List S30) (A1 : Option Addr) (c1 : Nat) (keys : List (List Int)) (A2 : Option Addr) (c2 : Nat) (slots : List Int) (p0 p1 : Int) (r0 : List S30) (r1 : List (List Int)) (r2 : List Int) (r3 : Bool) (w : World)
    (hr0 : Kd.F k30 w ok A0 L.length L) (hc0 : L.length ≤ c0) (hr1 : Kd.F (Kd.slice 3 (Kd.int .i64)) w ok A1 keys.length keys) (hc1 : keys.length ≤ c1) (hr2 : Kd.F (Kd.int .i64) w ok A2 slots.length slots) (hc2 : slots.length ≤ c2)
    (h : work_Put.f k L keys slots p0 p1 = some (r0, r1, r2, r3)) :
    Calls Try.prog 11 #[.agg #[.slice A0 L.length c0, .slice A1 keys.length c1, .slice A2 slots.length c2], .agg #[.int .i64 p0, .int .i64 p1]] w (WPut ok r0 r1 r2 r3 w) := by
  have hu26 := Try.underlying26
  have hu28 := Try.underlying28
  have hu30 := Try.underlying30
  have hu24 := Try.underlying24
  have HX0 := Aside0.mk (Kd.F_bound hr0)
  have HX1 := Aside0.mk (Kd.F_bound hr1)
  have HX2 := Aside0.mk (Kd.F_bound hr2)
  clear hr0 hr1 hr2
  unfold work_Put.f at h
  obtain ⟨⟨b1, b2, b3, b4⟩, hput, h⟩ := Option.bind_eq_some_iff.mp h
  have HPUT := Aside0.mk hput
  have HR := Aside0.mk h
  clear hput h
  have hle2 : ([p0, p1] : List Int).length ≤ 2 := Nat.le_refl 2
  have hB1 : Below w.heap.size w ((((w.alloc (.cells #[.slice A0 L.length c0, .slice A1 keys.length c1, .slice A2 slots.length c2] 28)).alloc (.cells #[.int .i64 p0, .int .i64 p1] 30)).alloc (.cells #[.slice none 0 0, .slice none 0 0, .slice none 0 0] 28)).drew) := below_drew (below_alloc (below_alloc (below_alloc (Below.refl _ _) _) _) _)
  have hQ1 := blk_drew (blk_alloc (blk_alloc (blk_new w (.cells #[.slice A0 L.length c0, .slice A1 keys.length c1, .slice A2 slots.length c2] 28)) (.cells #[.int .i64 p0, .int .i64 p1] 30)) (.cells #[.slice none 0 0, .slice none 0 0, .slice none 0 0] 28))
  have hP1 := blk_drew (blk_alloc (blk_new (w.alloc (.cells #[.slice A0 L.length c0, .slice A1 keys.length c1, .slice A2 slots.length c2] 28)) (.cells #[.int .i64 p0, .int .i64 p1] 30)) (.cells #[.slice none 0 0, .slice none 0 0, .slice none 0 0] 28))
  have hZ1 := blk_drew (blk_new ((w.alloc (.cells #[.slice A0 L.length c0, .slice A1 keys.length c1, .slice A2 slots.length c2] 28)).alloc (.cells #[.int .i64 p0, .int .i64 p1] 30)) (.cells #[.slice none 0 0, .slice none 0 0, .slice none 0 0] 28))
  simp only [World.size_alloc] at hP1 hZ1
  have HB := Aside0.mk hB1
  have HQ := Aside0.mk hQ1
  have HP := Aside0.mk hP1
  have HZ := Aside0.mk hZ1
  have hcQ1 := (blk_cell HQ.out 1).trans rfl
  have hcQ2 := (blk_cell HQ.out 2).trans rfl
  clear hB1 hQ1 hP1 hZ1
  go_enter Try.func11, Try.ntmps11
  go_wp2_with fail
  refine start_ (n := 12) (S := fun w' => w'.cell? ⟨w.heap.size, 1, none⟩ = some (.slice A1 keys.length c1) ∧ w'.cell? ⟨w.heap.size, 2, none⟩ = some (.slice A2 slots.length c2)) (ds := []) #[false, false, false, false, false, false, false, false, false, false, false, false] (by kernel_rfl) rfl rfl ⟨hcQ1, hcQ2⟩ (fun hHeld => ?_)
  generalize (((w.alloc (.cells #[.slice A0 L.length c0, .slice A1 keys.length c1, .slice A2 slots.length c2] 28)).alloc (.cells #[.int .i64 p0, .int .i64 p1] 30)).alloc (.cells #[.slice none 0 0, .slice none 0 0, .slice none 0 0] 28)).drew = W1 at HB HQ HP HZ hHeld ⊢
  clear hcQ1 hcQ2
  refine pure_ (i := 0) (N := some 12) (v := ?_) (a' := ?_) #[true, false, false, false, false, false, false, false, false, false, false, false] rfl rfl (by kernel_rfl) (fun _ _ _ h => h) (Or.inl ⟨by rfl, ?_⟩) ?_ ?_
  rotate_left
  · intro w'
    go_simp
    with_reducible rfl
  rotate_left
  · simp only [Act.put, List.setIfInBounds_toArray, List.set_cons_zero, List.set_cons_succ, i64_w, i32_w]
    rfl
  refine pure_ (i := 2) (N := some 14) (v := ?_) (a' := ?_) #[true, false, true, false, false, false, false, false, false, false, false, false] rfl rfl (by kernel_rfl) (fun _ _ _ h => h) (Or.inl ⟨by rfl, ?_⟩) ?_ ?_
  rotate_left
  · intro w'
    go_simp
    with_reducible rfl
  rotate_left
  · simp only [Act.put, List.setIfInBounds_toArray, List.set_cons_zero, List.set_cons_succ, i64_w, i32_w]
    rfl
  refine take_ (i := 1) (N := some 13) (v := ?_) (a' := ?_) #[true, true, true, false, false, false, false, false, false, false, false, false] rfl rfl (by kernel_rfl) (fun _ _ _ h => h) (Or.inl ⟨by rfl, ?_⟩) hHeld ?_ ?_
  rotate_left
  · rintro w' ⟨s0, s1⟩
    go_simp
    with_reducible rfl
  rotate_left
  · simp only [Act.put, List.setIfInBounds_toArray, List.set_cons_zero, List.set_cons_succ, i64_w, i32_w]
    rfl
  refine join_ (σ := Value × Nat) 3 #[true, true, true, true, true, true, true, true, true, false, false, false] (fun s => [(15, .tuple #[s.1, .int .i64 b3, .bool b4]), (11, .tuple #[s.1, .int .i64 b3, .bool b4]), (16, s.1), (17, .int .i64 b3), (18, .bool b4), (6, .pointer (some ⟨s.2, 0, none⟩))]) (fun s w' => TF (fun b => OkP ok w.heap.size b ∧ b ≠ s.2) w' s.1 b1 b2 ∧ w'.heap[s.2]? = some (.cells #[.slice none 0 0, .slice none 0 0] 26 (0, 0)) ∧ w.heap.size + 2 < s.2 ∧ Below w.heap.size w w' ∧ w'.heap[w.heap.size]? = some (.cells #[.slice A0 L.length c0, .slice A1 keys.length c1, .slice A2 slots.length c2] 28 (0, 0)) ∧ w'.heap[w.heap.size + 1]? = some (.cells #[.int .i64 p0, .int .i64 p1] 30 (0, 0)) ∧ w'.heap[w.heap.size + 2]? = some (.cells #[.slice none 0 0, .slice none 0 0, .slice none 0 0] 28 (0, 0))) ?_ ?_
  rotate_left
  · intro hCont
    refine two_ (i := 3) (j := 8) (Ni := some 15) (Nj := some 6) #[true, true, true, true, false, false, false, false, false, false, false, false] #[true, true, true, false, false, false, false, false, true, false, false, false] rfl rfl rfl rfl (by kernel_rfl) (by decide) (by decide) (fun K hK => ?_) (fun K hK => ?_)
    · skip
      refine goes_ Try.func25 (by kernel_rfl) rfl #[.agg #[.slice A1 keys.length c1, .slice A2 slots.length c2], .slice (some ⟨w.heap.size + 1, 0, none⟩) ([p0, p1] : List Int).length 2] (by rfl) rfl rfl (by simp only [List.map_toArray, List.map_cons, List.map_nil]; rfl) ?_
      with_reducible refine (hash_Put.calls k (fun b => ok b ∧ b < w.heap.size) A1 c1 keys A2 c2 slots (some ⟨w.heap.size + 1, 0, none⟩) 2 [p0, p1] b1 b2 b3 b4 W1 (Kd.F_below HX1.out HB.out) hc1 (Kd.F_below HX2.out HB.out) hc2 (box_reads HP.out) hle2 HPUT.out).mono ?_
      rintro e W4 ⟨v4, rfl, hT4, hb4⟩
      have HT4 := Aside0.mk hT4
      have H_3B := Aside0.mk (below_step HB.out hb4)
      have H_3Q := Aside0.mk (blk_below HQ.out hb4)
      have H_3P := Aside0.mk (blk_below HP.out hb4)
      have H_3Z := Aside0.mk (blk_below HZ.out hb4)
      refine ⟨_, rfl, ?_⟩
      refine hK.out _ _ ⟨(pw_cell_below hb4 hHeld.1), (pw_cell_below hb4 hHeld.2)⟩ (fun hHeld => ?_)
      clear hK K
      refine norm_ (a' := ?_) ?_ ?_
      rotate_left
      · show Act.put _ (some 15) _ = _
        simp only [Act.put, List.setIfInBounds_toArray, List.set_cons_zero, List.set_cons_succ, i64_w, i32_w]
        rfl
      refine pure_ (i := 4) (N := some 11) (v := ?_) (a' := ?_) #[true, true, true, true, true, false, false, false, false, false, false, false] rfl rfl (by kernel_rfl) (fun _ _ _ h => h) (Or.inl ⟨by rfl, ?_⟩) ?_ ?_
      rotate_left
      · intro w'
        go_simp
        with_reducible rfl
      rotate_left
      · simp only [Act.put, List.setIfInBounds_toArray, List.set_cons_zero, List.set_cons_succ, i64_w, i32_w]
        rfl
      refine pure_ (i := 5) (N := some 16) (v := ?_) (a' := ?_) #[true, true, true, true, true, true, false, false, false, false, false, false] rfl rfl (by kernel_rfl) (fun _ _ _ h => h) (Or.inl ⟨by rfl, ?_⟩) ?_ ?_
      rotate_left
      · intro w'
        go_simp
        with_reducible rfl
      rotate_left
      · simp only [Act.put, List.setIfInBounds_toArray, List.set_cons_zero, List.set_cons_succ, i64_w, i32_w]
        rfl
      refine pure_ (i := 6) (N := some 17) (v := ?_) (a' := ?_) #[true, true, true, true, true, true, true, false, false, false, false, false] rfl rfl (by kernel_rfl) (fun _ _ _ h => h) (Or.inl ⟨by rfl, ?_⟩) ?_ ?_
      rotate_left
      · intro w'
        go_simp
        with_reducible rfl
      rotate_left
      · simp only [Act.put, List.setIfInBounds_toArray, List.set_cons_zero, List.set_cons_succ, i64_w, i32_w]
        rfl
      refine pure_ (i := 7) (N := some 18) (v := ?_) (a' := ?_) #[true, true, true, true, true, true, true, true, false, false, false, false] rfl rfl (by kernel_rfl) (fun _ _ _ h => h) (Or.inl ⟨by rfl, ?_⟩) ?_ ?_
      rotate_left
      · intro w'
        go_simp
        with_reducible rfl
      rotate_left
      · simp only [Act.put, List.setIfInBounds_toArray, List.set_cons_zero, List.set_cons_succ, i64_w, i32_w]
        rfl
      refine one_ (i := 8) (N := some 6) #[true, true, true, true, true, true, true, true, true, false, false, false] rfl rfl (by kernel_rfl) (by decide) (fun K hK => ?_)
      refine value_ (w1 := ?_) (v := ?_) (by rfl) rfl ?_ ?_
      rotate_left 2
      · go_simp
        constructor
        · rfl
        · rfl
      have hb5 := below_alloc (Below.refl W4.heap.size W4) (.cells #[.slice none 0 0, .slice none 0 0] 26)
      have H_3_8B := Aside0.mk (below_step H_3B.out hb5)
      have H_3_8Q := Aside0.mk (blk_below H_3Q.out hb5)
      have H_3_8P := Aside0.mk (blk_below H_3P.out hb5)
      have H_3_8Z := Aside0.mk (blk_below H_3Z.out hb5)
      have H_3_8N := Aside0.mk (blk_new W4 (.cells #[.slice none 0 0, .slice none 0 0] 26))
      have HLT5 := Aside0.mk (show w.heap.size + 2 < W4.heap.size from blk_lt H_3Z.out)
      have HTA := Aside0.mk (TF.elder HT4.out W4.heap.size (Nat.le_refl _) hb5)
      obtain ⟨gb5, hgb5⟩ : ∃ q, q = W4.heap.size := ⟨_, rfl⟩
      rw [← hgb5] at H_3_8N HLT5 HTA ⊢
      generalize W4.alloc (.cells #[.slice none 0 0, .slice none 0 0] 26) = W5 at H_3_8B H_3_8P H_3_8Q H_3_8Z H_3_8N hb5 HTA ⊢
      have HG5 := Aside0.mk hgb5
      clear hgb5
      refine hK.out _ _ ⟨(pw_cell_below hb5 hHeld.1), (pw_cell_below hb5 hHeld.2)⟩ (fun hHeld => ?_)
      clear hK K
      refine norm_ (a' := ?_) ?_ ?_
      rotate_left
      · show Act.put _ (some 6) _ = _
        simp only [Act.put, List.setIfInBounds_toArray, List.set_cons_zero, List.set_cons_succ, i64_w, i32_w]
        rfl
      exact norm_ (by simp only [putAll, Act.put, List.setIfInBounds_toArray, List.set_cons_zero, List.set_cons_succ]) (hCont (v4, gb5) _ ⟨TF.mono HTA.out (fun b hb => ⟨hb.1.elim (fun h => .inl h) (fun h => .inr (by have := blk_lt HZ.out; omega)), hb.2⟩), H_3_8N.out, HLT5.out, H_3_8B.out, H_3_8Q.out, H_3_8P.out, H_3_8Z.out⟩)
    · skip
      refine value_ (w1 := ?_) (v := ?_) (by rfl) rfl ?_ ?_
      rotate_left 2
      · go_simp
        constructor
        · rfl
        · rfl
      have hb5 := below_alloc (Below.refl W1.heap.size W1) (.cells #[.slice none 0 0, .slice none 0 0] 26)
      have H_8B := Aside0.mk (below_step HB.out hb5)
      have H_8Q := Aside0.mk (blk_below HQ.out hb5)
      have H_8P := Aside0.mk (blk_below HP.out hb5)
      have H_8Z := Aside0.mk (blk_below HZ.out hb5)
      have H_8N := Aside0.mk (blk_new W1 (.cells #[.slice none 0 0, .slice none 0 0] 26))
      have HLT5 := Aside0.mk (show w.heap.size + 2 < W1.heap.size from blk_lt HZ.out)
      obtain ⟨gb5, hgb5⟩ : ∃ q, q = W1.heap.size := ⟨_, rfl⟩
      rw [← hgb5] at H_8N HLT5  ⊢
      generalize W1.alloc (.cells #[.slice none 0 0, .slice none 0 0] 26) = W5 at H_8B H_8P H_8Q H_8Z H_8N hb5  ⊢
      have HG5 := Aside0.mk hgb5
      clear hgb5
      refine hK.out _ _ ⟨(pw_cell_below hb5 hHeld.1), (pw_cell_below hb5 hHeld.2)⟩ (fun hHeld => ?_)
      clear hK K
      refine norm_ (a' := ?_) ?_ ?_
      rotate_left
      · show Act.put _ (some 6) _ = _
        simp only [Act.put, List.setIfInBounds_toArray, List.set_cons_zero, List.set_cons_succ, i64_w, i32_w]
        rfl
      refine one_ (i := 3) (N := some 15) #[true, true, true, true, false, false, false, false, true, false, false, false] rfl rfl (by kernel_rfl) (by decide) (fun K hK => ?_)
      refine goes_ Try.func25 (by kernel_rfl) rfl #[.agg #[.slice A1 keys.length c1, .slice A2 slots.length c2], .slice (some ⟨w.heap.size + 1, 0, none⟩) ([p0, p1] : List Int).length 2] (by rfl) rfl rfl (by simp only [List.map_toArray, List.map_cons, List.map_nil]; rfl) ?_
      with_reducible refine (hash_Put.calls k (fun b => ok b ∧ b < w.heap.size) A1 c1 keys A2 c2 slots (some ⟨w.heap.size + 1, 0, none⟩) 2 [p0, p1] b1 b2 b3 b4 W5 (Kd.F_below HX1.out H_8B.out) hc1 (Kd.F_below HX2.out H_8B.out) hc2 (box_reads H_8P.out) hle2 HPUT.out).mono ?_
      rintro e W4 ⟨v4, rfl, hT4, hb4⟩
      have HT4 := Aside0.mk hT4
      have H_8_3B := Aside0.mk (below_step H_8B.out hb4)
      have H_8_3Q := Aside0.mk (blk_below H_8Q.out hb4)
      have H_8_3P := Aside0.mk (blk_below H_8P.out hb4)
      have H_8_3Z := Aside0.mk (blk_below H_8Z.out hb4)
      have H_8_3N := Aside0.mk (blk_below H_8N.out hb4)
      refine ⟨_, rfl, ?_⟩
      refine hK.out _ _ ⟨(pw_cell_below hb4 hHeld.1), (pw_cell_below hb4 hHeld.2)⟩ (fun hHeld => ?_)
      clear hK K
      refine norm_ (a' := ?_) ?_ ?_
      rotate_left
      · show Act.put _ (some 15) _ = _
        simp only [Act.put, List.setIfInBounds_toArray, List.set_cons_zero, List.set_cons_succ, i64_w, i32_w]
        rfl
      refine pure_ (i := 4) (N := some 11) (v := ?_) (a' := ?_) #[true, true, true, true, true, false, false, false, true, false, false, false] rfl rfl (by kernel_rfl) (fun _ _ _ h => h) (Or.inl ⟨by rfl, ?_⟩) ?_ ?_
      rotate_left
      · intro w'
        go_simp
        with_reducible rfl
      rotate_left
      · simp only [Act.put, List.setIfInBounds_toArray, List.set_cons_zero, List.set_cons_succ, i64_w, i32_w]
        rfl
      refine pure_ (i := 5) (N := some 16) (v := ?_) (a' := ?_) #[true, true, true, true, true, true, false, false, true, false, false, false] rfl rfl (by kernel_rfl) (fun _ _ _ h => h) (Or.inl ⟨by rfl, ?_⟩) ?_ ?_
      rotate_left
      · intro w'
        go_simp
        with_reducible rfl
      rotate_left
      · simp only [Act.put, List.setIfInBounds_toArray, List.set_cons_zero, List.set_cons_succ, i64_w, i32_w]
        rfl
      refine pure_ (i := 6) (N := some 17) (v := ?_) (a' := ?_) #[true, true, true, true, true, true, true, false, true, false, false, false] rfl rfl (by kernel_rfl) (fun _ _ _ h => h) (Or.inl ⟨by rfl, ?_⟩) ?_ ?_
      rotate_left
      · intro w'
        go_simp
        with_reducible rfl
      rotate_left
      · simp only [Act.put, List.setIfInBounds_toArray, List.set_cons_zero, List.set_cons_succ, i64_w, i32_w]
        rfl
      refine pure_ (i := 7) (N := some 18) (v := ?_) (a' := ?_) #[true, true, true, true, true, true, true, true, true, false, false, false] rfl rfl (by kernel_rfl) (fun _ _ _ h => h) (Or.inl ⟨by rfl, ?_⟩) ?_ ?_
      rotate_left
      · intro w'
        go_simp
        with_reducible rfl
      rotate_left
      · simp only [Act.put, List.setIfInBounds_toArray, List.set_cons_zero, List.set_cons_succ, i64_w, i32_w]
        rfl
      exact norm_ (by simp only [putAll, Act.put, List.setIfInBounds_toArray, List.set_cons_zero, List.set_cons_succ]) (hCont (v4, gb5) _ ⟨TF.mono HT4.out (fun b hb => by have h1 := blk_lt H_8Z.out; have h2 := blk_lt H_8N.out; have h3 := HLT5.out; exact hb.elim (fun h => ⟨.inl h, by have := h.2; omega⟩) (fun h => ⟨.inr (by omega), by omega⟩)), H_8_3N.out, HLT5.out, H_8_3B.out, H_8_3Q.out, H_8_3P.out, H_8_3Z.out⟩)
  rintro ⟨vt, gb⟩ W6 ⟨hF1, hF2, hF3, hF4, hF5, hF6, hF7⟩
  (try dsimp only at hF1)
  (try dsimp only at hF2)
  (try dsimp only at hF3)
  have HF1 := Aside0.mk hF1
  have HN6 := Aside0.mk hF2
  have HLT6 := Aside0.mk hF3
  have HB6 := Aside0.mk hF4
  have HQ6 := Aside0.mk hF5
  have HP6 := Aside0.mk hF6
  have HZ6 := Aside0.mk hF7
  have hHeld : W6.cell? ⟨w.heap.size, 1, none⟩ = some (.slice A1 keys.length c1) ∧ W6.cell? ⟨w.heap.size, 2, none⟩ = some (.slice A2 slots.length c2) := ⟨(blk_cell hF5 1).trans rfl, (blk_cell hF5 2).trans rfl⟩
  clear hF1 hF2 hF3 hF4 hF5 hF6 hF7
  obtain ⟨A40, c40, A41, c41, rfl, hc40, hc41, hF40, hF41⟩ := HF1.out
  have HC40 := Aside0.mk hc40
  have HC41 := Aside0.mk hc41
  have HF40 := Aside0.mk hF40
  have HF41 := Aside0.mk hF41
  clear hc40 hc41 hF40 hF41 HF1
  refine norm_ (a' := ?_) ?_ ?_
  rotate_left
  · simp only [putAll, Act.put, List.setIfInBounds_toArray, List.set_cons_zero, List.set_cons_succ]
    rfl
  refine one_ (i := 9) (N := none) #[true, true, true, true, true, true, true, true, true, true, false, false] rfl rfl (by kernel_rfl) (by decide) (fun K hK => ?_)
  have hs9 := (blk_cell HN6.out 0).trans rfl
  have hs9b := (blk_cell HN6.out 1).trans rfl
  have hf9 := blk_frozen HN6.out 0
  have hf9b := blk_frozen HN6.out 1
  refine skip_ (w1 := ?_) (by rfl) rfl ?_ ?_
  rotate_left
  · go_simp
    rfl
  refine hK.out _ _ ⟨((cell_far (p := ⟨gb, _, none⟩) (by show _ ≠ gb; have := HLT6.out; simp only []; omega) _).trans ((cell_far (p := ⟨gb, _, none⟩) (by show _ ≠ gb; have := HLT6.out; simp only []; omega) _).trans hHeld.1)), ((cell_far (p := ⟨gb, _, none⟩) (by show _ ≠ gb; have := HLT6.out; simp only []; omega) _).trans ((cell_far (p := ⟨gb, _, none⟩) (by show _ ≠ gb; have := HLT6.out; simp only []; omega) _).trans hHeld.2))⟩ (fun hHeld => ?_)
  clear hK K
  refine pure_ (i := 10) (N := some 7) (v := ?_) (a' := ?_) #[true, true, true, true, true, true, true, true, true, true, true, false] rfl rfl (by kernel_rfl) (fun _ _ _ h => h) (Or.inl ⟨by rfl, ?_⟩) ?_ ?_
  rotate_left
  · intro w'
    go_simp
    with_reducible rfl
  rotate_left
  · simp only [Act.put, List.setIfInBounds_toArray, List.set_cons_zero, List.set_cons_succ, i64_w, i32_w]
    rfl
  refine pure_ (i := 11) (N := some 8) (v := ?_) (a' := ?_) #[true, true, true, true, true, true, true, true, true, true, true, true] rfl rfl (by kernel_rfl) (fun _ _ _ h => h) (Or.inl ⟨by rfl, ?_⟩) ?_ ?_
  rotate_left
  · intro w'
    go_simp
    with_reducible rfl
  rotate_left
  · simp only [Act.put, List.setIfInBounds_toArray, List.set_cons_zero, List.set_cons_succ, i64_w, i32_w]
    rfl
  refine done_ (by kernel_rfl) ?_

  clear hHeld
  have HB7 := Aside0.mk (show Below w.heap.size w ((W6.setCell ⟨gb, 0, none⟩ (.slice A40 b1.length c40)).setCell ⟨gb, 1, none⟩ (.slice A41 b2.length c41)) from (HB6.out.setCell (p := ⟨gb, 0, none⟩) (by show w.heap.size ≤ gb; have := HLT6.out; omega) _).setCell (p := ⟨gb, 1, none⟩) (by show w.heap.size ≤ gb; have := HLT6.out; omega) _)
  have HQ7 := Aside0.mk (blk_far (blk_far HQ6.out (p := ⟨gb, 0, none⟩) (by show w.heap.size ≠ gb; have := HLT6.out; omega) (.slice A40 b1.length c40)) (p := ⟨gb, 1, none⟩) (by show w.heap.size ≠ gb; have := HLT6.out; omega) (.slice A41 b2.length c41))
  have HP7 := Aside0.mk (blk_far (blk_far HP6.out (p := ⟨gb, 0, none⟩) (by show w.heap.size + 1 ≠ gb; have := HLT6.out; omega) (.slice A40 b1.length c40)) (p := ⟨gb, 1, none⟩) (by show w.heap.size + 1 ≠ gb; have := HLT6.out; omega) (.slice A41 b2.length c41))
  have HZ7 := Aside0.mk (show _ = _ from blk_far (g := w.heap.size + 1 + 1) (blk_far (g := w.heap.size + 1 + 1) HZ6.out (p := ⟨gb, 0, none⟩) (by show w.heap.size + 1 + 1 ≠ gb; have := HLT6.out; omega) (.slice A40 b1.length c40)) (p := ⟨gb, 1, none⟩) (by show w.heap.size + 1 + 1 ≠ gb; have := HLT6.out; omega) (.slice A41 b2.length c41))
  have HN7 := Aside0.mk (blk_put (cs := #[.slice A40 b1.length c40, .slice none 0 0]) (blk_put (cs := #[.slice none 0 0, .slice none 0 0]) HN6.out 0 (.slice A40 b1.length c40) rfl) 1 (.slice A41 b2.length c41) rfl)
  have HG40 := Aside0.mk (Kd.F_far (p := ⟨gb, 1, none⟩) (Kd.F_far (p := ⟨gb, 0, none⟩) HF40.out (fun k hk => hk.2) (.slice A40 b1.length c40)) (fun k hk => hk.2) (.slice A41 b2.length c41))
  have HG41 := Aside0.mk (Kd.F_far (p := ⟨gb, 1, none⟩) (Kd.F_far (p := ⟨gb, 0, none⟩) HF41.out (fun k hk => hk.2) (.slice A40 b1.length c40)) (fun k hk => hk.2) (.slice A41 b2.length c41))
  clear HF40 HF41 HN6 HZ6 HP6 HQ6 HB6
  generalize (W6.setCell ⟨gb, 0, none⟩ (.slice A40 b1.length c40)).setCell ⟨gb, 1, none⟩ (.slice A41 b2.length c41) = W7 at HB7 HQ7 HP7 HZ7 HN7 HG40 HG41 ⊢
  cases b4 with
  | false =>
    have H2 := HR.out
    rw [if_neg (by decide)] at H2
    simp only [Option.some.injEq, Prod.mk.injEq] at H2
    obtain ⟨rfl, rfl, rfl, rfl⟩ := H2
    have hcq0 := (blk_cell HQ7.out 0).trans rfl
    have hcq1 := (blk_cell HQ7.out 1).trans rfl
    have hcq2 := (blk_cell HQ7.out 2).trans rfl
    have hcz0 := (blk_cell HZ7.out 0).trans rfl
    have hcz1 := (blk_cell HZ7.out 1).trans rfl
    have hcz2 := (blk_cell HZ7.out 2).trans rfl
    have hfz0 := blk_frozen HZ7.out 0
    have hfz1 := blk_frozen HZ7.out 1
    have hfz2 := blk_frozen HZ7.out 2
    go_wp2_with fail
    have hZ8 := blk_put (cs := #[.slice A0 L.length c0, .slice A1 keys.length c1, .slice none 0 0]) (blk_put (cs := #[.slice A0 L.length c0, .slice none 0 0, .slice none 0 0]) (blk_put (cs := #[.slice none 0 0, .slice none 0 0, .slice none 0 0]) HZ7.out 0 (.slice A0 L.length c0) rfl) 1 (.slice A1 keys.length c1) rfl) 2 (.slice A2 slots.length c2) rfl
    have hB8 : Below w.heap.size w (((W7.setCell ⟨w.heap.size + 1 + 1, 0, none⟩ (.slice A0 L.length c0)).setCell ⟨w.heap.size + 1 + 1, 1, none⟩ (.slice A1 keys.length c1)).setCell ⟨w.heap.size + 1 + 1, 2, none⟩ (.slice A2 slots.length c2)) :=
      ((HB7.out.setCell (p := ⟨w.heap.size + 1 + 1, 0, none⟩) (by show w.heap.size ≤ w.heap.size + 1 + 1; omega) _).setCell (p := ⟨w.heap.size + 1 + 1, 1, none⟩) (by show w.heap.size ≤ w.heap.size + 1 + 1; omega) _).setCell (p := ⟨w.heap.size + 1 + 1, 2, none⟩) (by show w.heap.size ≤ w.heap.size + 1 + 1; omega) _
    refine bodyPost_ret (results_ct rfl _ _ (w.heap.size + 1 + 1) 28 _ (0, 0) _ rfl hZ8 Try.underlying28 rfl (by kernel_rfl)) rfl ?_
    exact ⟨_, rfl, ⟨_, _, _, _, _, _, rfl, hc0, hc1, hc2, Kd.F_mono (Kd.F_below HX0.out hB8) (fun k hk => .inl hk.1), Kd.F_mono (Kd.F_below HX1.out hB8) (fun k hk => .inl hk.1), Kd.F_mono (Kd.F_below HX2.out hB8) (fun k hk => .inl hk.1)⟩, hB8⟩
  | true =>
    have H2 := HR.out
    rw [if_pos rfl] at H2
    by_cases hL : L.length < 8796093022207
    case neg => rw [if_neg hL] at H2; cases H2
    rw [if_pos hL] at H2
    simp only [Option.some.injEq, Prod.mk.injEq] at H2
    obtain ⟨hr0, rfl, rfl, rfl⟩ := H2
    have HR0 := Aside0.mk hr0
    have HLL := Aside0.mk hL
    clear hr0 hL
    have hcq0 := (blk_cell HQ7.out 0).trans rfl
    have hcq1 := (blk_cell HQ7.out 1).trans rfl
    have hcq2 := (blk_cell HQ7.out 2).trans rfl
    go_wp2_with fail
    refine (waits26 A0 c0 L W7 (Kd.F_now (Kd.F_below HX0.out HB7.out)) hc0 (by have := HLL.out; omega)).mono ?_
    rintro e W8 ⟨g, rfl, hr8, hb8⟩
    have HR8 := Aside0.mk hr8
    have HB8 := Aside0.mk hb8
    have HP8 := Aside0.mk (blk_below HP7.out HB8.out)
    have hcp0 := (blk_cell HP8.out 0).trans rfl
    have hcp1 := (blk_cell HP8.out 1).trans rfl
    clear hcq0 hcq1 hcq2 hr8 hb8
    go_wp2_with fail
    refine (Push27 W7.heap.size g L p0 p1 W8 HR8.out HLL.out HB8.out.size).mono ?_
    rintro e W9 ⟨rfl, hr9, hb9⟩
    rw [HR0.out] at hr9
    obtain ⟨v9, h91, hge9, h93⟩ := hr9
    obtain ⟨A9, c9, rfl⟩ := Kd.R_slice h93
    have HB9 := Aside0.mk (below_drew (show Below W7.heap.size W7 W9 from HB8.out.trans hb9))
    have HG9 := Aside0.mk (blk_drew h91)
    have HN9 := Aside0.mk (blk_below HN7.out HB9.out)
    have HZ9 := Aside0.mk (blk_below HZ7.out HB9.out)
    have HC9 := Aside0.mk (Kd.R_reads' h93).2.1
    have HF0 := Aside0.mk (Kd.F_drew (Kd.R_F (Kd.R_bound h93)))
    have HF1 := Aside0.mk (Kd.F_below HG40.out HB9.out)
    have HF2 := Aside0.mk (Kd.F_below HG41.out HB9.out)
    have HBW := Aside0.mk (below_step HB7.out HB9.out)
    have hcg0 := (blk_cell HG9.out 0).trans rfl
    have hcn0 := (blk_cell HN9.out 0).trans rfl
    have hcn1 := (blk_cell HN9.out 1).trans rfl
    have hZW := blk_lt HZ7.out
    clear hcp0 hcp1 h91 h93 hb9
    go_wp2_with fail
    refine start_ (n := 8) (S := fun w' => w'.cell? ⟨g, 0, none⟩ = some (.slice A9 r0.length c9) ∧ w'.cell? ⟨gb, 0, none⟩ = some (.slice A40 b1.length c40) ∧ w'.cell? ⟨gb, 1, none⟩ = some (.slice A41 b2.length c41)) (ds := [6]) #[false, false, false, false, false, false, false, false] (by kernel_rfl) rfl rfl ⟨hcg0, hcn0, hcn1⟩ (fun hHeld => ?_)
    generalize W9.drew = W10 at HB9 HG9 HN9 HZ9 HF0 HF1 HF2 HBW hHeld ⊢
    refine pure_ (i := 0) (N := some 32) (v := ?_) (a' := ?_) #[true, false, false, false, false, false, false, false] rfl rfl (by kernel_rfl) (fun _ _ _ h => h) (Or.inl ⟨by rfl, ?_⟩) ?_ ?_
    rotate_left
    · intro w'
      go_simp
      with_reducible rfl
    rotate_left
    · simp only [Act.put, List.setIfInBounds_toArray, List.set_cons_zero, List.set_cons_succ, i64_w, i32_w]
      rfl
    refine pure_ (i := 1) (N := some 33) (v := ?_) (a' := ?_) #[true, true, false, false, false, false, false, false] rfl rfl (by kernel_rfl) (fun _ _ _ h => h) (Or.inl ⟨by rfl, ?_⟩) ?_ ?_
    rotate_left
    · intro w'
      go_simp
      with_reducible rfl
    rotate_left
    · simp only [Act.put, List.setIfInBounds_toArray, List.set_cons_zero, List.set_cons_succ, i64_w, i32_w]
      rfl
    refine pure_ (i := 2) (N := some 34) (v := ?_) (a' := ?_) #[true, true, true, false, false, false, false, false] rfl rfl (by kernel_rfl) (fun _ _ _ h => h) (Or.inl ⟨by rfl, ?_⟩) ?_ ?_
    rotate_left
    · intro w'
      go_simp
      with_reducible rfl
    rotate_left
    · simp only [Act.put, List.setIfInBounds_toArray, List.set_cons_zero, List.set_cons_succ, i64_w, i32_w]
      rfl
    refine take_ (i := 3) (N := some 35) (v := ?_) (a' := ?_) #[true, true, true, true, false, false, false, false] rfl rfl (by kernel_rfl) (fun _ _ _ h => h) (Or.inl ⟨by rfl, ?_⟩) hHeld ?_ ?_
    rotate_left
    · rintro w' ⟨s0, s1, s2⟩
      go_simp
      with_reducible rfl
    rotate_left
    · simp only [Act.put, List.setIfInBounds_toArray, List.set_cons_zero, List.set_cons_succ, i64_w, i32_w]
      rfl
    refine take_ (i := 4) (N := some 36) (v := ?_) (a' := ?_) #[true, true, true, true, true, false, false, false] rfl rfl (by kernel_rfl) (fun _ _ _ h => h) (Or.inl ⟨by rfl, ?_⟩) hHeld ?_ ?_
    rotate_left
    · rintro w' ⟨s0, s1, s2⟩
      go_simp
      with_reducible rfl
    rotate_left
    · simp only [Act.put, List.setIfInBounds_toArray, List.set_cons_zero, List.set_cons_succ, i64_w, i32_w]
      rfl
    refine pure_ (i := 5) (N := some 37) (v := ?_) (a' := ?_) #[true, true, true, true, true, true, false, false] rfl rfl (by kernel_rfl) (fun _ _ _ h => h) (Or.inl ⟨by rfl, ?_⟩) ?_ ?_
    rotate_left
    · intro w'
      go_simp
      with_reducible rfl
    rotate_left
    · simp only [Act.put, List.setIfInBounds_toArray, List.set_cons_zero, List.set_cons_succ, i64_w, i32_w]
      rfl
    refine last_ (i := 6) (N := none) #[true, true, true, true, true, true, true, false] rfl rfl (by kernel_rfl) (by decide) (fun K hK => ?_)
    have hs0 := (blk_cell HZ9.out 0).trans rfl
    have hs1 := (blk_cell HZ9.out 1).trans rfl
    have hs2 := (blk_cell HZ9.out 2).trans rfl
    have hf0 := blk_frozen HZ9.out 0
    have hf1 := blk_frozen HZ9.out 1
    have hf2 := blk_frozen HZ9.out 2
    refine skip_ (w1 := ?_) (by rfl) rfl ?_ ?_
    rotate_left
    · go_simp
      rfl
    refine hK.out _ _ ?_
    clear hK K
    refine pure_ (i := 7) (N := some 5) (v := ?_) (a' := ?_) #[true, true, true, true, true, true, true, true] rfl rfl (by kernel_rfl) (fun _ _ _ h => h) (Or.inl ⟨by rfl, ?_⟩) ?_ ?_
    rotate_left
    · intro w'
      go_simp
      with_reducible rfl
    rotate_left
    · simp only [Act.put, List.setIfInBounds_toArray, List.set_cons_zero, List.set_cons_succ, i64_w, i32_w]
      rfl
    refine done_ (by kernel_rfl) ?_

    go_wp2_with fail
    have hZ8 := blk_put (cs := #[.slice A9 r0.length c9, .slice A40 b1.length c40, .slice none 0 0]) (blk_put (cs := #[.slice A9 r0.length c9, .slice none 0 0, .slice none 0 0]) (blk_put (cs := #[.slice none 0 0, .slice none 0 0, .slice none 0 0]) HZ9.out 0 (.slice A9 r0.length c9) rfl) 1 (.slice A40 b1.length c40) rfl) 2 (.slice A41 b2.length c41) rfl
    have hBf : Below w.heap.size w (((W10.setCell ⟨w.heap.size + 1 + 1, 0, none⟩ (.slice A9 r0.length c9)).setCell ⟨w.heap.size + 1 + 1, 1, none⟩ (.slice A40 b1.length c40)).setCell ⟨w.heap.size + 1 + 1, 2, none⟩ (.slice A41 b2.length c41)) :=
      ((HBW.out.setCell (p := ⟨w.heap.size + 1 + 1, 0, none⟩) (by show w.heap.size ≤ w.heap.size + 1 + 1; omega) _).setCell (p := ⟨w.heap.size + 1 + 1, 1, none⟩) (by show w.heap.size ≤ w.heap.size + 1 + 1; omega) _).setCell (p := ⟨w.heap.size + 1 + 1, 2, none⟩) (by show w.heap.size ≤ w.heap.size + 1 + 1; omega) _
    refine bodyPost_ret (results_ct rfl _ _ (w.heap.size + 1 + 1) 28 _ (0, 0) _ rfl hZ8 Try.underlying28 rfl (by kernel_rfl)) rfl ?_
    have h0 : ∀ k, (k ≠ g ∧ W7.heap.size ≤ k ∧ k < W9.heap.size ∧ ∃ q, q ∈ 30 :: k30.E ∧ ∃ cells, W9.heap[k]? = some (.cells cells q (0, 0))) → k ≠ w.heap.size + 1 + 1 := fun k hk => by have := hk.2.1; omega
    have h1 : ∀ k, (OkP ok w.heap.size k ∧ k ≠ gb) → k ≠ w.heap.size + 1 + 1 := fun k hk => hk.1.ne2
    refine ⟨_, rfl, ⟨_, _, _, _, _, _, rfl, HC9.out, HC40.out, HC41.out, ?_, ?_, ?_⟩, hBf⟩
    · exact Kd.F_mono (Kd.F_far (p := ⟨w.heap.size + 1 + 1, 2, none⟩) (Kd.F_far (p := ⟨w.heap.size + 1 + 1, 1, none⟩) (Kd.F_far (p := ⟨w.heap.size + 1 + 1, 0, none⟩) HF0.out h0 _) h0 _) h0 _) (fun k hk => .inr (by have := hk.2.1; omega))
    · exact Kd.F_mono (Kd.F_far (p := ⟨w.heap.size + 1 + 1, 2, none⟩) (Kd.F_far (p := ⟨w.heap.size + 1 + 1, 1, none⟩) (Kd.F_far (p := ⟨w.heap.size + 1 + 1, 0, none⟩) HF1.out h1 _) h1 _) h1 _) (fun k hk => hk.1.out)
    · exact Kd.F_mono (Kd.F_far (p := ⟨w.heap.size + 1 + 1, 2, none⟩) (Kd.F_far (p := ⟨w.heap.size + 1 + 1, 1, none⟩) (Kd.F_far (p := ⟨w.heap.size + 1 + 1, 0, none⟩) HF2.out h1 _) h1 _) h1 _) (fun k hk => hk.1.out)
end Go.Proofs.Ytfjgfkokhnpbcaa.U
