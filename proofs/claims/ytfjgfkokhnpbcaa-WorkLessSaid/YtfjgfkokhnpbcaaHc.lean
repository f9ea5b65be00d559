/- hash.Find: where a key stands. -/
import Derived.Outline
import Derived.Sort.CutIn
import Derived.Deep.DeepCutAuto
import Derived.Deep.CutBlock
import Derived.Test.YtfjgfkokhnpbcaaHb
import Derived.Test.YtfjgfkokhnpbcaaHq
import Derived.Test.YtfjgfkokhnpbcaaUx0
import Derived.Test.YtfjgfkokhnpbcaaUx2
import Derived.Test.YtfjgfkokhnpbcaaUx3
namespace Go.Proofs.Ytfjgfkokhnpbcaa.U
open Go.RowKit Go.Shelf Go.Proofs.YtfjgfkokhnpbcaaW.PrintWords Go.Proofs.YtfjgfkokhnpbcaaW.PrintLast Go.Proofs.YtfjgfkokhnpbcaaW.PrintMore Go.Proofs.YtfjgfkokhnpbcaaR

attribute [local go_sem] Oper.semAt_some
set_option linter.unusedVariables false
set_option linter.unusedSimpArgs false

/-- The place that a slot tells. -/
def nAt (slots : List Int) (x : Nat) : Int := wrap64 (rd slots (x : Int) - 1)
/-- Is slot x free, or does it bear the key's place? -/
def hits (k : Nat) (keys : List (List Int)) (slots key : List Int) (x : Nat) : Bool :=
  decide (nAt slots x < 0) || (slices_Equal_int_int.f k (rd_L1 keys (nAt slots x)) key == some true)
/-- From the j-th slot on, of m: the first that is free, or bears the key's place. -/
def findL (k : Nat) (keys : List (List Int)) (slots key : List Int) (h : Nat) : Nat → Nat → Int
  | 0, _ => -1
  | m + 1, j => if hits k keys slots key ((h + j) % slots.length) = true then nAt slots ((h + j) % slots.length) else findL k keys slots key h m (j + 1)
theorem findL_none {k : Nat} {keys : List (List Int)} {slots key : List Int} {h : Nat} : ∀ (m j : Nat), (∀ i, j ≤ i → i < j + m → hits k keys slots key ((h + i) % slots.length) = false) → findL k keys slots key h m j = -1
  | 0, _, _ => rfl
  | m + 1, j, hh => by rw [findL, hh j (by omega) (by omega), if_neg (by decide)]; exact findL_none m (j + 1) (fun i h1 h2 => hh i (by omega) (by omega))
theorem findL_at {k : Nat} {keys : List (List Int)} {slots key : List Int} {h i : Nat} (hi : hits k keys slots key ((h + i) % slots.length) = true) : ∀ (m j : Nat), j ≤ i → i < j + m → (∀ q, j ≤ q → q < i → hits k keys slots key ((h + q) % slots.length) = false) → findL k keys slots key h m j = nAt slots ((h + i) % slots.length)
  | 0, j, h1, h2, _ => absurd h2 (by omega)
  | m + 1, j, h1, h2, hn => by
    rw [findL]
    by_cases e1 : j = i
    · subst e1; rw [if_pos hi]
    · rw [hn j (Nat.le_refl _) (by omega), if_neg (by decide)]
      exact findL_at hi m (j + 1) (by omega) (by omega) (fun q h3 h4 => hn q (by omega) h4)
/-- All slots tell places that are there, and all comparisons come to an end. -/
def okF (k : Nat) (keys : List (List Int)) (slots key : List Int) : Bool :=
  slots.all (fun s => decide (wrap64 (s - 1) < (keys.length : Int))) && keys.all (fun q => (slices_Equal_int_int.f k q key).isSome)
def hash_Find.f (k : Nat) (l0_0 : List (List Int)) (l0_1 : List Int) (l1 : List Int) : Option Int :=
  if l0_1.length = 0 then some (-1) else (if l0_1.length ≤ 4611686018427387904 then (if okF k l0_0 l0_1 l1 = true then (hash_Hash.f k l1).bind fun h => if 0 ≤ h then (if h < 4294967296 then some (findL k l0_0 l0_1 l1 h.toNat l0_1.length 0) else none) else none else none) else none)
theorem equal_step {k : Nat} {q key : List Int} (h : (slices_Equal_int_int.f k q key).isSome = true) : slices_Equal_int_int.f (k + 1) q key = slices_Equal_int_int.f k q key := by
  obtain ⟨b, hb⟩ := Option.isSome_iff_exists.1 h
  rw [hb]
  exact slices_Equal_int_int.mono q key k _ hb
theorem okF_keys {k : Nat} {keys : List (List Int)} {slots key : List Int} (h : okF k keys slots key = true) {q : List Int} (hq : q ∈ keys) : (slices_Equal_int_int.f k q key).isSome = true :=
  (List.all_eq_true.1 ((Bool.and_eq_true _ _ ▸ h).2)) q hq
theorem okF_slots {k : Nat} {keys : List (List Int)} {slots key : List Int} (h : okF k keys slots key = true) {x : Nat} (hx : x < slots.length) : nAt slots x < (keys.length : Int) := by
  have h2 := (List.all_eq_true.1 ((Bool.and_eq_true _ _ ▸ h).1)) (slots[x]) (List.getElem_mem hx)
  have h3 : rd slots (x : Int) = slots[x] := by unfold rd; rw [List.getD_eq_getElem?_getD, Int.toNat_natCast, List.getElem?_eq_getElem hx]; rfl
  unfold nAt
  rw [h3]
  exact of_decide_eq_true h2
theorem rdL1_mem {keys : List (List Int)} {i : Int} (h0 : 0 ≤ i) (h1 : i < keys.length) : rd_L1 keys i ∈ keys := by
  unfold rd_L1
  have : i.toNat < keys.length := by omega
  rw [List.getD_eq_getElem?_getD, List.getElem?_eq_getElem this]
  exact List.getElem_mem _
theorem okF_step {k : Nat} {keys : List (List Int)} {slots key : List Int} (h : okF k keys slots key = true) : okF (k + 1) keys slots key = true := by
  unfold okF at h ⊢
  rw [Bool.and_eq_true] at h ⊢
  refine ⟨h.1, List.all_eq_true.2 (fun q hq => ?_)⟩
  have := (List.all_eq_true.1 h.2) q hq
  rw [equal_step this]; exact this
theorem hits_step {k : Nat} {keys : List (List Int)} {slots key : List Int} (h : okF k keys slots key = true) {x : Nat} (hx : x < slots.length) : hits (k + 1) keys slots key x = hits k keys slots key x := by
  unfold hits
  by_cases h0 : nAt slots x < 0
  · simp [h0]
  · rw [equal_step (okF_keys h (rdL1_mem (by omega) (okF_slots h hx)))]
theorem findL_step {k : Nat} {keys : List (List Int)} {slots key : List Int} (h : okF k keys slots key = true) (hl : 0 < slots.length) (hh : Nat) : ∀ (m j : Nat), findL (k + 1) keys slots key hh m j = findL k keys slots key hh m j
  | 0, _ => rfl
  | m + 1, j => by rw [findL, findL, hits_step h (Nat.mod_lt _ hl), findL_step h hl hh m (j + 1)]
theorem hash_Find.mono : ∀ l0_0 l0_1 l1 k, LeO (hash_Find.f k l0_0 l0_1 l1) (hash_Find.f (k + 1) l0_0 l0_1 l1) := fun l0_0 l0_1 l1 k => by
  unfold hash_Find.f
  refine LeO.ite (LeO.refl _) ?_
  by_cases hz : l0_1.length = 0
  · have : ¬ (0 < l0_1.length) := by omega
    intro r hr
    by_cases h1 : l0_1.length ≤ 4611686018427387904
    · rw [if_pos h1] at hr ⊢
      by_cases hk : okF k l0_0 l0_1 l1 = true
      · rw [if_pos hk] at hr
        rw [if_pos (okF_step hk)]
        rw [hz] at hr ⊢
        exact (LeO.bind (hash_Hash.mono l1 k) (fun h => LeO.refl _)) r hr
      · rw [if_neg hk] at hr; cases hr
    · rw [if_neg h1] at hr; cases hr
  · refine LeO.ite ?_ (LeO.refl _)
    intro r hr
    by_cases hk : okF k l0_0 l0_1 l1 = true
    · rw [if_pos hk] at hr
      rw [if_pos (okF_step hk)]
      simp only [findL_step hk (by omega : 0 < l0_1.length)]
      exact (LeO.bind (hash_Hash.mono l1 k) (fun h => LeO.refl _)) r hr
    · rw [if_neg hk] at hr; cases hr
theorem kf_drewN (B : Nat) (W : World) (m : Nat) : KeepsFrom B W (W.drewN m) := ⟨Nat.le_refl _, fun k o _ hk _ => hk⟩
def FMiss (k : Nat) (keys : List (List Int)) (slots key : List Int) (pre : List (Bn slots.length)) : Prop := ∀ x ∈ pre, hits k keys slots key x.1 = false
def FHit (k : Nat) (keys : List (List Int)) (slots key : List Int) (pre : List (Bn slots.length)) (g : Nat) (W : World) : Prop := ∃ (ini : List (Bn slots.length)) (x : Bn slots.length), pre = ini ++ [x] ∧ (∀ y ∈ ini, hits k keys slots key y.1 = false) ∧ hits k keys slots key x.1 = true ∧ Boxed W g 3 (.int .i64 (nAt slots x.1))
theorem find_results {tmps : Array Value} {W : World} {g : Nat} {r : Int} (ht : tmps.getD 4 undef = .pointer (some ⟨g, 0, none⟩)) (hb : Boxed W g 3 (.int .i64 r)) : (results Try.f37 tmps).run Try.prog W = .ok (.int .i64 r) W := by
  have hu3 := Try.underlying3
  have hc := hb.cell
  have ht' : tmps[4]?.getD undef = .pointer (some ⟨g, 0, none⟩) := by simpa using ht
  simp [results, show Try.f37.results = #[.cell 4 3] from rfl, go_sem, ht', hu3, hc]
set_option maxRecDepth 100000 in
set_option maxHeartbeats 4000000 in
theorem hash_Find.calls (k : Nat) (A0_0 : Option Addr) (c0_0 : Nat) (l0_0 : List (List Int)) (A0_1 : Option Addr) (c0_1 : Nat) (l0_1 : List Int) (A1 : Option Addr) (c1 : Nat) (l1 : List Int) (r : Int) (w : World) (hr0_0 : Kd.C (Kd.slice 3 (Kd.int .i64)) w A0_0 l0_0.length l0_0) (hc0_0 : l0_0.length ≤ c0_0) (hr0_1 : Kd.C (Kd.int .i64) w A0_1 l0_1.length l0_1) (hc0_1 : l0_1.length ≤ c0_1) (hr1 : Kd.C (Kd.int .i64) w A1 l1.length l1) (hc1 : l1.length ≤ c1) (h : hash_Find.f k l0_0 l0_1 l1 = some r) :
    Calls Try.prog 37 #[.agg #[.slice A0_0 l0_0.length c0_0, .slice A0_1 l0_1.length c0_1], .slice A1 l1.length c1] w fun e w' => e = .returned (.int .i64 r) ∧ Below w.heap.size w w' := by
  have hu26 := Try.underlying26
  have HR00 := Aside0.mk hr0_0
  have HR01 := Aside0.mk hr0_1
  have HR1 := Aside0.mk hr1
  clear hr0_0 hr0_1 hr1
  unfold hash_Find.f at h
  refine callsIn_wide.1 (callsIn_of_wp_marks (F := Fence.wide) (n := 3) Try.func37 rfl trivial ?_ rfl)
  refine wpIn_wide.2 ?_
  simp only [Try.ntmps37, List.size_toArray, List.length_cons, List.length_nil, Nat.reduceAdd, Nat.reduceSub, Array.replicate_succ, Array.replicate_zero, List.push_toArray, List.append_toArray, List.nil_append, List.cons_append]
  by_cases hz : l0_1.length = 0
  · rw [if_pos hz] at h
    obtain rfl := Option.some.inj h
    have hz2 : ((l0_1.length : Int) == 0) = true := by simp [hz]
    go_wp2
    refine ⟨_, find_results (g := w.heap.size + 1 + 1) (r := -1) rfl ?_, rfl, below_alloc (below_alloc (below_alloc (Below.refl _ _) _) _) _⟩
    have := Boxed.new ((w.alloc (.cells #[.slice A0_0 l0_0.length c0_0, .slice A0_1 0 c0_1] 26)).alloc (.cells #[.slice A1 l1.length c1] 24)) 3 (.int .i64 (-1))
    simpa using this
  · have hz2 : ((l0_1.length : Int) == 0) = false := beq_eq_false_iff_ne.mpr (by omega)
    rw [if_neg hz] at h
    by_cases h1 : l0_1.length ≤ 4611686018427387904
    case neg => rw [if_neg h1] at h; cases h
    rw [if_pos h1] at h
    by_cases hok : okF k l0_0 l0_1 l1 = true
    case neg => rw [if_neg hok] at h; cases h
    rw [if_pos hok] at h
    replace h := Option.bind_eq_some_iff.mp h
    obtain ⟨hzz, hk, h⟩ := h
    by_cases h2 : 0 ≤ hzz
    case neg => rw [if_neg h2] at h; cases h
    rw [if_pos h2] at h
    by_cases h3 : hzz < 4294967296
    case neg => rw [if_neg h3] at h; cases h
    rw [if_pos h3] at h
    obtain ⟨hh, rfl⟩ : ∃ q : Nat, hzz = (q : Int) := ⟨hzz.toNat, by omega⟩
    rw [Int.toNat_natCast] at h
    have H := Aside0.mk (Option.some.inj h)
    have HOK := Aside0.mk hok
    have HK := Aside0.mk hk
    clear h hk hok
    go_wp2_with (go_at_call 50; refine (round50 _ _ _ _ _).mono ?_; rintro e w10 ⟨rfl, rfl⟩)
    have hB1 : Below w.heap.size w (((((w.alloc (.cells #[.slice A0_0 l0_0.length c0_0, .slice A0_1 l0_1.length c0_1] 26)).alloc (.cells #[.slice A1 l1.length c1] 24)).alloc (.cells #[.int .i64 0] 3)).alloc (.cells #[.slice A1 l1.length c1] 24)).alloc (.cells #[.int .i64 (l0_1.length : Int)] 3)) := below_alloc (below_alloc (below_alloc (below_alloc (below_alloc (Below.refl _ _) _) _) _) _) _
    have bT : (((((w.alloc (.cells #[.slice A0_0 l0_0.length c0_0, .slice A0_1 l0_1.length c0_1] 26)).alloc (.cells #[.slice A1 l1.length c1] 24)).alloc (.cells #[.int .i64 0] 3)).alloc (.cells #[.slice A1 l1.length c1] 24)).alloc (.cells #[.int .i64 (l0_1.length : Int)] 3)).heap[w.heap.size]? = some (.cells #[.slice A0_0 l0_0.length c0_0, .slice A0_1 l0_1.length c0_1] 26 (0, 0)) := by
      have h0 : (w.alloc (.cells #[.slice A0_0 l0_0.length c0_0, .slice A0_1 l0_1.length c0_1] 26)).heap[w.heap.size]? = some (.cells #[.slice A0_0 l0_0.length c0_0, .slice A0_1 l0_1.length c0_1] 26 (0, 0)) := World.alloc_heap_new w _
      exact blk_below h0 (below_alloc (below_alloc (below_alloc (below_alloc (Below.refl _ _) _) _) _) _)
    have b3 := (((Boxed.new (w.alloc (.cells #[.slice A0_0 l0_0.length c0_0, .slice A0_1 l0_1.length c0_1] 26)) 24 (.slice A1 l1.length c1)).alloc (.cells #[.int .i64 0] 3)).alloc (.cells #[.slice A1 l1.length c1] 24)).alloc (.cells #[.int .i64 (l0_1.length : Int)] 3)
    have b4 := ((Boxed.new ((w.alloc (.cells #[.slice A0_0 l0_0.length c0_0, .slice A0_1 l0_1.length c0_1] 26)).alloc (.cells #[.slice A1 l1.length c1] 24)) 3 (.int .i64 0)).alloc (.cells #[.slice A1 l1.length c1] 24)).alloc (.cells #[.int .i64 (l0_1.length : Int)] 3)
    have bK := (Boxed.new (((w.alloc (.cells #[.slice A0_0 l0_0.length c0_0, .slice A0_1 l0_1.length c0_1] 26)).alloc (.cells #[.slice A1 l1.length c1] 24)).alloc (.cells #[.int .i64 0] 3)) 24 (.slice A1 l1.length c1)).alloc (.cells #[.int .i64 (l0_1.length : Int)] 3)
    have bZ := Boxed.new ((((w.alloc (.cells #[.slice A0_0 l0_0.length c0_0, .slice A0_1 l0_1.length c0_1] 26)).alloc (.cells #[.slice A1 l1.length c1] 24)).alloc (.cells #[.int .i64 0] 3)).alloc (.cells #[.slice A1 l1.length c1] 24)) 3 (.int .i64 (l0_1.length : Int))
    simp only [World.size_alloc] at b3 b4 bK bZ
    obtain ⟨W0, hW0⟩ : ∃ W0, (((((w.alloc (.cells #[.slice A0_0 l0_0.length c0_0, .slice A0_1 l0_1.length c0_1] 26)).alloc (.cells #[.slice A1 l1.length c1] 24)).alloc (.cells #[.int .i64 0] 3)).alloc (.cells #[.slice A1 l1.length c1] 24)).alloc (.cells #[.int .i64 (l0_1.length : Int)] 3)) = W0 := ⟨_, rfl⟩
    have hsz : W0.heap.size = w.heap.size + 5 := by rw [← hW0]; simp
    rw [hW0] at hB1 bT b3 b4 bK bZ ⊢
    clear hW0
    refine (wpIn_wide (n := 3)).1 (wpIn_rangeFunc_ownG (n := 3) rfl (by omega) (gf := 54) (lb := #[.pointer (some ⟨w.heap.size + 1 + 1 + 1, 0, none⟩), .pointer (some ⟨w.heap.size + 1 + 1 + 1 + 1, 0, none⟩)]) rfl trivial (enters_of Try.func54 (by kernel_rfl) rfl)
      (round55_stops (3 - 1) (by omega) (w.heap.size + 1 + 1 + 1) (w.heap.size + 1 + 1 + 1 + 1) l0_1.length hh (by omega) h1 (by omega) A1 c1 l1 k HK.out hc1 W0 bK.cell (Kd.C_below HR1.out hB1) bZ.cell) (fun h k x => k (h x)) (fun W l o o' hl h ho _ hk => ?kp) (Below.refl _ _) (fun _ => rfl)
      (fun pre W => (W.heap[w.heap.size]? = some (.cells #[.slice A0_0 l0_0.length c0_0, .slice A0_1 l0_1.length c0_1] 26 (0, 0)) ∧ Boxed W (w.heap.size + 1) 24 (.slice A1 l1.length c1) ∧ Boxed W (w.heap.size + 1 + 1) 3 (.int .i64 0) ∧ FMiss k l0_0 l0_1 l1 pre) ∧ Below w.heap.size w W)
      (fun c pre W => (c = .ret ∧ FHit k l0_0 l0_1 l1 pre (w.heap.size + 1 + 1) W) ∧ Below w.heap.size w W)
      ?own ?ownx ⟨⟨bT, b3, b4, fun x hx => by cases hx⟩, hB1⟩
      (fun x => { tmps := #[.agg #[.slice A0_0 l0_0.length c0_0, .slice A0_1 l0_1.length c0_1], .slice A1 l1.length c1, .pointer (some ⟨w.heap.size, 0, none⟩), .pointer (some ⟨w.heap.size + 1, 0, none⟩), .pointer (some ⟨w.heap.size + 1 + 1, 0, none⟩), .int .i64 (x.1 : Int), undef, .pointer (some ⟨w.heap.size, 1, none⟩), .slice A0_1 l0_1.length c0_1, .int .i64 (l0_1.length : Int), .bool false, .slice A1 l1.length c1, .pointer (some ⟨w.heap.size, 1, none⟩), .slice A0_1 l0_1.length c0_1, .int .i64 (l0_1.length : Int), .func (.func 54) #[] #[.pointer (some ⟨w.heap.size + 1 + 1 + 1, 0, none⟩), .pointer (some ⟨w.heap.size + 1 + 1 + 1 + 1, 0, none⟩)], .int .i64 (x.1 : Int), undef, undef, undef, undef, undef, undef, undef, undef, undef, undef, undef, undef, undef, undef, undef, undef, undef, undef], defers := [] })
      ?assign ?body ?done ?stop)
    case kp => exact _root_.Go.cell_kept hk (grownBy_putObj' W l o') (fun r e => by cases e; exact ⟨o, h, ho⟩)
    case own =>
      intro pre X Y row hs hg hr
      obtain ⟨⟨hT, b3, b4, hne⟩, hB⟩ := hs
      have hr2 : ∀ r, row = some r → ∃ o : Obj, X.heap[r]? = some o ∧ o.isCells = false := fun r e => (hr r e).2
      exact ⟨⟨(hg.block _ (blk_lt hT) (fun e => by obtain ⟨o, ho, hc⟩ := hr2 _ e.symm; rw [hT] at ho; cases ho; cases hc)).trans hT, box_keeps b3 hg hr2, box_keeps b4 hg hr2, hne⟩, (ownFrom_below (Nat.le_refl _) (by omega)) pre X Y row hB hg hr⟩
    case ownx =>
      intro c pre X Y row hs hg hr
      obtain ⟨⟨hc, ini, x, hp, hn, hx, hR⟩, hB⟩ := hs
      have hr2 : ∀ r, row = some r → ∃ o : Obj, X.heap[r]? = some o ∧ o.isCells = false := fun r e => (hr r e).2
      exact ⟨⟨hc, ini, x, hp, hn, hx, box_keeps hR hg hr2⟩, (ownFrom_below (Nat.le_refl _) (by omega)) pre X Y row hB hg hr⟩
    case assign =>
      intro l x W K hK
      gi_wp2
      exact hK
    case done =>
      rintro D ys W hD hys ⟨⟨hT, k3, k4, hne⟩, hB⟩ hK
      have hc4 := k4.cell
      have hf4 := k4.frozen
      go_wp2
      have hfr : r = -1 := by
        rw [← H.out]
        refine findL_none l0_1.length 0 (fun i _ hi => ?_)
        have hm : (hh + i) % l0_1.length ∈ ys.map (fun p : Bn l0_1.length => p.1) := by rw [hys]; exact List.mem_map.2 ⟨i, List.mem_range.2 (by omega), rfl⟩
        obtain ⟨y, hy, hye⟩ := List.mem_map.1 hm
        rw [← hye]
        exact hne y hy
      have hK' : (W.setCell ⟨w.heap.size + 1 + 1, 0, none⟩ (.int .i64 (-1))).heap[D]? = some (.deferred (some [])) := (Below.heap_setCell W _ _ D (by show D ≠ w.heap.size + 1 + 1; omega)).trans hK
      refine ⟨by simp, .inl ⟨_, _, rfl, run_takeDeferred hK', ?_⟩⟩
      refine ⟨_, find_results (g := w.heap.size + 1 + 1) (r := -1) rfl ?_, by rw [hfr], ?_⟩
      · exact box_keeps (k4.set _) (grownBy_putObj' _ D _) (fun r e => by cases e; exact ⟨_, hK', rfl⟩)
      · exact (hB.setCell (p := ⟨w.heap.size + 1 + 1, 0, none⟩) (by show w.heap.size ≤ w.heap.size + 1 + 1; omega) _).trans (belowK_b (w := w) (Nat.le_refl _) _ D _ _ (by omega) hK' rfl rfl)
    case stop =>
      rintro D c pre W hD hpre ⟨⟨rfl, ini, x, rfl, hn, hx, hR⟩, hB⟩ hK
      gi_wp2
      have hfr : nAt l0_1 x.1 = r := by
        rw [← H.out]
        rw [List.map_append, List.length_append, List.length_singleton, ring_succ] at hpre
        obtain ⟨h4, h5⟩ := List.append_inj' hpre rfl
        have h5 : x.1 = (hh + ini.length) % l0_1.length := by simpa using h5
        have hlen : ini.length < l0_1.length ∨ l0_1.length ≤ ini.length := by omega
        have hnz : ∀ q, q < ini.length → hits k l0_0 l0_1 l1 ((hh + q) % l0_1.length) = false := fun q hq => by
          have hm : (hh + q) % l0_1.length ∈ ini.map (fun p : Bn l0_1.length => p.1) := by rw [h4]; exact List.mem_map.2 ⟨q, List.mem_range.2 hq, rfl⟩
          obtain ⟨y, hy, hye⟩ := List.mem_map.1 hm
          rw [← hye]
          exact hn y hy
        rcases hlen with hlen | hlen
        · rw [h5] at hx ⊢
          exact (findL_at hx l0_1.length 0 (Nat.zero_le _) (by omega) (fun q _ hq => hnz q hq)).symm
        · have h6 : (hh + ini.length) % l0_1.length = (hh + ini.length % l0_1.length) % l0_1.length := by rw [Nat.add_mod, Nat.add_mod hh (ini.length % l0_1.length), Nat.mod_mod]
          rw [h5, h6, hnz _ (Nat.lt_of_lt_of_le (Nat.mod_lt _ (by omega)) hlen)] at hx
          cases hx
      refine ⟨by simp, .inl ⟨_, _, rfl, run_takeDeferred hK, ?_⟩⟩
      refine ⟨_, find_results (g := w.heap.size + 1 + 1) (r := nAt l0_1 x.1) rfl ?_, by rw [hfr], hB.trans (belowK_b (w := w) (Nat.le_refl _) W D _ _ (by omega) hK rfl rfl)⟩
      exact box_keeps hR (grownBy_putObj' _ D _) (fun r e => by cases e; exact ⟨_, hK, rfl⟩)
    case body =>
      clear bT b3 b4 bK bZ hB1
      rintro l pre x W ⟨⟨hT, b3, b4, hne⟩, hB⟩ hlen
      have hx := x.2
      obtain ⟨ads, rfl, hl0⟩ := Kd.at_int HR01.out (x.1 : Int) (by omega) (by omega)
      have hl1 := pw_cell_below hB hl0
      rw [Int.toNat_natCast] at hl1
      clear hl0
      have hcK : W.cell? ⟨w.heap.size, 0, none⟩ = some (.slice A0_0 l0_0.length c0_0) := by simp [World.cell?, hT]
      have hcS : W.cell? ⟨w.heap.size, 1, none⟩ = some (.slice (some ads) l0_1.length c0_1) := by simp [World.cell?, hT]
      have hc3 := b3.cell
      have hc4 := b4.cell
      have hf4 := b4.frozen
      have hxm : (x.1 : Int) < (l0_1.length : Int) := by omega
      have hx0 : (0 : Int) ≤ (x.1 : Int) := by omega
      have HN := Aside0.mk hne
      have HB := Aside0.mk hB
      have HT := Aside0.mk hT
      have hnk := okF_slots HOK.out hx
      unfold nAt at hnk
      have HSZ := Aside0.mk hsz
      clear hne hB hT hsz
      by_cases hn0 : wrap64 (rd l0_1 (x.1 : Int) - 1) < 0
      · have hnb : decide (wrap64 (rd l0_1 (x.1 : Int) - 1) < 0) = true := decide_eq_true hn0
        dsimp only
        gi_upto_region 6 with (fail)
        refine quiet_round (by kernel_rfl) (by kernel_rfl) (by kernel_rfl) ?hno ?_
        case hno => rintro ⟨a, w, h⟩; exact h
        repeat (quiet_step (fail))
        refine wpQuiet_nil ?_
        intro _ hw'
        obtain ⟨nq, hw''⟩ := hw'
        subst hw''
        gi_wp2
        refine ⟨(kf_drewN _ W nq).trans ((KeepsOthers.setCell (W.drewN nq) _ _).from _), ⟨rfl, pre, x, rfl, HN.out, ?_, (show Boxed (W.drewN nq) (w.heap.size + 1 + 1) 3 (.int .i64 0) from b4).set _⟩, (pw_below_drewN HB.out nq).setCell (p := ⟨w.heap.size + 1 + 1, 0, none⟩) (by show w.heap.size ≤ w.heap.size + 1 + 1; omega) _⟩
        unfold hits nAt
        rw [hnb]; rfl
      · have hnb : decide (wrap64 (rd l0_1 (x.1 : Int) - 1) < 0) = false := decide_eq_false hn0
        have hn1 : 0 ≤ wrap64 (rd l0_1 (x.1 : Int) - 1) := by omega
        obtain ⟨b, hb⟩ := Option.isSome_iff_exists.1 (okF_keys HOK.out (rdL1_mem hn1 hnk))
        obtain ⟨adk, Ak, ck, rfl, hkc, hkl, hkr⟩ := at_L1 HR00.out (wrap64 (rd l0_1 (x.1 : Int) - 1)) hn1 hnk
        have hkc1 := pw_cell_below HB.out hkc
        have HKR := Aside0.mk (Kd.C_below hkr HB.out)
        have HKL := Aside0.mk hkl
        have H1 := Aside0.mk (Kd.C_below HR1.out HB.out)
        have HBE := Aside0.mk hb
        clear hkr hkc hkl hb
        have hh1 : hits k l0_0 l0_1 l1 x.1 = b := by
          unfold hits nAt
          rw [hnb, HBE.out]
          cases b <;> rfl
        have HH1 := Aside0.mk hh1
        clear hh1
        dsimp only
        gi_upto_region 6 with (fail)
        refine quiet_round (by kernel_rfl) (by kernel_rfl) (by kernel_rfl) ?hno ?_
        case hno => rintro ⟨a, w, h⟩; exact h
        repeat (quiet_step (first | (go_at_call 48; (with_reducible refine (slices_Equal_int_int.calls k _ _ (rd_L1 l0_0 (wrap64 (rd l0_1 (x.1 : Int) - 1))) _ _ l1 b _ ?side1 ?side2 ?side3 ?side4 HBE.out).mono ?_); (case side1 => exact Kd.C_drewN HKR.out _); (case side2 => exact HKL.out); (case side3 => exact Kd.C_drewN H1.out _); (case side4 => exact hc1); rintro e w' ⟨rfl, ⟨nd, rfl⟩⟩; exact ⟨rfl, _, World.drewN_drewN _ _ _⟩)))
        refine wpQuiet_nil ?_
        intro _ hw'
        obtain ⟨nq, hw''⟩ := hw'
        subst hw''
        cases b with
        | true =>
          gi_wp2
          refine ⟨(kf_drewN _ W nq).trans ((KeepsOthers.setCell (W.drewN nq) _ _).from _), ⟨rfl, pre, x, rfl, HN.out, ?_, (show Boxed (W.drewN nq) (w.heap.size + 1 + 1) 3 (.int .i64 0) from b4).set _⟩, (pw_below_drewN HB.out nq).setCell (p := ⟨w.heap.size + 1 + 1, 0, none⟩) (by show w.heap.size ≤ w.heap.size + 1 + 1; omega) _⟩
          exact HH1.out
        | false =>
          gi_wp2
          refine ⟨kf_drewN _ W nq, fun hk => hk, ⟨HT.out, b3, b4, fun y hy => ?_⟩, pw_below_drewN HB.out nq⟩
          rcases List.mem_append.1 hy with hy | hy
          · exact HN.out y hy
          · rw [List.mem_singleton.1 hy]; exact HH1.out
end Go.Proofs.Ytfjgfkokhnpbcaa.U
