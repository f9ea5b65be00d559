/- hash.place: a key's place goes into the first slot that is free. -/
import Derived.Test.YtfjgfkokhnpbcaaHa
import Derived.Test.YtfjgfkokhnpbcaaUx0
import Derived.Test.YtfjgfkokhnpbcaaUx2
namespace Go.Proofs.Ytfjgfkokhnpbcaa.U
open Go.RowKit Go.Shelf Go.Proofs.YtfjgfkokhnpbcaaW.PrintWords Go.Proofs.YtfjgfkokhnpbcaaW.PrintLast Go.Proofs.YtfjgfkokhnpbcaaW.PrintMore

attribute [local go_sem] Oper.semAt_some
set_option linter.unusedVariables false
set_option linter.unusedSimpArgs false

theorem snoc_of {α : Type} {l : List α} (h : 0 < l.length) : ∃ ini x, l = ini ++ [x] :=
  ⟨l.dropLast, l.getLast (by intro e; subst e; simp at h), (List.dropLast_concat_getLast _).symm⟩
theorem box_keeps {W W' : World} {b : Nat} {t : TypeId} {v : Value} {row : Option Nat} (h : Boxed W b t v) (hg : W.grownBy W' row) (hr : ∀ r, row = some r → ∃ o : Obj, W.heap[r]? = some o ∧ o.isCells = false) : Boxed W' b t v :=
  h.kept hg (fun e => by obtain ⟨o, ho, hc⟩ := hr b e.symm; rw [show W.heap[b]? = _ from h] at ho; cases ho; cases hc)
theorem box_far {W : World} {b : Nat} {t : TypeId} {v : Value} (h : Boxed W b t v) {p : Addr} (hne : b ≠ p.block) (u : Value) : Boxed (W.setCell p u) b t v := (Below.heap_setCell W p u b hne).trans h
theorem R_reok {α : Type} {d : Kd α} {e base : Nat} {ok ok1 : Nat → Prop} {W : World} {v : Value} {xs : List α} (hE : d.E = []) (h : Kd.R d e W base ok1 v xs) (hok : ∀ k, v.ownBlock = some k → ok k) : Kd.R d e W base ok v xs :=
  ⟨hok, h.2.imp_ fun p c hp => d.M_mono (fun k hk => by
    obtain ⟨_, _, _, q, hq, _⟩ := hk
    rw [hE] at hq
    cases hq) (d.M_bound hp)⟩
theorem R_keeps {α : Type} {d : Kd α} (hE : d.E = []) {e base : Nat} {ok : Nat → Prop} {W W' : World} {v : Value} {xs : List α} {row : Option Nat} (h : Kd.R d e W base ok v xs) (hg : W.grownBy W' row) (hr : ∀ r, row = some r → ∃ o : Obj, W.heap[r]? = some o ∧ o.isCells = false) : Kd.R d e W' base ok v xs :=
  Kd.R_mono (Kd.R_grown (R_reok hE h (ok := fun k => some k = v.ownBlock) (fun _ hk => hk.symm)) hg (fun k hk e' => by
    obtain ⟨o, ho, hc⟩ := hr k e'.symm
    obtain ⟨cells, hcl⟩ := Kd.R_typed h k hk.symm
    rw [hcl] at ho; cases ho; cases hc)) (fun k hk => h.1 k hk.symm)

/-- From the j-th slot on, of m: the first that is free bears v. -/
def placeL (l : List Int) (h : Nat) (v : Int) : Nat → Nat → List Int
  | 0, _ => l
  | m + 1, j => if rd l (((h + j) % l.length : Nat) : Int) = 0 then l.set ((h + j) % l.length) v else placeL l h v m (j + 1)
theorem placeL_none {l : List Int} {h : Nat} {v : Int} : ∀ (m j : Nat), (∀ i, j ≤ i → i < j + m → rd l (((h + i) % l.length : Nat) : Int) ≠ 0) → placeL l h v m j = l
  | 0, _, _ => rfl
  | m + 1, j, hh => by rw [placeL, if_neg (hh j (by omega) (by omega))]; exact placeL_none m (j + 1) (fun i h1 h2 => hh i (by omega) (by omega))
theorem placeL_at {l : List Int} {h : Nat} {v : Int} {i : Nat} (hi : rd l (((h + i) % l.length : Nat) : Int) = 0) : ∀ (m j : Nat), j ≤ i → i < j + m → (∀ q, j ≤ q → q < i → rd l (((h + q) % l.length : Nat) : Int) ≠ 0) → placeL l h v m j = l.set ((h + i) % l.length) v
  | 0, j, h1, h2, _ => absurd h2 (by omega)
  | m + 1, j, h1, h2, hn => by
    rw [placeL]
    by_cases e1 : j = i
    · subst e1; rw [if_pos hi]
    · rw [if_neg (hn j (Nat.le_refl _) (by omega))]
      exact placeL_at hi m (j + 1) (by omega) (by omega) (fun q h3 h4 => hn q (by omega) h4)
def hash_place.f (k : Nat) (l0 : List Int) (l1 : List Int) (a2 : Int) : Option (List Int) :=
  if 0 < l0.length then (if l0.length ≤ 4611686018427387904 then (hash_Hash.f k l1).bind fun h => if 0 ≤ h then (if h < 4294967296 then some (placeL l0 h.toNat (wrap64 (a2 + 1)) l0.length 0) else none) else none else none) else none
theorem hash_place.mono : ∀ l0 l1 a2 k, LeO (hash_place.f k l0 l1 a2) (hash_place.f (k + 1) l0 l1 a2) := fun l0 l1 a2 k =>
  LeO.ite (LeO.ite (LeO.bind (hash_Hash.mono l1 k) (fun _ => LeO.refl _)) (LeO.refl _)) (LeO.refl _)

set_option maxRecDepth 100000 in
set_option maxHeartbeats 4000000 in
theorem hash_place.calls (k : Nat) (P0_ : Nat → Prop) (u9000_ : Value) (l0 : List Int) (A1 : Option Addr) (c1 : Nat) (l1 : List Int) (a2 : Int) (r : List Int) (w0 w : World) (hB : Below w0.heap.size w0 w) (ho0 : Kd.R (Kd.int .i64) 3 w w0.heap.size P0_ u9000_ l0) (hr1 : ∀ W_, Kept w W_ (fun k_ => P0_ k_) → Kd.C (Kd.int .i64) W_ A1 l1.length l1) (hc1 : l1.length ≤ c1) (h : hash_place.f k l0 l1 a2 = some r) :
    Calls Try.prog 42 #[u9000_, .slice A1 l1.length c1, .int .i64 a2] w fun e w' => e = .returned (.tuple #[]) ∧ Kd.R (Kd.int .i64) 3 w' w0.heap.size (fun k_ => (P0_ k_ ∨ w.heap.size ≤ k_)) u9000_ r ∧ Below w0.heap.size w0 w' ∧ Kept w w' (fun k_ => P0_ k_) := by
  replace hr1 := hr1 w (Kept.refl w _)
  unfold hash_place.f at h
  by_cases h0 : 0 < l0.length
  case neg => rw [if_neg h0] at h; cases h
  rw [if_pos h0] at h
  by_cases h1 : l0.length ≤ 4611686018427387904
  case neg => rw [if_neg h1] at h; cases h
  rw [if_pos h1] at h
  replace h := Option.bind_eq_some_iff.mp h
  obtain ⟨hz, hk, h⟩ := h
  by_cases h2 : 0 ≤ hz
  case neg => rw [if_neg h2] at h; cases h
  rw [if_pos h2] at h
  by_cases h3 : hz < 4294967296
  case neg => rw [if_neg h3] at h; cases h
  rw [if_pos h3] at h
  obtain ⟨hh, rfl⟩ : ∃ q : Nat, hz = (q : Int) := ⟨hz.toNat, by omega⟩
  rw [Int.toNat_natCast] at h
  have hfin := Aside0.mk (Option.some.inj h)
  have HK := Aside0.mk hk
  clear h hk
  obtain ⟨g, c0, eg, gb, gl, gc⟩ := Kd.R_form ho0 h0
  subst eg
  have hP0 : P0_ g := ho0.1 g rfl
  refine callsIn_wide.1 (callsIn_of_wp_marks (F := Fence.wide) (n := 3) Try.func42 rfl trivial ?_ rfl)
  refine wpIn_wide.2 ?_
  simp only [Try.ntmps42, List.size_toArray, List.length_cons, List.length_nil, Nat.reduceAdd, Nat.reduceSub, Array.replicate_succ, Array.replicate_zero, List.push_toArray, List.append_toArray, List.nil_append, List.cons_append]
  go_wp2_with (go_at_call 50; refine (round50 _ _ _ _ _).mono ?_; rintro e w10 ⟨rfl, rfl⟩)
  have hB1 : Below w.heap.size w ((((w.alloc (.cells #[.slice (some ⟨g, 0, none⟩) l0.length c0] 24)).alloc (.cells #[.int .i64 a2] 3)).alloc (.cells #[.slice A1 l1.length c1] 24)).alloc (.cells #[.int .i64 (l0.length : Int)] 3)) :=
    below_alloc (below_alloc (below_alloc (below_alloc (Below.refl _ _) _) _) _) _
  have b3 := (((Boxed.new w 24 (.slice (some ⟨g, 0, none⟩) l0.length c0)).alloc (.cells #[.int .i64 a2] 3)).alloc (.cells #[.slice A1 l1.length c1] 24)).alloc (.cells #[.int .i64 (l0.length : Int)] 3)
  have b5 := ((Boxed.new (w.alloc (.cells #[.slice (some ⟨g, 0, none⟩) l0.length c0] 24)) 3 (.int .i64 a2)).alloc (.cells #[.slice A1 l1.length c1] 24)).alloc (.cells #[.int .i64 (l0.length : Int)] 3)
  have bK := (Boxed.new ((w.alloc (.cells #[.slice (some ⟨g, 0, none⟩) l0.length c0] 24)).alloc (.cells #[.int .i64 a2] 3)) 24 (.slice A1 l1.length c1)).alloc (.cells #[.int .i64 (l0.length : Int)] 3)
  have bZ := Boxed.new (((w.alloc (.cells #[.slice (some ⟨g, 0, none⟩) l0.length c0] 24)).alloc (.cells #[.int .i64 a2] 3)).alloc (.cells #[.slice A1 l1.length c1] 24)) 3 (.int .i64 (l0.length : Int))
  simp only [World.size_alloc] at b5 bK bZ
  obtain ⟨W0, hW0⟩ : ∃ W0, ((((w.alloc (.cells #[.slice (some ⟨g, 0, none⟩) l0.length c0] 24)).alloc (.cells #[.int .i64 a2] 3)).alloc (.cells #[.slice A1 l1.length c1] 24)).alloc (.cells #[.int .i64 (l0.length : Int)] 3)) = W0 := ⟨_, rfl⟩
  have hsz : W0.heap.size = w.heap.size + 4 := by rw [← hW0]; simp
  rw [hW0] at hB1 b3 b5 bK bZ ⊢
  have hgl : g < w.heap.size := Kd.R_lt ho0 g rfl
  have hR0 : Kd.R (Kd.int .i64) 3 W0 w0.heap.size (fun k => k = g) (.slice (some ⟨g, 0, none⟩) l0.length c0) l0 := Kd.R_below (R_reok rfl ho0 (fun k hk => by simpa [Value.ownBlock] using hk.symm)) hB1
  have hBB : Below w0.heap.size w0 W0 := below_step hB hB1
  have hKK : Kept w W0 (fun k_ => P0_ k_) := Kept.of_below hB1 _
  refine (wpIn_wide (n := 3)).1 (wpIn_rangeFunc_ownG (n := 3) rfl (by omega) (gf := 54) (lb := #[.pointer (some ⟨w.heap.size + 1 + 1, 0, none⟩), .pointer (some ⟨w.heap.size + 1 + 1 + 1, 0, none⟩)]) rfl trivial (enters_of Try.func54 (by kernel_rfl) rfl)
    (round55_stops (3 - 1) (by omega) (w.heap.size + 1 + 1) (w.heap.size + 1 + 1 + 1) l0.length hh h0 h1 (by omega) A1 c1 l1 k HK.out hc1 W0 bK.cell (Kd.C_below hr1 hB1) bZ.cell) (fun h k x => k (h x)) (fun W l o o' hl h ho _ hk => ?kp) (Below.refl _ _) (fun _ => rfl)
    (fun pre W => (Boxed W w.heap.size 24 (.slice (some ⟨g, 0, none⟩) l0.length c0) ∧ Boxed W (w.heap.size + 1) 3 (.int .i64 a2) ∧ Kd.R (Kd.int .i64) 3 W w0.heap.size (fun k => k = g) (.slice (some ⟨g, 0, none⟩) l0.length c0) l0 ∧ (∀ x ∈ pre, rd l0 ((x : Bn l0.length).1 : Int) ≠ 0)) ∧ Below w0.heap.size w0 W ∧ Kept w W (fun k_ => P0_ k_))
    (fun c pre W => (c = .ret ∧ ∃ (ini : List (Bn l0.length)) (x : Bn l0.length), pre = ini ++ [x] ∧ (∀ y ∈ ini, rd l0 ((y : Bn l0.length).1 : Int) ≠ 0) ∧ rd l0 (x.1 : Int) = 0 ∧ Kd.R (Kd.int .i64) 3 W w0.heap.size (fun k => k = g) (.slice (some ⟨g, 0, none⟩) l0.length c0) (l0.set x.1 (wrap64 (a2 + 1)))) ∧ Below w0.heap.size w0 W ∧ Kept w W (fun k_ => P0_ k_))
    ?own ?ownx ⟨⟨b3, b5, hR0, fun x hx => by cases hx⟩, hBB, hKK⟩
    (fun x => { tmps := #[.slice (some ⟨g, 0, none⟩) l0.length c0, .slice A1 l1.length c1, .int .i64 a2, .pointer (some ⟨w.heap.size, 0, none⟩), undef, .pointer (some ⟨w.heap.size + 1, 0, none⟩), .int .i64 (x.1 : Int), .slice A1 l1.length c1, .slice (some ⟨g, 0, none⟩) l0.length c0, .int .i64 (l0.length : Int), .func (.func 54) #[] #[.pointer (some ⟨w.heap.size + 1 + 1, 0, none⟩), .pointer (some ⟨w.heap.size + 1 + 1 + 1, 0, none⟩)], .int .i64 (x.1 : Int), undef, undef, undef, undef, undef, undef, undef, undef, undef, undef], defers := [] })
    ?assign ?body ?done ?stop)
  case kp => exact _root_.Go.cell_kept hk (grownBy_putObj' W l o') (fun r e => by cases e; exact ⟨o, h, ho⟩)
  case own =>
    intro pre X Y row hs hg hr
    obtain ⟨⟨b3, b5, hR, hne⟩, hB, hK⟩ := hs
    have hr2 : ∀ r, row = some r → ∃ o : Obj, X.heap[r]? = some o ∧ o.isCells = false := fun r e => (hr r e).2
    exact ⟨⟨box_keeps b3 hg hr2, box_keeps b5 hg hr2, R_keeps rfl hR hg hr2, hne⟩, (ownFrom_below (Nat.le_refl _) (by omega)) pre X Y row hB hg hr, Kept.of_grown hg hK (fun k hk => .inr (by have := (hr k hk).1; omega))⟩
  case ownx =>
    intro c pre X Y row hs hg hr
    obtain ⟨⟨hc, ini, x, hp, hn, hx, hR⟩, hB, hK⟩ := hs
    have hr2 : ∀ r, row = some r → ∃ o : Obj, X.heap[r]? = some o ∧ o.isCells = false := fun r e => (hr r e).2
    exact ⟨⟨hc, ini, x, hp, hn, hx, R_keeps rfl hR hg hr2⟩, (ownFrom_below (Nat.le_refl _) (by omega)) pre X Y row hB hg hr, Kept.of_grown hg hK (fun k hk => .inr (by have := (hr k hk).1; omega))⟩
  case assign =>
    intro l x W K hK
    gi_wp2
    exact hK
  case body =>
    clear b3 b5 bK bZ hR0 hBB hKK
    rintro l pre x W ⟨⟨b3, b5, hR, hne⟩, hB, hK⟩ hlen
    have hx := x.2
    obtain ⟨hcg, hfg⟩ := Kd.R_celln 0 hR (x.1 : Int) (by omega) (by omega)
    have hP := Kd.R_putn hR (x.1 : Int) (wrap64 (a2 + 1))
    rw [Int.toNat_natCast] at hcg hfg hP
    replace hcg : W.cell? ⟨g, x.1, none⟩ = some (.int .i64 (rd l0 (x.1 : Int))) := hcg
    have hc3 := b3.cell
    have hc5 := b5.cell
    have hxm : (x.1 : Int) < (l0.length : Int) := by omega
    have hx0 : (0 : Int) ≤ (x.1 : Int) := by omega
    have HN := Aside0.mk hne
    have HP := Aside0.mk hP
    have HR := Aside0.mk hR
    have HB := Aside0.mk hB
    have HKP := Aside0.mk hK
    have HO := Aside0.mk ho0
    have HB0 := Aside0.mk hB1
    clear hne hP hR hB hK ho0 hB1 hW0
    by_cases hz : rd l0 (x.1 : Int) = 0
    · have hz2 : (rd l0 (x.1 : Int) == 0) = true := by simp [hz]
      gi_wp2
      refine ⟨(KeepsOthers.setCell _ _ _).from _, ⟨rfl, pre, x, rfl, HN.out, hz, HP.out⟩, HB.out.setCell (p := ⟨g, x.1, none⟩) gb _, HKP.out.setCell (p := ⟨g, x.1, none⟩) (.inl hP0) _⟩
    · have hz2 : (rd l0 (x.1 : Int) == 0) = false := by simp [hz]
      gi_wp2
      refine ⟨KeepsFrom.refl _ _, fun hk => hk, ⟨b3, b5, HR.out, fun y hy => ?_⟩, HB.out, HKP.out⟩
      rcases List.mem_append.1 hy with hy | hy
      · exact HN.out y hy
      · rw [List.mem_singleton.1 hy]; exact hz
  case done =>
    rintro D ys W hD hys ⟨⟨k3, k5, hR, hne⟩, hB, hK2⟩ hK
    go_wp2
    have hfr : l0 = r := by
      rw [← hfin.out]
      refine (placeL_none l0.length 0 (fun i _ hi => ?_)).symm
      have hm : (hh + i) % l0.length ∈ ys.map (fun p : Bn l0.length => p.1) := by rw [hys]; exact List.mem_map.2 ⟨i, List.mem_range.2 (by omega), rfl⟩
      obtain ⟨y, hy, hye⟩ := List.mem_map.1 hm
      rw [← hye]
      exact hne y hy
    rw [← hfr]
    have hg := grownBy_putObj' W D (.deferred none)
    have hgr : ∀ r, some D = some r → ∃ o : Obj, W.heap[r]? = some o ∧ o.isCells = false := fun r e => by cases e; exact ⟨_, hK, rfl⟩
    refine ⟨by simp, .inl ⟨_, _, rfl, run_takeDeferred hK, ?_⟩⟩
    exact ⟨_, results_none rfl _ _ _, rfl, Kd.R_mono (R_keeps rfl hR hg hgr) (fun k hk => .inl (by rw [hk]; exact hP0)), hB.trans (belowK_b (w := w0) (Nat.le_refl _) W D _ _ (by have := hB.size; have := hBB.size; omega) hK rfl rfl), Kept.of_grown hg hK2 (fun k e => .inr (by cases e; omega))⟩
  case stop =>
    rintro D c pre W hD hpre ⟨⟨rfl, ini, x, rfl, hn, hx, hR⟩, hB, hK2⟩ hK
    gi_wp2
    have hfr : l0.set x.1 (wrap64 (a2 + 1)) = r := by
      rw [← hfin.out]
      rw [List.map_append, List.length_append, List.length_singleton, ring_succ] at hpre
      obtain ⟨h4, h5⟩ := List.append_inj' hpre rfl
      have h5 : x.1 = (hh + ini.length) % l0.length := by simpa using h5
      have hlen : ini.length < l0.length ∨ l0.length ≤ ini.length := by omega
      have hnz : ∀ q, q < ini.length → rd l0 (((hh + q) % l0.length : Nat) : Int) ≠ 0 := fun q hq => by
        have hm : (hh + q) % l0.length ∈ ini.map (fun p : Bn l0.length => p.1) := by rw [h4]; exact List.mem_map.2 ⟨q, List.mem_range.2 hq, rfl⟩
        obtain ⟨y, hy, hye⟩ := List.mem_map.1 hm
        rw [← hye]
        exact hn y hy
      rcases hlen with hlen | hlen
      · rw [h5] at hx ⊢
        exact (placeL_at hx l0.length 0 (Nat.zero_le _) (by omega) (fun q _ hq => hnz q hq)).symm
      · refine absurd hx ?_
        have h6 : (hh + ini.length) % l0.length = (hh + ini.length % l0.length) % l0.length := by rw [Nat.add_mod, Nat.add_mod hh (ini.length % l0.length), Nat.mod_mod]
        rw [h5, h6]
        exact hnz _ (Nat.lt_of_lt_of_le (Nat.mod_lt _ h0) hlen)
    rw [← hfr]
    have hg := grownBy_putObj' W D (.deferred none)
    have hgr : ∀ r, some D = some r → ∃ o : Obj, W.heap[r]? = some o ∧ o.isCells = false := fun r e => by cases e; exact ⟨_, hK, rfl⟩
    refine ⟨by simp, .inl ⟨_, _, rfl, run_takeDeferred hK, ?_⟩⟩
    exact ⟨_, results_none rfl _ _ _, rfl, Kd.R_mono (R_keeps rfl hR hg hgr) (fun k hk => .inl (by rw [hk]; exact hP0)), hB.trans (belowK_b (w := w0) (Nat.le_refl _) W D _ _ (by have := hB.size; have := hBB.size; omega) hK rfl rfl), Kept.of_grown hg hK2 (fun k e => .inr (by cases e; omega))⟩
end Go.Proofs.Ytfjgfkokhnpbcaa.U
