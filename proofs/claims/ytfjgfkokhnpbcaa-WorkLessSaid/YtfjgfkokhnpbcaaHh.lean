/- hash.Put: keeps a key: slices.Clip, an append onto a slice that has no room, and the walk. -/
import Derived.ArgAppend
import Derived.Outline
import Derived.Deep.QuietTactic
import Derived.BigQuiet
import Derived.Sort.CutIn
import Derived.Deep.DeepCutAuto
import Derived.Deep.CutBlock
import Derived.Test.YtfjgfkokhnpbcaaHc
import Derived.Test.YtfjgfkokhnpbcaaHd
import Derived.Test.YtfjgfkokhnpbcaaUx0
import Derived.Test.YtfjgfkokhnpbcaaUx2
import Derived.Test.YtfjgfkokhnpbcaaUx3
namespace Go.Proofs.Ytfjgfkokhnpbcaa.U
open Go.RowKit Go.Proofs.YtfjgfkokhnpbcaaW.PrintWords Go.Proofs.YtfjgfkokhnpbcaaW.PrintLast Go.Proofs.YtfjgfkokhnpbcaaW.PrintMore
set_option linter.unusedVariables false
set_option linter.unusedSimpArgs false

/-- An append of one element onto a slice that has no room: the elements are read anew; what they lead to is what it was, and what is new. -/
theorem append_full {α : Type} (d : Kd α) {P : Program} {ops : Array Oper} {rest : List Oper} {o : Oper} {a : Act} {Q : Exit → Act → World → Prop} (w : World) (ok : Nat → Prop)
    (hg : o.guard = none) (s x : Operand) (t e : TypeId) (z : Value) (bytes : Nat) (hop : o.op = Op.call { callee := Callee.builtin Builtin.append, args := #[s, x], argTypes := #[t, t] })
    (h1 : P.underlying t = some (.slice e)) (hinfo : (P.info? e).map (fun i => (i.zero, i.size, i.bytes)) = some (some z, d.sz, bytes)) (hz : z.cells.size = d.sz) (hs0 : 0 < d.sz)
    (A : Option Addr) (n : Nat) (xs : List α) (hs : a.eval s = .slice A n n) (HF : d.F w ok A n xs) (ad : Addr) (c : Nat) (p : α) (cs : List Value) (hx : a.eval x = .slice (some ad) 1 c) (hK : d.FK w ok p cs)
    (hc : ∀ j u, cs[j]? = some u → w.cell? (ad.add j) = some u) (b1 : n + 1 ≤ maxLen) (b2 : (n + 1) * bytes ≤ 140737488355328)
    (h : ∀ A1 c1 w1, n + 1 ≤ c1 → d.F w1 (fun k => ok k ∨ w.heap.size ≤ k) A1 (n + 1) (xs ++ [p]) → Below w.heap.size w w1 → wpList P ops Q rest (a.put o.dst (.slice A1 (n + 1) c1)) w1) :
    wpList P ops Q (o :: rest) a w := by
  obtain ⟨i0, hi, hzz⟩ := Option.map_eq_some_iff.1 hinfo
  simp only [Prod.mk.injEq] at hzz
  obtain ⟨hz0, hz1, hz2⟩ := hzz
  have hl := d.K_len (Kd.FK_now hK)
  have hl1 : cs.length = 1 * d.sz := by omega
  have HC := Kd.F_now HF
  have HR := Kd.F_rows HF
  have fin : ∀ olds, Reps (fun x c => d.FK w ok x c) d.sz xs olds → ∀ v' w', w'.ownsRow w.heap.size e d.sz v' (n + 1) (olds ++ cs) → w.grownBy w' none → wpList P ops Q rest (a.put o.dst v') w' := by
    intro olds ho v' w' h3 h4
    have hxl : xs.length = n := HC.1
    have h5 : Reps (fun x c => d.FK w ok x c) d.sz (xs ++ [p]) (olds ++ cs) := ho.snoc hK hl
    obtain ⟨A1, c1, rfl, h6⟩ := own_reads_row h3 h5 (by simp [hxl])
    have hb : Below w.heap.size w w' := (Below.refl _ _).grown h4 (Nat.le_refl _) (fun k e => by cases e)
    refine h A1 c1 w' (own_le h3) (fun W' hW => ?_) hb
    have h7 := own_move (w1 := W') h3 (fun k hk => hW k (.inr (own_base h3 k hk)) (own_lt h3 k hk))
    have h8 : Reps (fun x c => d.K W' x c) d.sz (xs ++ [p]) (olds ++ cs) := h5.imp_ (fun q c hq => hq W' (fun k hk hlt => (hW k (.inl hk) (Nat.lt_of_lt_of_le hlt hb.size)).trans (hb.block k hlt)))
    obtain ⟨A2, c2, e2, h9⟩ := own_reads_row h7 h8 (by simp [hxl])
    injection e2 with e2 _ _
    subst e2
    exact h9
  cases A with
  | none =>
    have hn : n = 0 := by
      rcases Nat.eq_zero_or_pos n with h0 | h0
      · exact h0
      · obtain ⟨q, hq, _⟩ := HC.2.2 h0; cases hq
    subst hn
    have hx0 : xs = [] := List.eq_nil_of_length_eq_zero HC.1
    subst hx0
    exact wpList_append_grows w hg s x t hop e i0 z d.sz bytes h1 hi hz0 hz1 hz2 hz hs0 none 0 0 [] hs (fun _ => ⟨rfl, rfl⟩) (by simp) (fun b e => by cases e) ad 1 c cs hx hl1 hc (d.K_one (Kd.FK_now hK)) (by omega) b1 b2
      (fin [] (Reps.none _ _))
  | some b =>
    obtain ⟨olds, ho, hoc⟩ := ReadsRow.inner_ HR
    exact wpList_append_grows w hg s x t hop e i0 z d.sz bytes h1 hi hz0 hz1 hz2 hz hs0 (some b) n n olds hs (fun e => by cases e) (by rw [ho.1, HC.1]) (fun b' e => by cases e; exact hoc) ad 1 c cs hx hl1 hc (d.K_one (Kd.FK_now hK)) (by omega) b1 b2
      (fin olds ho)
set_option maxHeartbeats 1000000 in
theorem clip40 (A : Option Addr) (n c : Nat) (w : World) (hc : n ≤ c) (hm : n ≤ 9223372036854775807) : Calls Try.prog 39 #[.slice A n c] w fun e w' => e = .returned (.slice A n n) ∧ w = w' := by
  have hcc : (n : Int) ≤ (c : Int) := by omega
  go_enter Try.func39, Try.ntmps39
  go_wp2
  go_ret
  exact ⟨by simp [sliced], rfl⟩
/-- What was there and was told, and what is new but for two blocks. -/
def OkN (ok : Nat → Prop) (n : Nat) (k : Nat) : Prop := (ok k ∧ k < n) ∨ n + 2 ≤ k
theorem OkN.ne0 {ok : Nat → Prop} {n k : Nat} (h : OkN ok n k) : k ≠ n := by rcases h with h | h <;> omega
theorem OkN.ne1 {ok : Nat → Prop} {n k : Nat} (h : OkN ok n k) : k ≠ n + 1 := by rcases h with h | h <;> omega
theorem OkN.out {ok : Nat → Prop} {n k : Nat} (h : OkN ok n k) : ok k ∨ n ≤ k := h.elim (fun h => .inl h.1) (fun h => .inr (by omega))
/-- A table in memory, as it reads, and where it lies. -/
def TF (ok : Nat → Prop) (w : World) (v : Value) (keys : List (List Int)) (slots : List Int) : Prop := ∃ A0 c0 A1 c1, v = .agg #[.slice A0 keys.length c0, .slice A1 slots.length c1] ∧ keys.length ≤ c0 ∧ slots.length ≤ c1 ∧ Kd.F (Kd.slice 3 (Kd.int .i64)) w ok A0 keys.length keys ∧ Kd.F (Kd.int .i64) w ok A1 slots.length slots
/-- A table in memory, as it reads. -/
def TKeyed (w : World) (v : Value) (keys : List (List Int)) (slots : List Int) : Prop := ∃ A0 c0 A1 c1, v = .agg #[.slice A0 keys.length c0, .slice A1 slots.length c1] ∧ keys.length ≤ c0 ∧ slots.length ≤ c1 ∧ Kd.C (Kd.slice 3 (Kd.int .i64)) w A0 keys.length keys ∧ Kd.C (Kd.int .i64) w A1 slots.length slots
theorem TF.keyed {ok : Nat → Prop} {w : World} {v : Value} {keys : List (List Int)} {slots : List Int} (h : TF ok w v keys slots) : TKeyed w v keys slots := by
  obtain ⟨A0, c0, A1, c1, e, h1, h2, h3, h4⟩ := h
  exact ⟨A0, c0, A1, c1, e, h1, h2, Kd.F_now h3, Kd.F_now h4⟩
def hash_Put.f (k : Nat) (l0_0 : List (List Int)) (l0_1 : List Int) (l1 : List Int) : Option (List (List Int) × List Int × Int × Bool) :=
  (hash_Find.f k l0_0 l0_1 l1).bind fun n => if n ≥ 0 then some (l0_0, l0_1, n, false) else
    if l1.length < 17592186044416 then (if l0_0.length < 5864062014805 then (hash_Size.f k ((l0_0.length : Int) + 1)).bind fun sz =>
      if sz = (l0_1.length : Int) then (if l0_1.length < 17592186044416 then (hash_place.f k l0_1 l1 (l0_0.length : Int)).bind fun s => some (l0_0 ++ [l1], s, (l0_0.length : Int), true) else none)
      else (hash_Lay.f k (l0_0 ++ [l1])).bind fun s => some (l0_0 ++ [l1], s, (l0_0.length : Int), true)
    else none) else none
theorem hash_Put.mono : ∀ l0_0 l0_1 l1 k, LeO (hash_Put.f k l0_0 l0_1 l1) (hash_Put.f (k + 1) l0_0 l0_1 l1) := fun l0_0 l0_1 l1 k =>
  LeO.bind (hash_Find.mono l0_0 l0_1 l1 k) fun n => LeO.ite (LeO.refl _) (LeO.ite (LeO.ite (LeO.bind (hash_Size.mono _ k) fun sz => LeO.ite (LeO.ite (LeO.bind (hash_place.mono _ _ _ k) fun s => LeO.refl _) (LeO.refl _)) (LeO.bind (hash_Lay.mono _ k) fun s => LeO.refl _)) (LeO.refl _)) (LeO.refl _))
theorem infoK24 : (Try.prog.info? 24).map (fun i => (i.zero, i.size, i.bytes)) = some (some (.slice none 0 0), (Kd.slice 3 (Kd.int .i64)).sz, 24) := by kernel_rfl
def TPut (ok : Nat → Prop) (r1 : List (List Int)) (r2 : List Int) (r3 : Int) (r4 : Bool) (w : World) (e : Ending) (w' : World) : Prop := ∃ v, e = .returned (.tuple #[v, .int .i64 r3, .bool r4]) ∧ TF (fun k => ok k ∨ w.heap.size ≤ k) w' v r1 r2 ∧ Below w.heap.size w w'
set_option maxRecDepth 100000 in
set_option maxHeartbeats 4000000 in
theorem hash_Put.calls (k : Nat) (ok : Nat → Prop) (A0_0 : Option Addr) (c0_0 : Nat) (l0_0 : List (List Int)) (A0_1 : Option Addr) (c0_1 : Nat) (l0_1 : List Int) (A1 : Option Addr) (c1 : Nat) (l1 : List Int) (r1 : List (List Int)) (r2 : List Int) (r3 : Int) (r4 : Bool) (w : World)
    (hr0_0 : Kd.F (Kd.slice 3 (Kd.int .i64)) w ok A0_0 l0_0.length l0_0) (hc0_0 : l0_0.length ≤ c0_0) (hr0_1 : Kd.F (Kd.int .i64) w ok A0_1 l0_1.length l0_1) (hc0_1 : l0_1.length ≤ c0_1) (hr1 : Kd.C (Kd.int .i64) w A1 l1.length l1) (hc1 : l1.length ≤ c1) (h : hash_Put.f k l0_0 l0_1 l1 = some (r1, r2, r3, r4)) :
    Calls Try.prog 25 #[.agg #[.slice A0_0 l0_0.length c0_0, .slice A0_1 l0_1.length c0_1], .slice A1 l1.length c1] w (TPut ok r1 r2 r3 r4 w) := by
  have hu26 := Try.underlying26
  have hu24 := Try.underlying24
  have HR00 := Aside0.mk (Kd.F_now hr0_0)
  have HR01 := Aside0.mk (Kd.F_now hr0_1)
  have HX0 := Aside0.mk hr0_0
  have HX1 := Aside0.mk hr0_1
  have HR1 := Aside0.mk hr1
  have hmx := Kd.C_max (Kd.F_now hr0_0)
  clear hr0_0 hr0_1 hr1
  unfold hash_Put.f at h
  obtain ⟨n, hn, h⟩ := Option.bind_eq_some_iff.mp h
  have HN := Aside0.mk hn
  clear hn
  by_cases c1b : n ≥ 0
  · rw [if_pos c1b] at h
    simp only [Option.some.injEq, Prod.mk.injEq] at h
    obtain ⟨rfl, rfl, rfl, rfl⟩ := h
    have hd : decide (0 ≤ n) = true := decide_eq_true c1b
    clear c1b
    go_enter Try.func25, Try.ntmps25
    go_wp2_with fail
    refine (hash_Find.calls k _ _ l0_0 _ _ l0_1 _ _ l1 n _ (Kd.C_below HR00.out (below_alloc (below_alloc (Below.refl _ _) _) _)) hc0_0 (Kd.C_below HR01.out (below_alloc (below_alloc (Below.refl _ _) _) _)) hc0_1 (Kd.C_below HR1.out (below_alloc (below_alloc (Below.refl _ _) _) _)) hc1 HN.out).mono ?_
    rintro e w2 ⟨rfl, hb2⟩
    have HB2 := Aside0.mk (below_step (below_alloc (below_alloc (Below.refl _ _) _) _) hb2)
    have hT : w2.heap[w.heap.size]? = some (.cells #[.slice A0_0 l0_0.length c0_0, .slice A0_1 l0_1.length c0_1] 26 (0, 0)) := blk_below (blk_alloc (blk_new w _) _) hb2
    have hR : w2.heap[w.heap.size + 1]? = some (.cells #[.slice none 0 0, .slice none 0 0] 26 (0, 0)) := by
      have := blk_below (blk_new (w.alloc (.cells #[.slice A0_0 l0_0.length c0_0, .slice A0_1 l0_1.length c0_1] 26)) (.cells #[.slice none 0 0, .slice none 0 0] 26)) hb2
      rwa [World.size_alloc] at this
    have hcK := blk_cell hT 0
    have hcS := blk_cell hT 1
    have hrK := blk_cell hR 0
    have hrS := blk_cell hR 1
    have hfK := blk_frozen hR 0
    have hfS := blk_frozen hR 1
    have HT := Aside0.mk hT
    have HR := Aside0.mk hR
    clear hb2 hT hR
    simp only [List.getElem?_toArray, List.getElem?_cons_zero, List.getElem?_cons_succ] at hcK hcS hrK hrS
    go_wp2_with fail
    have hbe : Below w.heap.size w ((w2.setCell ⟨w.heap.size + 1, 0, none⟩ (.slice A0_0 l0_0.length c0_0)).setCell ⟨w.heap.size + 1, 1, none⟩ (.slice A0_1 l0_1.length c0_1)) :=
      (HB2.out.setCell (p := ⟨w.heap.size + 1, 0, none⟩) (by show w.heap.size ≤ w.heap.size + 1; omega) _).setCell (p := ⟨w.heap.size + 1, 1, none⟩) (by show w.heap.size ≤ w.heap.size + 1; omega) _
    refine bodyPost_ret (results_ctt rfl _ _ (w.heap.size + 1) 26 #[.slice A0_0 l0_0.length c0_0, .slice A0_1 l0_1.length c0_1] (0, 0) _ rfl (by refine blk_put (cs := #[.slice A0_0 l0_0.length c0_0, .slice none 0 0]) ?_ 1 _ rfl; refine blk_put (cs := #[.slice none 0 0, .slice none 0 0]) ?_ 0 _ rfl; exact HR.out) Try.underlying26 rfl (by kernel_rfl)) rfl ?_
    exact ⟨_, rfl, ⟨_, _, _, _, rfl, hc0_0, hc0_1, Kd.F_mono (Kd.F_below HX0.out hbe) (fun k hk => .inl hk), Kd.F_mono (Kd.F_below HX1.out hbe) (fun k hk => .inl hk)⟩, hbe⟩
  · rw [if_neg c1b] at h
    have hd : decide (0 ≤ n) = false := decide_eq_false c1b
    clear c1b
    by_cases c2 : l1.length < 17592186044416
    case neg => rw [if_neg c2] at h; cases h
    rw [if_pos c2] at h
    by_cases c3 : l0_0.length < 5864062014805
    case neg => rw [if_neg c3] at h; cases h
    rw [if_pos c3] at h
    have LM3 := Aside0.mk c3
    have HCL := Aside0.mk (show slices_Clone_int_int.f l1 = some l1 by unfold slices_Clone_int_int.f; rw [if_pos c2])
    obtain ⟨sz, hsz, h⟩ := Option.bind_eq_some_iff.mp h
    have HSZ := Aside0.mk hsz
    have H := Aside0.mk h
    clear h hsz c2 c3
    go_enter Try.func25, Try.ntmps25
    go_wp2_with fail
    refine (hash_Find.calls k _ _ l0_0 _ _ l0_1 _ _ l1 n _ (Kd.C_below HR00.out (below_alloc (below_alloc (Below.refl _ _) _) _)) hc0_0 (Kd.C_below HR01.out (below_alloc (below_alloc (Below.refl _ _) _) _)) hc0_1 (Kd.C_below HR1.out (below_alloc (below_alloc (Below.refl _ _) _) _)) hc1 HN.out).mono ?_
    rintro e w2 ⟨rfl, hb2⟩
    have HB2 := Aside0.mk (below_step (below_alloc (below_alloc (Below.refl _ _) _) _) hb2)
    have hT : w2.heap[w.heap.size]? = some (.cells #[.slice A0_0 l0_0.length c0_0, .slice A0_1 l0_1.length c0_1] 26 (0, 0)) := blk_below (blk_alloc (blk_new w _) _) hb2
    have hR : w2.heap[w.heap.size + 1]? = some (.cells #[.slice none 0 0, .slice none 0 0] 26 (0, 0)) := by
      have := blk_below (blk_new (w.alloc (.cells #[.slice A0_0 l0_0.length c0_0, .slice A0_1 l0_1.length c0_1] 26)) (.cells #[.slice none 0 0, .slice none 0 0] 26)) hb2
      rwa [World.size_alloc] at this
    have hcK := blk_cell hT 0
    have hcS := blk_cell hT 1
    have hrK := blk_cell hR 0
    have hrS := blk_cell hR 1
    have hfK := blk_frozen hR 0
    have hfS := blk_frozen hR 1
    have HT := Aside0.mk hT
    have HR := Aside0.mk hR
    clear hb2 hT hR
    simp only [List.getElem?_toArray, List.getElem?_cons_zero, List.getElem?_cons_succ] at hcK hcS hrK hrS
    go_wp2_with fail
    refine (clip40 _ _ _ _ hc0_0 hmx).mono ?_
    rintro e w3 ⟨rfl, rfl⟩
    go_wp2_with fail
    refine (slices_Clone_int_int.calls _ _ l1 l1 _ (Kd.C_below HR1.out HB2.out) hc1 HCL.out).mono ?_
    rintro e w3 ⟨v3, rfl, ho3, hb3⟩
    obtain ⟨A3, c3, rfl⟩ := Kd.R_slice ho3
    have HK3 := Aside0.mk (Kd.R_reads' ho3)
    have HF3 := Aside0.mk (Kd.F_mono (Kd.R_F (Kd.R_bound ho3)) (fun k hk => (show OkN ok w.heap.size k from .inr (by have h1 := hk.2.1; have h2 := blk_lt HR.out; omega))))
    have HB3 := Aside0.mk (below_step HB2.out hb3)
    have HT3 := Aside0.mk (blk_below HT.out hb3)
    have HR3 := Aside0.mk (blk_below HR.out hb3)
    clear hb3 ho3 hcK hcS hrK hrS hfK hfS
    have hcK := blk_cell HT3.out 0
    have hcS := blk_cell HT3.out 1
    have hfTK := blk_frozen HT3.out 0
    have hfTS := blk_frozen HT3.out 1
    have hrK := blk_cell HR3.out 0
    have hrS := blk_cell HR3.out 1
    have hfK := blk_frozen HR3.out 0
    have hfS := blk_frozen HR3.out 1
    simp only [List.getElem?_toArray, List.getElem?_cons_zero, List.getElem?_cons_succ] at hcK hcS hrK hrS
    have HBA := Aside0.mk (below_alloc HB3.out (.cells #[.slice A3 l1.length c3] 24))
    have HCA := Aside0.mk (Kd.F_below (Kd.F_mono (Kd.F_bound HX0.out) (fun k hk => (show OkN ok w.heap.size k from .inl hk))) HBA.out)
    have HKA := Aside0.mk (show (Kd.slice 3 (Kd.int .i64)).FK (w3.alloc (.cells #[.slice A3 l1.length c3] 24)) (OkN ok w.heap.size) l1 [.slice A3 l1.length c3] from fun W' hW => ⟨A3, c3, rfl, HK3.out.2.1, (Kd.F_below HF3.out (below_alloc (Below.refl _ _) _)) W' hW⟩)
    have hcell3 : (w3.alloc (.cells #[.slice A3 l1.length c3] 24)).cell? ⟨w3.heap.size, 0, none⟩ = some (.slice A3 l1.length c3) := blk_cell (blk_new _ _) 0
    have HCC := Aside0.mk (show ∀ j u, [Value.slice A3 l1.length c3][j]? = some u → (w3.alloc (.cells #[.slice A3 l1.length c3] 24)).cell? ((⟨w3.heap.size, 0, none⟩ : Addr).add j) = some u from by
      intro j u hu
      rcases j with _ | j
      · rw [add_plain]; simp only [List.getElem?_cons_zero, Option.some.injEq] at hu; subst hu; exact hcell3
      · simp at hu)
    clear hcell3
    have HSZ1 := Aside0.mk (show hash_Size.f k (wrap64 ((l0_0.length : Int) + 1)) = some sz by rw [show wrap64 ((l0_0.length : Int) + 1) = (l0_0.length : Int) + 1 by (have := LM3.out; unfold wrap64; omega)]; exact HSZ.out)
    go_upto_region 6 with ((with_reducible refine gate_builtin (b := .append) (xs := #[.tmp 20, .tmp 23]) rfl ?_); refine append_full (Kd.slice 3 (Kd.int .i64)) _ (OkN ok w.heap.size) rfl (.tmp 20) (.tmp 23) 23 24 (.slice none 0 0) 24 rfl Try.underlying23 infoK24 rfl (by decide) A0_0 l0_0.length l0_0 rfl HCA.out ⟨w3.heap.size, 0, none⟩ 1 l1 [.slice A3 l1.length c3] rfl HKA.out HCC.out ?b1 ?b2 ?_; (case b1 => (have := LM3.out; simp only [maxLen]; omega)); (case b2 => (have := LM3.out; omega)); intro A4 c4 w4 hc4 hC4 hb4; have HCK4 := Aside0.mk (Kd.F_mono hC4 (fun k hk => (show OkN ok w.heap.size k from hk.elim (fun h => h) (fun h => .inr (by have h2 := blk_lt HR3.out; simp at h; omega))))); have HC4 := Aside0.mk hc4; have HT4 := Aside0.mk (blk_below (blk_alloc HT3.out (.cells #[.slice A3 l1.length c3] 24)) hb4); have HR4 := Aside0.mk (blk_below (blk_alloc HR3.out (.cells #[.slice A3 l1.length c3] 24)) hb4); have HB4 := Aside0.mk (below_step HBA.out hb4); clear hc4 hC4 hb4 hcK hcS hrK hrS hfK hfS hfTK hfTS; have hcK := blk_cell HT4.out 0; have hcS := blk_cell HT4.out 1; have hfTK := blk_frozen HT4.out 0; have hfTS := blk_frozen HT4.out 1; have hrK := blk_cell HR4.out 0; have hrS := blk_cell HR4.out 1; have hfK := blk_frozen HR4.out 0; have hfS := blk_frozen HR4.out 1; simp only [List.getElem?_toArray, List.getElem?_cons_zero, List.getElem?_cons_succ] at hcK hcS hrK hrS)
    have HB5 := Aside0.mk (HB4.out.setCell (p := ⟨w.heap.size, 0, none⟩) (Nat.le_refl _) (.slice A4 (l0_0.length + 1) c4))
    have HT5 := Aside0.mk (blk_put (cs' := #[.slice A4 (l0_0.length + 1) c4, .slice A0_1 l0_1.length c0_1]) HT4.out 0 (.slice A4 (l0_0.length + 1) c4) rfl)
    have HR5 := Aside0.mk (blk_far HR4.out (p := ⟨w.heap.size, 0, none⟩) (by show w.heap.size + 1 ≠ w.heap.size; omega) (.slice A4 (l0_0.length + 1) c4))
    have HCK5 := Aside0.mk (Kd.F_far (p := ⟨w.heap.size, 0, none⟩) HCK4.out (fun k hk => hk.ne0) (.slice A4 (l0_0.length + 1) c4))
    generalize w4.setCell ⟨w.heap.size, 0, none⟩ (.slice A4 (l0_0.length + 1) c4) = w5 at HB5 HT5 HR5 HCK5 ⊢
    clear hcK hcS hrK hrS hfK hfS hfTK hfTS HT4 HR4 HCK4
    have hcK := blk_cell HT5.out 0
    have hcS := blk_cell HT5.out 1
    have hfTK := blk_frozen HT5.out 0
    have hfTS := blk_frozen HT5.out 1
    have hrK := blk_cell HR5.out 0
    have hrS := blk_cell HR5.out 1
    have hfK := blk_frozen HR5.out 0
    have hfS := blk_frozen HR5.out 1
    simp only [List.getElem?_toArray, List.getElem?_cons_zero, List.getElem?_cons_succ] at hcK hcS hrK hrS
    go_quiet ((go_at_call 41; (with_reducible refine (hash_Size.calls k _ sz _ HSZ1.out).mono ?_); rintro e w' ⟨rfl, ⟨nd, rfl⟩⟩; exact ⟨rfl, _, World.drewN_drewN _ _ _⟩))
    have HB6 := Aside0.mk (pw_below_drewN HB5.out nq)
    have HT6 := Aside0.mk (blk_drewN HT5.out nq)
    have HR6 := Aside0.mk (blk_drewN HR5.out nq)
    have HF6 := Aside0.mk (Kd.F_drewN HCK5.out nq)
    have LC4 := HC4.out
    generalize w5.drewN nq = w6 at HB6 HT6 HR6 HF6 ⊢
    clear hcK hcS hrK hrS hfK hfS hfTK hfTS
    have FIN : ∀ (v : Value) (w7 : World) (A7 : Option Addr) (c7 m7 : Nat) (l7 : List Int), m7 = l7.length → Below w.heap.size w w7 → w7.heap[w.heap.size + 1]? = some (.cells #[.slice none 0 0, .slice none 0 0] 26 (0, 0)) →
        (Kd.slice 3 (Kd.int .i64)).F w7 (OkN ok w.heap.size) A4 (l0_0.length + 1) (l0_0 ++ [l1]) → (Kd.int .i64).F w7 (OkN ok w.heap.size) A7 l7.length l7 → l7.length ≤ c7 →
        TPut ok (l0_0 ++ [l1]) l7 (l0_0.length : Int) true w (.returned (.tuple #[.agg #[.slice A4 (l0_0.length + 1) c4, .slice A7 m7 c7], .int .i64 (l0_0.length : Int), .bool true]))
          ((w7.setCell ⟨w.heap.size + 1, 0, none⟩ (.slice A4 (l0_0.length + 1) c4)).setCell ⟨w.heap.size + 1, 1, none⟩ (.slice A7 m7 c7)) := by
      intro v w7 A7 c7 m7 l7 hm7 hb hr hf hf7 hc7
      subst hm7
      have hl : (l0_0 ++ [l1]).length = l0_0.length + 1 := by simp
      refine ⟨_, rfl, ⟨A4, c4, A7, c7, by rw [hl], by rw [hl]; exact LC4, hc7, ?_, ?_⟩, (hb.setCell (p := ⟨w.heap.size + 1, 0, none⟩) (by show w.heap.size ≤ w.heap.size + 1; omega) _).setCell (p := ⟨w.heap.size + 1, 1, none⟩) (by show w.heap.size ≤ w.heap.size + 1; omega) _⟩
      · rw [hl]
        exact Kd.F_mono (Kd.F_far (p := ⟨w.heap.size + 1, 1, none⟩) (Kd.F_far (p := ⟨w.heap.size + 1, 0, none⟩) hf (fun k hk => hk.ne1) _) (fun k hk => hk.ne1) _) (fun k hk => hk.out)
      · exact Kd.F_mono (Kd.F_far (p := ⟨w.heap.size + 1, 1, none⟩) (Kd.F_far (p := ⟨w.heap.size + 1, 0, none⟩) hf7 (fun k hk => hk.ne1) _) (fun k hk => hk.ne1) _) (fun k hk => hk.out)
    have HFIN := Aside0.mk FIN
    clear FIN LC4
    by_cases c5 : sz = (l0_1.length : Int)
    · have H2 := H.out
      rw [if_pos c5] at H2
      by_cases c6 : l0_1.length < 17592186044416
      case neg => rw [if_neg c6] at H2; cases H2
      rw [if_pos c6] at H2
      obtain ⟨s2, hs2, H2⟩ := Option.bind_eq_some_iff.mp H2
      simp only [Option.some.injEq, Prod.mk.injEq] at H2
      obtain ⟨rfl, rfl, rfl, rfl⟩ := H2
      have HS2 := Aside0.mk hs2
      have HC2 := Aside0.mk (show slices_Clone_int_int.f l0_1 = some l0_1 by unfold slices_Clone_int_int.f; rw [if_pos c6])
      have hb : (sz != (l0_1.length : Int)) = false := by simp [c5]
      clear hs2 c6 c5 H
      have hcK := blk_cell HT6.out 0
      have hcS := blk_cell HT6.out 1
      have hfTK := blk_frozen HT6.out 0
      have hfTS := blk_frozen HT6.out 1
      have hrK := blk_cell HR6.out 0
      have hrS := blk_cell HR6.out 1
      have hfK := blk_frozen HR6.out 0
      have hfS := blk_frozen HR6.out 1
      simp only [List.getElem?_toArray, List.getElem?_cons_zero, List.getElem?_cons_succ] at hcK hcS hrK hrS
      go_wp2_with fail
      refine (slices_Clone_int_int.calls _ _ l0_1 l0_1 _ (Kd.C_below HR01.out HB6.out) hc0_1 HC2.out).mono ?_
      rintro e w7 ⟨v7, rfl, ho7, hb7⟩
      obtain ⟨A7, c7, rfl⟩ := Kd.R_slice ho7
      have HO7 := Aside0.mk (Kd.R_mono (Kd.R_lower (Kd.R_bound ho7) HB6.out.size) (fun k hk => hk.2.1))
      have HB7 := Aside0.mk (below_step HB6.out hb7)
      have HT7 := Aside0.mk (blk_below HT6.out hb7)
      have HR7 := Aside0.mk (blk_below HR6.out hb7)
      have HF7 := Aside0.mk (Kd.F_old HF6.out hb7)
      have HS6 := Aside0.mk (show w.heap.size + 1 < w6.heap.size from blk_lt HR6.out)
      have HSS := Aside0.mk hb7.size
      clear hb7 ho7
      clear hcK hcS hrK hrS hfK hfS hfTK hfTS
      have hcK := blk_cell HT7.out 0
      have hcS := blk_cell HT7.out 1
      have hfTK := blk_frozen HT7.out 0
      have hfTS := blk_frozen HT7.out 1
      have hrK := blk_cell HR7.out 0
      have hrS := blk_cell HR7.out 1
      have hfK := blk_frozen HR7.out 0
      have hfS := blk_frozen HR7.out 1
      simp only [List.getElem?_toArray, List.getElem?_cons_zero, List.getElem?_cons_succ] at hcK hcS hrK hrS
      go_wp2_with fail
      have HB8 := Aside0.mk (HB7.out.setCell (p := ⟨w.heap.size, 1, none⟩) (Nat.le_refl _) (.slice A7 l0_1.length c7))
      have HT8 := Aside0.mk (blk_put (cs' := #[.slice A4 (l0_0.length + 1) c4, .slice A7 l0_1.length c7]) HT7.out 1 (.slice A7 l0_1.length c7) rfl)
      have HR8 := Aside0.mk (blk_far HR7.out (p := ⟨w.heap.size, 1, none⟩) (by show w.heap.size + 1 ≠ w.heap.size; omega) (.slice A7 l0_1.length c7))
      have HF8 := Aside0.mk (Kd.F_far (p := ⟨w.heap.size, 1, none⟩) HF7.out (fun k hk => hk.1.ne0) (.slice A7 l0_1.length c7))
      have HO8 := Aside0.mk (Kd.R_far (p := ⟨w.heap.size, 1, none⟩) HO7.out (fun k hk => (show k ≠ w.heap.size from by have := HS6.out; omega)) (.slice A7 l0_1.length c7))
      have HSZ8 := Aside0.mk (show w7.heap.size = (w7.setCell ⟨w.heap.size, 1, none⟩ (.slice A7 l0_1.length c7)).heap.size by simp)
      generalize w7.setCell ⟨w.heap.size, 1, none⟩ (.slice A7 l0_1.length c7) = w8 at HB8 HT8 HR8 HF8 HO8 HSZ8 ⊢
      refine (hash_place.calls k (fun k => w6.heap.size ≤ k) _ l0_1 _ _ l1 (l0_0.length : Int) s2 w w8 HB8.out HO8.out (fun W_ hK => Kd.F_now (Kd.F_kept (Kd.F_below (Kd.C_F (Kd.heap_int .i64) HR1.out) HB8.out) hK (fun k hk => by have := HS6.out; omega))) hc1 HS2.out).mono ?_
      rintro e w9 ⟨rfl, ho9, hb9, hk9⟩
      have HM9 := Aside0.mk (Kd.R_reads' ho9)
      have HT9 := Aside0.mk ((hk9.2 _ (blk_lt HT8.out) (by have := HS6.out; omega)).trans HT8.out)
      have HR9 := Aside0.mk ((hk9.2 _ (blk_lt HR8.out) (by have := HS6.out; omega)).trans HR8.out)
      have HF9 := Aside0.mk (Kd.F_mono (Kd.F_kept HF8.out hk9 (fun k hk => by have := hk.2; omega)) (fun k hk => hk.1))
      have HG9 := Aside0.mk (Kd.F_mono (Kd.R_F ho9) (fun k hk => (show OkN ok w.heap.size k from .inr (by have h1 := HS6.out; have h2 := HSZ8.out; have h3 := HSS.out; rcases hk with hk | hk <;> omega))))
      have HB9 := Aside0.mk hb9
      clear ho9 hb9 hk9 HO8
      clear hcK hcS hrK hrS hfK hfS hfTK hfTS
      have hcK := blk_cell HT9.out 0
      have hcS := blk_cell HT9.out 1
      have hfTK := blk_frozen HT9.out 0
      have hfTS := blk_frozen HT9.out 1
      have hrK := blk_cell HR9.out 0
      have hrS := blk_cell HR9.out 1
      have hfK := blk_frozen HR9.out 0
      have hfS := blk_frozen HR9.out 1
      simp only [List.getElem?_toArray, List.getElem?_cons_zero, List.getElem?_cons_succ] at hcK hcS hrK hrS
      go_wp2_with fail
      refine bodyPost_ret (results_ctt rfl _ _ (w.heap.size + 1) 26 #[.slice A4 (l0_0.length + 1) c4, .slice A7 l0_1.length c7] (0, 0) _ rfl (by refine blk_put (cs := #[.slice A4 (l0_0.length + 1) c4, .slice none 0 0]) ?_ 1 _ rfl; refine blk_put (cs := #[.slice none 0 0, .slice none 0 0]) ?_ 0 _ rfl; exact HR9.out) Try.underlying26 rfl (by kernel_rfl)) rfl ?_
      exact HFIN.out undef w9 A7 c7 l0_1.length s2 HM9.out.1 HB9.out HR9.out HF9.out (by rw [← HM9.out.1]; exact HG9.out) (by rw [← HM9.out.1]; exact HM9.out.2.1)
    · have H2 := H.out
      rw [if_neg c5] at H2
      obtain ⟨s2, hs2, H2⟩ := Option.bind_eq_some_iff.mp H2
      simp only [Option.some.injEq, Prod.mk.injEq] at H2
      obtain ⟨rfl, rfl, rfl, rfl⟩ := H2
      have hb : (sz != (l0_1.length : Int)) = true := by simp [c5]
      have HS2 := Aside0.mk hs2
      clear hs2 c5 H
      have hcK := blk_cell HT6.out 0
      have hcS := blk_cell HT6.out 1
      have hfTK := blk_frozen HT6.out 0
      have hfTS := blk_frozen HT6.out 1
      have hrK := blk_cell HR6.out 0
      have hrS := blk_cell HR6.out 1
      have hfK := blk_frozen HR6.out 0
      have hfS := blk_frozen HR6.out 1
      simp only [List.getElem?_toArray, List.getElem?_cons_zero, List.getElem?_cons_succ] at hcK hcS hrK hrS
      have hl : (l0_0 ++ [l1]).length = l0_0.length + 1 := by simp
      have HL2 := Aside0.mk (hash_Lay.calls k A4 c4 (l0_0 ++ [l1]) s2 w6 (by rw [hl]; exact Kd.F_now HF6.out) (by rw [hl]; exact HC4.out) HS2.out)
      rw [hl] at HL2
      clear hl
      go_wp2_with fail
      refine HL2.out.mono ?_
      rintro e w7 ⟨v7, rfl, ho7, hb7⟩
      obtain ⟨A7, c7, rfl⟩ := Kd.R_slice ho7
      have HM7 := Aside0.mk (Kd.R_reads' ho7)
      have HB7 := Aside0.mk (below_step HB6.out hb7)
      have HT7 := Aside0.mk (blk_below HT6.out hb7)
      have HR7 := Aside0.mk (blk_below HR6.out hb7)
      have HF7 := Aside0.mk (Kd.F_below HF6.out hb7)
      have HG7 := Aside0.mk (Kd.F_mono (Kd.R_F (Kd.R_bound ho7)) (fun k hk => (show OkN ok w.heap.size k from .inr (by have h1 := blk_lt HR6.out; have h2 := hk.2.1; omega))))
      clear hb7 ho7 HL2
      clear hcK hcS hrK hrS hfK hfS hfTK hfTS
      have hcK := blk_cell HT7.out 0
      have hcS := blk_cell HT7.out 1
      have hfTK := blk_frozen HT7.out 0
      have hfTS := blk_frozen HT7.out 1
      have hrK := blk_cell HR7.out 0
      have hrS := blk_cell HR7.out 1
      have hfK := blk_frozen HR7.out 0
      have hfS := blk_frozen HR7.out 1
      simp only [List.getElem?_toArray, List.getElem?_cons_zero, List.getElem?_cons_succ] at hcK hcS hrK hrS
      go_wp2_with fail
      have HB8 := Aside0.mk (HB7.out.setCell (p := ⟨w.heap.size, 1, none⟩) (Nat.le_refl _) (.slice A7 s2.length c7))
      have HR8 := Aside0.mk (blk_far HR7.out (p := ⟨w.heap.size, 1, none⟩) (by show w.heap.size + 1 ≠ w.heap.size; omega) (.slice A7 s2.length c7))
      have HF8 := Aside0.mk (Kd.F_far (p := ⟨w.heap.size, 1, none⟩) HF7.out (fun k hk => hk.ne0) (.slice A7 s2.length c7))
      have HG8 := Aside0.mk (Kd.F_far (p := ⟨w.heap.size, 1, none⟩) HG7.out (fun k hk => hk.ne0) (.slice A7 s2.length c7))
      refine bodyPost_ret (results_ctt rfl _ _ (w.heap.size + 1) 26 #[.slice A4 (l0_0.length + 1) c4, .slice A7 s2.length c7] (0, 0) _ rfl (by refine blk_put (cs := #[.slice A4 (l0_0.length + 1) c4, .slice none 0 0]) ?_ 1 _ rfl; refine blk_put (cs := #[.slice none 0 0, .slice none 0 0]) ?_ 0 _ rfl; exact HR8.out) Try.underlying26 rfl (by kernel_rfl)) rfl ?_
      exact HFIN.out undef _ A7 c7 s2.length s2 rfl HB8.out HR8.out HF8.out HG8.out HM7.out.2.1
end Go.Proofs.Ytfjgfkokhnpbcaa.U
