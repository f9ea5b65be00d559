/- Plainly: of what a term is made: the program's way and the document's answer. -/
import Derived.Test.YtiliknfmlmdmbaaPc
import Derived.Test.YtiliknfmlmdmbaaTx0
import Derived.Test.YtiliknfmlmdmbaaTx5
import Derived.Test.YtiliknfmlmdmbaaTx6
namespace Go.Proofs.Ytiliknfmlmdmbaa.T
open Go.RowKit Go.Proofs.YtiliknfmlmdmbaaW.PrintWords Go.Proofs.YtiliknfmlmdmbaaW.PrintLast Go.Proofs.YtiliknfmlmdmbaaW.PrintMore
set_option linter.unusedVariables false
set_option linter.unusedSimpArgs false

/-- Of what the term at id is made. -/
inductive Reach (keys : List (List Int)) (id : Nat) : Nat → Prop
  | refl : Reach keys id id
  | step {y x : Nat} : Reach keys id y → (x : Int) ∈ partsI keys y → Reach keys id x
structure IsBelow (keys : List (List Int)) (id : Nat) (out : List Int) : Prop where
  sorted : out.Pairwise (· < ·)
  mem : ∀ x : Int, x ∈ out ↔ ∃ n : Nat, x = n ∧ Reach keys id n
theorem sorted_ext : ∀ {a b : List Int}, a.Pairwise (· < ·) → b.Pairwise (· < ·) → (∀ x, x ∈ a ↔ x ∈ b) → a = b
  | [], [], _, _, _ => rfl
  | [], y :: ys, _, _, h => by have := (h y).2 List.mem_cons_self; cases this
  | x :: xs, [], _, _, h => by have := (h x).1 List.mem_cons_self; cases this
  | x :: xs, y :: ys, ha, hb, h => by
    rw [List.pairwise_cons] at ha hb
    have e : x = y := by
      rcases List.mem_cons.1 ((h x).1 List.mem_cons_self) with e | e
      · exact e
      · rcases List.mem_cons.1 ((h y).2 List.mem_cons_self) with e2 | e2
        · exact e2.symm
        · have h1 := hb.1 x e; have h2 := ha.1 y e2; omega
    subst e
    rw [sorted_ext ha.2 hb.2 (fun z => ?_)]
    constructor
    · intro hz
      rcases List.mem_cons.1 ((h z).1 (List.mem_cons_of_mem _ hz)) with e | e
      · subst e; exact absurd (ha.1 z hz) (by omega)
      · exact e
    · intro hz
      rcases List.mem_cons.1 ((h z).2 (List.mem_cons_of_mem _ hz)) with e | e
      · subst e; exact absurd (hb.1 z hz) (by omega)
      · exact e
theorem IsBelow.inj {keys : List (List Int)} {id : Nat} {a b : List Int} (h : IsBelow keys id a) (k : IsBelow keys id b) : a = b := sorted_ext h.sorted k.sorted (fun x => (h.mem x).trans (k.mem x).symm)
theorem Reach.inv {keys : List (List Int)} {id n : Nat} (h : Reach keys id n) : n = id ∨ ∃ y, Reach keys id y ∧ (n : Int) ∈ partsI keys y := by
  cases h with
  | refl => exact .inl rfl
  | step h1 h2 => exact .inr ⟨_, h1, h2⟩
theorem reach_in {keys : List (List Int)} {id : Nat} {all : List Int} (h0 : (id : Int) ∈ all) (hc : ∀ (j : Nat) (hj : j < all.length), ∀ x ∈ partsI keys all[j].toNat, x ∈ all) {n : Nat} (h : Reach keys id n) : (n : Int) ∈ all := by
  induction h with
  | refl => exact h0
  | step h1 h2 ih =>
    obtain ⟨j, hj, he⟩ := List.getElem_of_mem ih
    exact hc j hj _ (by rw [he]; exact h2)
theorem tOf_at {l : List S62} {keys : List (List Int)} {slots : List Int} (S : Store l keys) {i : Nat} (hi : i < keys.length) : ∃ a b c, term_Of.f keys slots (i : Int) = some (a, b, c, partsI keys i, true) := by
  have h3 := S.long i hi
  have hr := sumL_row (List.getElem_mem hi)
  have hf := S.few
  refine ⟨rd keys[i] 0, rd keys[i] 1, rd keys[i] 2, ?_⟩
  unfold term_Of.f term_of.f slices_Clone_int_int.f
  rw [if_neg (by omega), if_neg (by omega), if_pos (by omega), if_pos (by omega), rdL_at hi, if_neg (by omega), if_pos (by omega), if_pos (by omega), if_pos (by omega), if_pos (by omega), if_pos (by rw [List.length_drop]; omega), partsI_at hi]
  rfl
section
variable {l : List S62} {keys : List (List Int)} {slots : List Int} (S : Store l keys) {id : Nat} (hid : id < keys.length)
include S hid
theorem reach_le {n : Nat} (h : Reach keys id n) : n ≤ id := by
  induction h with
  | refl => exact Nat.le_refl _
  | step h1 h2 ih => have := S.parts _ (by omega) _ h2; omega

/-! ### The program's way -/
theorem marks (out : List Int) (kk : Nat) {r : List Int} (args : List Int) (ha : Sh args) (hin : ∀ x ∈ args, 0 ≤ x ∧ x < (id : Int) + 1) (hk : (kk : Int) ≤ id) : ∀ (m j : Nat) (inn : List Bool), j + m = args.length → inn.length = id + 1 →
    (∀ inn' : List Bool, inn'.length = id + 1 → (∀ x : Nat, x ≤ id → (rdOf false inn' (x : Int) = true ↔ rdOf false inn (x : Int) = true ∨ (x : Int) ∈ args.drop j)) → Ev (fun k => term_Below.l0 k id inn' out ((id : Int) + 1) ((kk + 1 : Nat) : Int) keys slots) r) →
    Ev (fun k => term_Below.l1 k id inn out ((id : Int) + 1) (kk : Int) args (args.length : Int) (j : Int) keys slots) r
  | 0, j, inn, h, hl, hk2 => by
    refine Ev.step (fun k => term_Below.l1.eq_2 id inn out _ kk args _ j keys slots k) (Ev.neg (by omega) ?_)
    have hn := S.len
    rw [show wrap64 ((kk : Int) + 1) = ((kk + 1 : Nat) : Int) from by rw [w64 (by omega)]; rfl]
    exact hk2 inn hl (fun x hx => by rw [List.drop_of_length_le (by omega)]; simp)
  | m + 1, j, inn, h, hl, hk2 => by
    have hj : j < args.length := by omega
    have hx := hin _ (List.getElem_mem hj)
    obtain ⟨q, hq⟩ : ∃ q : Nat, args[j] = (q : Int) := ⟨args[j].toNat, by omega⟩
    refine Ev.step (fun k => term_Below.l1.eq_2 id inn out _ kk args _ j keys slots k) (Ev.pos (by omega) (Ev.pos (by omega) (Ev.pos (by omega) ?_)))
    rw [rd_at hj, hq]
    refine Ev.pos (by omega) (Ev.pos (by omega) ?_)
    rw [show wrap64 ((j : Int) + 1) = ((j + 1 : Nat) : Int) from by unfold Sh at ha; rw [w64 (by omega)]; rfl, Int.toNat_natCast]
    refine marks out kk args ha hin hk m (j + 1) (inn.set q true) (by omega) (by simpa using hl) (fun inn' hl' hs => hk2 inn' hl' (fun x hxi => ?_))
    rw [hs x hxi, drop_at hj, List.mem_cons, hq]
    have : rdOf false (inn.set q true) (x : Int) = true ↔ rdOf false inn (x : Int) = true ∨ x = q := by
      unfold rdOf
      rw [List.getD_eq_getElem?_getD, List.getD_eq_getElem?_getD, Int.toNat_natCast, List.getElem?_set]
      by_cases e : q = x
      · subst e
        rw [if_pos rfl, if_pos (by omega)]; simp
      · rw [if_neg e]
        constructor
        · intro h; exact .inl h
        · rintro (h | h)
          · exact h
          · exact absurd h.symm e
    rw [this]
    constructor
    · rintro ((h | h) | h)
      · exact .inl h
      · exact .inr (.inl (by omega))
      · exact .inr (.inr h)
    · rintro (h | h | h)
      · exact .inl (.inl h)
      · exact .inl (.inr (by omega))
      · exact .inr h
end
theorem rev_from (l : List Int) (hl : Sh l) : ∀ (d i : Nat) (cur : List Int), cur.length = l.length → 2 * i + d = l.length → (∀ p (hp : p < l.length), rd cur (p : Int) = if p < i ∨ l.length ≤ p + i then l[l.length - 1 - p]'(by omega) else l[p]) →
    Ev (fun k => slices_Reverse_int_int.l0 k cur (i : Int) ((l.length : Int) - 1 - i)) l.reverse := by
  intro d
  induction d using Nat.strongRecOn with
  | _ d ih =>
    intro i cur hc hd hs
    have hL : l.length ≤ 35184372088832 := hl
    by_cases e : (i : Int) < (l.length : Int) - 1 - i
    · have hi : i < l.length := by omega
      refine Ev.step (fun k => slices_Reverse_int_int.l0.eq_2 cur _ _ k) (Ev.pos e (Ev.pos (by omega) (Ev.pos (by omega) (Ev.pos (by omega) (Ev.pos (by omega) ?_)))))
      have hj : l.length - 1 - i < l.length := by omega
      have e1 : ((l.length : Int) - 1 - i) = ((l.length - 1 - i : Nat) : Int) := by omega
      have e2 : wrap64 ((i : Int) + 1) = ((i + 1 : Nat) : Int) := by rw [w64 (by omega)]; rfl
      have e3 : wrap64 (((l.length - 1 - i : Nat) : Int) - 1) = (l.length : Int) - 1 - ((i + 1 : Nat) : Int) := by rw [w64 (by omega)]; omega
      rw [e1, e2, e3, Int.toNat_natCast, Int.toNat_natCast]
      refine ih (d - 2) (by omega) (i + 1) _ (by simpa using hc) (by omega) (fun p hp => ?_)
      have h1 := hs i hi
      have h2 := hs (l.length - 1 - i) hj
      rw [if_neg (by omega)] at h1 h2
      have hcp : p < cur.length := by omega
      rw [rd_set (by simp; omega) (by simpa using hcp), rd_set (by omega) hcp]
      by_cases p1 : p = l.length - 1 - i
      · subst p1
        rw [if_pos rfl, if_pos (by omega), h1]
        congr 1; omega
      · rw [if_neg p1]
        by_cases p2 : p = i
        · subst p2
          rw [if_pos rfl, if_pos (by omega), h2]
        · rw [if_neg p2, hs p hp]
          by_cases q : p < i ∨ l.length ≤ p + i
          · rw [if_pos q, if_pos (by omega)]
          · rw [if_neg q, if_neg (by omega)]
    · refine Ev.step (fun k => slices_Reverse_int_int.l0.eq_2 cur _ _ k) (Ev.neg e ?_)
      have : cur = l.reverse := by
        refine List.ext_getElem (by simpa using hc) (fun p h1 h2 => ?_)
        have hp : p < l.length := by omega
        have h3 := hs p hp
        rw [rd_at h1] at h3
        rw [h3, List.getElem_reverse]
        by_cases q : p < i ∨ l.length ≤ p + i
        · rw [if_pos q]
        · rw [if_neg q]
          congr 1; omega
      rw [this]
      exact Ev.now _
theorem rev_ev {l : List Int} (hl : Sh l) : Ev (fun k => slices_Reverse_int_int.f k l) l.reverse := by
  unfold slices_Reverse_int_int.f
  have hL : l.length ≤ 35184372088832 := hl
  have := rev_from l hl l.length 0 l rfl (by omega) (fun p hp => by rw [if_neg (by omega), rd_at hp])
  rw [show (l.length : Int) - 1 - ((0 : Nat) : Int) = wrap64 ((l.length : Int) - 1) from by rw [w64 (by omega)]; omega] at this
  exact this
section
variable {l : List S62} {keys : List (List Int)} {slots : List Int} (S : Store l keys) {id : Nat} (hid : id < keys.length)
include S hid
theorem below_from : ∀ (d kk : Nat) (inn : List Bool) (out : List Int), kk + d = id + 1 → inn.length = id + 1 → out.length ≤ kk →
    (∀ x : Nat, x ≤ id → (rdOf false inn (x : Int) = true ↔ x = id ∨ ∃ y, Reach keys id y ∧ id < y + kk ∧ (x : Int) ∈ partsI keys y)) →
    out.Pairwise (· > ·) → (∀ z : Int, z ∈ out ↔ ∃ n : Nat, z = n ∧ Reach keys id n ∧ id < n + kk) →
    ∃ r, Ev (fun k => term_Below.l0 k id inn out ((id : Int) + 1) (kk : Int) keys slots) r ∧ IsBelow keys id r
  | 0, kk, inn, out, h, hl, ho, hin, hp, hm => by
    have hn := S.len
    refine ⟨out.reverse, Ev.step (fun k => term_Below.l0.eq_2 id inn out _ kk keys slots k) (Ev.neg (by omega) ((rev_ev (by unfold Sh; omega)).bind (Ev.now _))), ?_, fun x => ?_⟩
    · rw [List.pairwise_reverse]; exact hp
    · rw [List.mem_reverse, hm x]
      constructor
      · rintro ⟨n, h1, h2, _⟩; exact ⟨n, h1, h2⟩
      · rintro ⟨n, h1, h2⟩; exact ⟨n, h1, h2, by omega⟩
  | d + 1, kk, inn, out, h, hl, ho, hin, hp, hm => by
    have hn := S.len
    have e1 : wrap64 ((id : Int) - (kk : Int)) = ((id - kk : Nat) : Int) := by rw [w64 (by omega)]; omega
    have hq : id - kk < keys.length := by omega
    have hreach : rdOf false inn ((id - kk : Nat) : Int) = true ↔ Reach keys id (id - kk) := by
      rw [hin _ (by omega)]
      constructor
      · rintro (e | ⟨y, h1, _, h3⟩)
        · rw [e]; exact .refl
        · exact h1.step h3
      · intro hr
        rcases hr.inv with e | ⟨y, h1, h2⟩
        · exact .inl e
        · have hy := reach_le S hid h1
          have := S.parts y (by omega) _ h2
          exact .inr ⟨y, h1, by omega, h2⟩
    by_cases e : rdOf false inn ((id - kk : Nat) : Int) = true
    · have hR := hreach.1 e
      obtain ⟨a, b, c, ht⟩ := tOf_at (slots := slots) S hq
      have hargs : ∀ x ∈ partsI keys (id - kk), 0 ≤ x ∧ x < (id : Int) + 1 := fun x hx => by have := S.parts _ hq x hx; omega
      have hsh : Sh (partsI keys (id - kk)) := by rw [partsI_at hq]; have := sumL_row (List.getElem_mem hq); have := S.few; unfold Sh; rw [List.length_drop]; omega
      have next : ∀ inn' : List Bool, inn'.length = id + 1 → (∀ x : Nat, x ≤ id → (rdOf false inn' (x : Int) = true ↔ rdOf false inn (x : Int) = true ∨ (x : Int) ∈ (partsI keys (id - kk)).drop 0)) → ∃ r, Ev (fun k => term_Below.l0 k id inn' (out ++ [((id - kk : Nat) : Int)]) ((id : Int) + 1) ((kk + 1 : Nat) : Int) keys slots) r ∧ IsBelow keys id r := by
        intro inn' hl' hs
        refine below_from d (kk + 1) inn' _ (by omega) hl' (by simp; omega) (fun x hx => ?_) ?_ (fun z => ?_)
        · rw [hs x hx, hin x hx, List.drop_zero]
          constructor
          · rintro ((e | ⟨y, h1, h2, h3⟩) | h3)
            · exact .inl e
            · exact .inr ⟨y, h1, by omega, h3⟩
            · exact .inr ⟨id - kk, hR, by omega, h3⟩
          · rintro (e | ⟨y, h1, h2, h3⟩)
            · exact .inl (.inl e)
            · by_cases e4 : y = id - kk
              · subst e4; exact .inr h3
              · exact .inl (.inr ⟨y, h1, by omega, h3⟩)
        · rw [List.pairwise_append]
          refine ⟨hp, List.pairwise_singleton _ _, fun z hz y hy => ?_⟩
          rw [List.mem_singleton.1 hy]
          obtain ⟨n, rfl, _, h3⟩ := (hm z).1 hz
          show ((id - kk : Nat) : Int) < n
          omega
        · rw [List.mem_append, hm z, List.mem_singleton]
          constructor
          · rintro (⟨n, h1, h2, h3⟩ | h1)
            · exact ⟨n, h1, h2, by omega⟩
            · exact ⟨id - kk, h1, hR, by omega⟩
          · rintro ⟨n, h1, h2, h3⟩
            by_cases e4 : n = id - kk
            · exact .inr (by rw [h1, e4])
            · exact .inl ⟨n, h1, h2, by omega⟩
      -- one world of marks: the answer is the same for all
      have hall : ∃ r, IsBelow keys id r ∧ ∀ inn' : List Bool, inn'.length = id + 1 → (∀ x : Nat, x ≤ id → (rdOf false inn' (x : Int) = true ↔ rdOf false inn (x : Int) = true ∨ (x : Int) ∈ (partsI keys (id - kk)).drop 0)) → Ev (fun k => term_Below.l0 k id inn' (out ++ [((id - kk : Nat) : Int)]) ((id : Int) + 1) ((kk + 1 : Nat) : Int) keys slots) r := by
        by_cases hex : ∃ inn' : List Bool, inn'.length = id + 1 ∧ (∀ x : Nat, x ≤ id → (rdOf false inn' (x : Int) = true ↔ rdOf false inn (x : Int) = true ∨ (x : Int) ∈ (partsI keys (id - kk)).drop 0))
        · obtain ⟨i1, h1, h2⟩ := hex
          obtain ⟨r, _, hr⟩ := next i1 h1 h2
          refine ⟨r, hr, fun i2 h3 h4 => ?_⟩
          obtain ⟨r2, hr2, hb2⟩ := next i2 h3 h4
          rw [hr.inj hb2]; exact hr2
        · exfalso
          refine hex ⟨inn.zipIdx.map (fun p => p.1 || decide (((p.2 : Nat) : Int) ∈ (partsI keys (id - kk)).drop 0)), by simpa using hl, fun x hx => ?_⟩
          unfold rdOf
          rw [List.getD_eq_getElem?_getD, List.getD_eq_getElem?_getD, Int.toNat_natCast]
          have hxl : x < inn.length := by omega
          simp [hxl]
      obtain ⟨r, hr, hall⟩ := hall
      refine ⟨r, Ev.step (fun k => term_Below.l0.eq_2 id inn out _ kk keys slots k) (Ev.pos (by omega) ?_), hr⟩
      rw [e1]
      refine Ev.pos (by omega) (Ev.pos (by omega) (Ev.pos e (Ev.pos (by omega) ?_)))
      rw [ht]
      exact marks S hid _ kk (partsI keys (id - kk)) hsh hargs (by omega) (partsI keys (id - kk)).length 0 inn (by omega) hl hall
    · have hR : ¬ Reach keys id (id - kk) := fun h => e (hreach.2 h)
      obtain ⟨r, hr, hb⟩ := below_from d (kk + 1) inn out (by omega) hl (by omega) (fun x hx => by
        rw [hin x hx]
        constructor
        · rintro (e | ⟨y, h1, h2, h3⟩)
          · exact .inl e
          · exact .inr ⟨y, h1, by omega, h3⟩
        · rintro (e | ⟨y, h1, h2, h3⟩)
          · exact .inl e
          · by_cases e4 : y = id - kk
            · rw [e4] at h1; exact absurd h1 hR
            · exact .inr ⟨y, h1, by omega, h3⟩) hp (fun z => by
        rw [hm z]
        constructor
        · rintro ⟨n, h1, h2, h3⟩; exact ⟨n, h1, h2, by omega⟩
        · rintro ⟨n, h1, h2, h3⟩
          by_cases e4 : n = id - kk
          · rw [e4] at h2; exact absurd h2 hR
          · exact ⟨n, h1, h2, by omega⟩)
      refine ⟨r, Ev.step (fun k => term_Below.l0.eq_2 id inn out _ kk keys slots k) (Ev.pos (by omega) ?_), hb⟩
      rw [e1]
      refine Ev.pos (by omega) (Ev.pos (by omega) (Ev.neg e ?_))
      rw [show wrap64 ((kk : Int) + 1) = ((kk + 1 : Nat) : Int) from by rw [w64 (by omega)]; rfl]
      exact hr
theorem tBelow_ev : ∃ r, Ev (fun k => term_Below.f k keys slots (id : Int)) r ∧ IsBelow keys id r := by
  have hn := S.len
  obtain ⟨r, hr, hb⟩ := below_from (slots := slots) S hid (id + 1) 0 ((List.replicate (id + 1) false).set id true) [] (by omega) (by simp) (by simp) (fun x hx => by
    unfold rdOf
    rw [List.getD_eq_getElem?_getD, Int.toNat_natCast, List.getElem?_set]
    constructor
    · intro h
      by_cases e : id = x
      · exact .inl e.symm
      · rw [if_neg e, List.getElem?_replicate, if_pos (by omega)] at h
        cases h
    · rintro (e | ⟨y, h1, h2, _⟩)
      · subst e; simp
      · have := reach_le S hid h1; omega) List.Pairwise.nil (fun z => by
    constructor
    · intro h; cases h
    · rintro ⟨n, _, h2, h3⟩
      have := reach_le S hid h2; omega)
  refine ⟨r, ?_, hb⟩
  unfold term_Below.f
  refine Ev.neg (by omega) (Ev.step (fun k => term_Below.j0.eq_2 _ _ keys slots k) (Ev.neg (by simp; omega) ?_))
  have e1 : wrap64 ((id : Int) + 1) = ((id + 1 : Nat) : Int) := by rw [w64 (by omega)]; rfl
  rw [e1, Int.toNat_natCast, Int.toNat_natCast]
  refine Ev.pos (by omega) (Ev.pos (by omega) ?_)
  simp only [Option.bind_some]
  exact Ev.pos (by omega) (Ev.pos (by simp; omega) hr)
end

theorem nodup_le : ∀ (n : Nat) (l : List Int), l.Nodup → (∀ x ∈ l, 0 ≤ x ∧ x < (n : Int)) → l.length ≤ n
  | 0, l, _, h => by
    cases l with
    | nil => simp
    | cons x xs => have := h x List.mem_cons_self; omega
  | n + 1, l, hd, h => by
    by_cases e : (n : Int) ∈ l
    · have h1 := nodup_le n (l.erase (n : Int)) (hd.erase _) (fun x hx => by
        rw [hd.mem_erase_iff] at hx
        have := h x hx.2
        have := hx.1
        omega)
      rw [List.length_erase_of_mem e] at h1
      omega
    · have := nodup_le n l hd (fun x hx => by
        have h1 := h x hx
        have : x ≠ (n : Int) := fun e2 => e (e2 ▸ hx)
        omega)
      omega
/-- Elsewhere nothing is told, by both. -/
theorem tBelow_out {keys : List (List Int)} {slots : List Int} {x : Int} (h : x < 0 ∨ (keys.length : Int) ≤ x) : Ev (fun k => term_Below.f k keys slots x) [] := by
  unfold term_Below.f
  by_cases e : x < 0
  · exact Ev.pos e (Ev.step (fun k => term_Below.j0.eq_2 _ _ keys slots k) (Ev.pos rfl (Ev.now _)))
  · exact Ev.neg e (Ev.step (fun k => term_Below.j0.eq_2 _ _ keys slots k) (Ev.pos (decide_eq_true (by omega)) (Ev.now _)))
end Go.Proofs.Ytiliknfmlmdmbaa.T
