/- Plainly: of what a term is made: the document's answer; rows that are the same; the reference's Put. -/
import Derived.Test.YtiliknfmlmdmbaaPd
import Derived.Test.YtiliknfmlmdmbaaHk
import Derived.Test.YtiliknfmlmdmbaaTx0
import Derived.Test.YtiliknfmlmdmbaaTx15
import Derived.Test.YtiliknfmlmdmbaaTx16
namespace Go.Proofs.Ytiliknfmlmdmbaa.T
open Go.RowKit Go.Proofs.YtiliknfmlmdmbaaW.PrintWords Go.Proofs.YtiliknfmlmdmbaaW.PrintLast Go.Proofs.YtiliknfmlmdmbaaW.PrintMore
set_option linter.unusedVariables false
set_option linter.unusedSimpArgs false

/-! ### Rows of rows that are the same -/
theorem rows_from {keys : List (List Int)} (H : Keys keys) : ∀ (m i : Nat), i + m = keys.length → Ev (fun k => tammyref02_Rows.l0 k keys keys (i : Int)) true
  | 0, i, h => Ev.step (fun k => tammyref02_Rows.l0.eq_2 keys keys i k) (Ev.neg (by omega) (Ev.now _))
  | m + 1, i, h => by
    have hi : i < keys.length := by omega
    have hl := H.len
    refine Ev.step (fun k => tammyref02_Rows.l0.eq_2 keys keys i k) (Ev.pos (by omega) (Ev.pos (by omega) (Ev.pos (by omega) ?_)))
    rw [rdL_at hi]
    refine (ints_ev (H.row _ (List.getElem_mem hi))).bind (Ev.pos (by simp) ?_)
    have h3 : wrap64 ((i : Int) + 1) = ((i + 1 : Nat) : Int) := by unfold Sh at hl; rw [w64 (by omega)]; rfl
    rw [h3]
    exact rows_from H m (i + 1) (by omega)
theorem same_ev {keys : List (List Int)} {slots : List Int} (H : Keys keys) (hs : Sh slots) : Ev (fun k => tammyref02_Same.f k keys slots keys slots) true := by
  unfold tammyref02_Same.f
  have h1 : Ev (fun k => tammyref02_Rows.f k keys keys) true := by
    unfold tammyref02_Rows.f
    exact Ev.pos rfl (rows_from H keys.length 0 (by omega))
  refine h1.bind (Ev.pos rfl ?_)
  have := ints_ev (b := slots) hs
  rw [decide_eq_true rfl] at this
  exact this.bind (Ev.now _)
theorem rput_ev {keys : List (List Int)} (H : Keys keys) (hn : keys.length ≤ 5999) (key : List Int) (hk : Sh key) : Ev (fun k => tammyref02_Put.f k keys (layS keys) key) (putS keys key) := by
  unfold tammyref02_Put.f putS
  refine (at_ev H key).bind ?_
  by_cases e : 0 ≤ atI key keys 0
  · rw [if_pos e]; exact Ev.pos e (Ev.now _)
  · rw [if_neg e]
    exact Ev.neg (by omega) (Ev.pos (by omega) ((rlay_ev (H.snoc (by omega) hk) (by simp; omega)).bind (Ev.now _)))

/-! ### The document's answer -/
theorem in_from {xs : List Int} (hx : Sh xs) (y : Int) : ∀ (m i : Nat), i + m = xs.length → Ev (fun k => tammyref03_in.l0 k xs y (i : Int)) (decide (y ∈ xs.drop i))
  | 0, i, h => by
    refine Ev.step (fun k => tammyref03_in.l0.eq_2 xs y i k) (Ev.neg (by omega) ?_)
    rw [List.drop_of_length_le (by omega)]
    exact Ev.now _
  | m + 1, i, h => by
    have hi : i < xs.length := by omega
    refine Ev.step (fun k => tammyref03_in.l0.eq_2 xs y i k) (Ev.pos (by omega) (Ev.pos (by omega) ?_))
    rw [rd_at hi, drop_at hi]
    have hL : xs.length ≤ 35184372088832 := hx
    rw [show wrap64 ((i : Int) + 1) = ((i + 1 : Nat) : Int) from by rw [w64 (by omega)]; rfl]
    by_cases e : xs[i] = y
    · refine Ev.pos e ?_
      rw [decide_eq_true (by rw [e]; exact List.mem_cons_self)]
      exact Ev.now _
    · refine Ev.neg e ?_
      have : (y ∈ xs[i] :: xs.drop (i + 1)) ↔ y ∈ xs.drop (i + 1) := by
        rw [List.mem_cons]
        constructor
        · rintro (h | h)
          · exact absurd h.symm e
          · exact h
        · exact fun h => .inr h
      simp only [this]
      exact in_from hx y m (i + 1) (by omega)
theorem in_ev {xs : List Int} (hx : Sh xs) (y : Int) : Ev (fun k => tammyref03_in.f k xs y) (decide (y ∈ xs)) := in_from hx y xs.length 0 (by omega)
section
variable {l : List S62} {keys : List (List Int)} {slots : List Int} (S : Store l keys) {id : Nat} (hid : id < keys.length)
/-- What stands in the document's row on its way. -/
structure Row (keys : List (List Int)) (id : Nat) (all : List Int) : Prop where
  nodup : all.Nodup
  head : (id : Int) ∈ all
  reach : ∀ x ∈ all, ∃ n : Nat, x = n ∧ Reach keys id n
include S hid
theorem Row.le {all : List Int} (R : Row keys id all) : all.length ≤ id + 1 := nodup_le (id + 1) all R.nodup (fun x hx => by
  obtain ⟨n, rfl, h⟩ := R.reach x hx
  have := reach_le S hid h
  omega)
theorem last_from {all : List Int} (hx : Sh all) {r : List Int} (hr : IsBelow keys id r) (hm : ∀ x : Int, x ∈ all ↔ ∃ n : Nat, x = n ∧ Reach keys id n) : ∀ (d n : Nat) (out : List Int), n + d = id + 1 → out.length ≤ n → out.Pairwise (· < ·) → (∀ z : Int, z ∈ out ↔ ∃ q : Nat, z = q ∧ Reach keys id q ∧ q < n) → Ev (fun k => tammyref03_Below.l2 k (id : Int) all out (n : Int)) r
  | 0, n, out, h, ho, hp, hz => by
    have hn := S.len
    refine Ev.step (fun k => tammyref03_Below.l2.eq_2 (id : Int) all out n k) (Ev.neg (by omega) ?_)
    have : IsBelow keys id out := ⟨hp, fun x => by
      rw [hz x]
      constructor
      · rintro ⟨q, h1, h2, _⟩; exact ⟨q, h1, h2⟩
      · rintro ⟨q, h1, h2⟩; exact ⟨q, h1, h2, by have := reach_le S hid h2; omega⟩⟩
    rw [hr.inj this]
    exact Ev.now _
  | d + 1, n, out, h, ho, hp, hz => by
    have hn := S.len
    refine Ev.step (fun k => tammyref03_Below.l2.eq_2 (id : Int) all out n k) (Ev.pos (by omega) ((in_ev hx _).bind ?_))
    rw [show wrap64 ((n : Int) + 1) = ((n + 1 : Nat) : Int) from by rw [w64 (by omega)]; rfl]
    by_cases e : (n : Int) ∈ all
    · refine Ev.pos (by simpa using e) (Ev.pos (by omega) ?_)
      obtain ⟨q, h1, hq⟩ := (hm _).1 e
      obtain rfl : q = n := by omega
      refine last_from hx hr hm d (q + 1) _ (by omega) (by simp; omega) ?_ (fun z => ?_)
      · rw [List.pairwise_append]
        refine ⟨hp, List.pairwise_singleton _ _, fun z hz2 y hy => ?_⟩
        rw [List.mem_singleton.1 hy]
        obtain ⟨p, rfl, _, h3⟩ := (hz z).1 hz2
        omega
      · rw [List.mem_append, hz z, List.mem_singleton]
        constructor
        · rintro (⟨p, h1, h2, h3⟩ | h1)
          · exact ⟨p, h1, h2, by omega⟩
          · exact ⟨q, h1, hq, by omega⟩
        · rintro ⟨p, h1, h2, h3⟩
          by_cases e4 : p = q
          · exact .inr (by rw [h1, e4])
          · exact .inl ⟨p, h1, h2, by omega⟩
    · refine Ev.neg (by simpa using e) ?_
      refine last_from hx hr hm d (n + 1) out (by omega) (by omega) hp (fun z => ?_)
      rw [hz z]
      constructor
      · rintro ⟨p, h1, h2, h3⟩; exact ⟨p, h1, h2, by omega⟩
      · rintro ⟨p, h1, h2, h3⟩
        by_cases e4 : p = n
        · subst e4; exact absurd ((hm _).2 ⟨p, rfl, h2⟩) e
        · exact ⟨p, h1, h2, by omega⟩
theorem parts_from (i : Nat) {r : List Int} (q : Nat) (hq : Reach keys id q) (t0 t1 t2 : Int) (hi : i ≤ id) : ∀ (m j : Nat) (all : List Int), j + m = (partsI keys q).length → Row keys id all →
    (∀ all' : List Int, Row keys id all' → (∃ new, all' = all ++ new) → (∀ x ∈ (partsI keys q).drop j, x ∈ all') → Ev (fun k => tammyref03_Below.l0 k (id : Int) all' ((i + 1 : Nat) : Int) keys slots) r) →
    Ev (fun k => tammyref03_Below.l1 k (id : Int) all (i : Int) (j : Int) keys slots t0 t1 t2 (partsI keys q)) r
  | 0, j, all, h, R, hk => by
    have hn := S.len
    refine Ev.step (fun k => tammyref03_Below.l1.eq_2 (id : Int) all i j keys slots t0 t1 t2 _ k) (Ev.neg (by omega) ?_)
    rw [show wrap64 ((i : Int) + 1) = ((i + 1 : Nat) : Int) from by rw [w64 (by omega)]; rfl]
    exact hk all R ⟨[], by simp⟩ (fun x hx => by rw [List.drop_of_length_le (by omega)] at hx; cases hx)
  | m + 1, j, all, h, R, hk => by
    have hn := S.len
    have hj : j < (partsI keys q).length := by omega
    have hql := reach_le S hid hq
    have hqk : q < keys.length := by omega
    have hlen : (partsI keys q).length ≤ 2000 := by rw [partsI_at hqk, List.length_drop]; have := sumL_row (List.getElem_mem hqk); have := S.few; omega
    have hle := Row.le S hid R
    refine Ev.step (fun k => tammyref03_Below.l1.eq_2 (id : Int) all i j keys slots t0 t1 t2 _ k) (Ev.pos (by omega) (Ev.pos (by omega) ?_))
    rw [rd_at hj, show wrap64 ((j : Int) + 1) = ((j + 1 : Nat) : Int) from by rw [w64 (by omega)]; rfl]
    refine (in_ev (by unfold Sh; omega) _).bind ?_
    by_cases e : (partsI keys q)[j] ∈ all
    · refine Ev.pos (by simpa using e) ?_
      refine parts_from i q hq t0 t1 t2 hi m (j + 1) all (by omega) R (fun all' R' hex hin => hk all' R' hex (fun x hx => ?_))
      rw [drop_at hj] at hx
      rcases List.mem_cons.1 hx with rfl | hx
      · obtain ⟨new, rfl⟩ := hex; exact List.mem_append_left _ e
      · exact hin x hx
    · refine Ev.neg (by simpa using e) (Ev.pos (by omega) ?_)
      have hmem : (partsI keys q)[j] ∈ partsI keys q := List.getElem_mem hj
      have hb := S.parts q hqk _ hmem
      obtain ⟨p, hp⟩ : ∃ p : Nat, (partsI keys q)[j] = (p : Int) := ⟨(partsI keys q)[j].toNat, by omega⟩
      have R2 : Row keys id (all ++ [(partsI keys q)[j]]) := by
        refine ⟨?_, List.mem_append_left _ R.head, fun x hx => ?_⟩
        · rw [List.nodup_append]
          exact ⟨R.nodup, by simp, fun a ha b hb2 => by rw [List.mem_singleton.1 hb2]; exact fun e2 => e (e2 ▸ ha)⟩
        · rcases List.mem_append.1 hx with hx | hx
          · exact R.reach x hx
          · rw [List.mem_singleton.1 hx]
            exact ⟨p, hp, hq.step (by rw [← hp]; exact hmem)⟩
      refine parts_from i q hq t0 t1 t2 hi m (j + 1) _ (by omega) R2 (fun all' R' hex hin => hk all' R' ?_ (fun x hx => ?_))
      · obtain ⟨new, rfl⟩ := hex; exact ⟨_, List.append_assoc _ _ _⟩
      · rw [drop_at hj] at hx
        rcases List.mem_cons.1 hx with rfl | hx
        · obtain ⟨new, rfl⟩ := hex; exact List.mem_append_left _ (List.mem_append_right _ List.mem_cons_self)
        · exact hin x hx
theorem rbelow_from {r : List Int} (hr : IsBelow keys id r) : ∀ (d i : Nat) (all : List Int), i + d = id + 1 → Row keys id all → i ≤ all.length → (∀ (j : Nat) (hj : j < all.length), j < i → ∀ x ∈ partsI keys all[j].toNat, x ∈ all) → Ev (fun k => tammyref03_Below.l0 k (id : Int) all (i : Int) keys slots) r := by
  intro d
  induction d with
  | zero =>
    intro i all h R hi hc
    have hle := Row.le S hid R
    have hn := S.len
    refine Ev.step (fun k => tammyref03_Below.l0.eq_2 (id : Int) all i keys slots k) (Ev.neg (by omega) ?_)
    exact last_from S hid (by unfold Sh; omega) hr (fun x => ⟨R.reach x, fun ⟨n, e, hx⟩ => by
      subst e
      exact reach_in R.head (fun j hj => hc j hj (by omega)) hx⟩) (id + 1) 0 [] (by omega) (by simp) List.Pairwise.nil (fun z => ⟨(fun h => by cases h), fun ⟨q, _, _, h⟩ => absurd h (by omega)⟩)
  | succ d ih =>
    intro i all h R hi hc
    have hle := Row.le S hid R
    have hn := S.len
    by_cases e : i < all.length
    · obtain ⟨q, hq, hqr⟩ := R.reach _ (List.getElem_mem e)
      have hql := reach_le S hid hqr
      refine Ev.step (fun k => tammyref03_Below.l0.eq_2 (id : Int) all i keys slots k) (Ev.pos (by omega) (Ev.pos (by omega) ?_))
      rw [rd_at e, hq, rof_at (by omega) (S.long q (by omega))]
      simp only [Option.bind_some]
      rw [← partsI_at (by omega)]
      refine parts_from S hid i q hqr _ _ _ (by omega) (partsI keys q).length 0 all (by omega) R (fun all' R' hex hin => ?_)
      obtain ⟨new, rfl⟩ := hex
      refine ih (i + 1) _ (by omega) R' (by simp; omega) (fun j hj hji x hx => ?_)
      by_cases e2 : j = i
      · subst e2
        rw [List.getElem_append_left e, hq, Int.toNat_natCast] at hx
        exact hin x (by rw [List.drop_zero]; exact hx)
      · have hj2 : j < all.length := by omega
        rw [List.getElem_append_left hj2] at hx
        exact List.mem_append_left _ (hc j hj2 (by omega) x hx)
    · refine Ev.step (fun k => tammyref03_Below.l0.eq_2 (id : Int) all i keys slots k) (Ev.neg (by omega) ?_)
      exact last_from S hid (by unfold Sh; omega) hr (fun x => ⟨R.reach x, fun ⟨n, e, hx⟩ => by
        subst e
        exact reach_in R.head (fun j hj => hc j hj (by omega)) hx⟩) (id + 1) 0 [] (by omega) (by simp) List.Pairwise.nil (fun z => ⟨(fun h => by cases h), fun ⟨q, _, _, h⟩ => absurd h (by omega)⟩)
theorem rBelow_ev {r : List Int} (hr : IsBelow keys id r) : Ev (fun k => tammyref03_Below.f k keys slots (id : Int)) r := by
  have hn := S.len
  unfold tammyref03_Below.f
  refine Ev.neg (by omega) (Ev.step (fun k => tammyref03_Below.j0.eq_2 _ _ keys slots k) (Ev.neg (by simp; omega) ?_))
  exact rbelow_from S hid hr (id + 1) 0 [(id : Int)] (by omega) ⟨by simp, by simp, fun x hx => ⟨id, List.mem_singleton.1 hx, .refl⟩⟩ (by omega) (fun j hj h => absurd h (by omega))
end
theorem rBelow_out {keys : List (List Int)} {slots : List Int} {x : Int} (h : x < 0 ∨ (keys.length : Int) ≤ x) : Ev (fun k => tammyref03_Below.f k keys slots x) [] := by
  unfold tammyref03_Below.f
  by_cases e : x < 0
  · exact Ev.pos e (Ev.step (fun k => tammyref03_Below.j0.eq_2 _ _ keys slots k) (Ev.pos rfl (Ev.now _)))
  · exact Ev.neg e (Ev.step (fun k => tammyref03_Below.j0.eq_2 _ _ keys slots k) (Ev.pos (decide_eq_true (by omega)) (Ev.now _)))
end Go.Proofs.Ytiliknfmlmdmbaa.T
