/- Plainly: TermBelow. -/
import Derived.Test.YtiliknfmlmdmbaaPe
import Derived.Test.YtiliknfmlmdmbaaTx0
import Derived.Test.YtiliknfmlmdmbaaTx17
namespace Go.Proofs.Ytiliknfmlmdmbaa.T
open Go.RowKit Go.Proofs.YtiliknfmlmdmbaaW.PrintWords Go.Proofs.YtiliknfmlmdmbaaW.PrintLast Go.Proofs.YtiliknfmlmdmbaaW.PrintMore
set_option linter.unusedVariables false
set_option linter.unusedSimpArgs false

theorem reach_down {keys : List (List Int)} {id p x : Nat} (hp : (p : Int) ∈ partsI keys id) (h : Reach keys p x) : Reach keys id x := by
  induction h with
  | refl => exact Reach.refl.step hp
  | step h1 h2 ih => exact ih.step h2
theorem reach_parts {keys : List (List Int)} {id x : Nat} (h : Reach keys id x) : x = id ∨ ∃ p : Nat, (p : Int) ∈ partsI keys id ∧ Reach keys p x := by
  induction h with
  | refl => exact .inl rfl
  | step h1 h2 ih =>
    rcases ih with e | ⟨p, h3, h4⟩
    · subst e; exact .inr ⟨_, h2, .refl⟩
    · exact .inr ⟨p, h3, h4.step h2⟩
theorem rdOf_set {inn : List Bool} {q x : Nat} (hq : q < inn.length) : rdOf false (inn.set q true) (x : Int) = true ↔ rdOf false inn (x : Int) = true ∨ x = q := by
  unfold rdOf
  rw [List.getD_eq_getElem?_getD, List.getD_eq_getElem?_getD, Int.toNat_natCast, List.getElem?_set]
  by_cases e : q = x
  · subst e
    rw [if_pos rfl, if_pos hq]; simp
  · rw [if_neg e]
    constructor
    · intro h; exact .inl h
    · rintro (h | h)
      · exact h
      · exact absurd h.symm e
section
variable {l : List S62} {keys : List (List Int)} {slots : List Int} (S : Store l keys) {id : Nat} (hid : id < keys.length)
theorem set_from (up : Bool) (all : List Int) (i : Nat) (t0 t1 t2 : Int) (args : List Int) (hi : i ≤ 4000) {r : Bool} (part : List Int) (hsh : Sh part) (hp : ∀ x ∈ part, 0 ≤ x ∧ x < (id : Int)) (hidl : id < keys.length) : ∀ (m j : Nat) (inn : List Bool), j + m = part.length → inn.length = keys.length →
    (∀ inn' : List Bool, inn'.length = keys.length → (∀ x : Nat, rdOf false inn' (x : Int) = true ↔ rdOf false inn (x : Int) = true ∨ (x : Int) ∈ part.drop j) → Ev (fun k => tammylaw03_TermBelow.l0 k (id : Int) up all inn' ((i + 1 : Nat) : Int) keys slots t0 t1 t2 args) r) →
    Ev (fun k => tammylaw03_TermBelow.l1 k (id : Int) up all inn (i : Int) part (j : Int) keys slots t0 t1 t2 args) r
  | 0, j, inn, h, hl, hk => by
    refine Ev.step (fun k => tammylaw03_TermBelow.l1.eq_2 (id : Int) up all inn i part j keys slots t0 t1 t2 args k) (Ev.neg (by omega) ?_)
    rw [show wrap64 ((i : Int) + 1) = ((i + 1 : Nat) : Int) from by rw [w64 (by omega)]; rfl]
    exact hk inn hl (fun x => by rw [List.drop_of_length_le (by omega)]; simp)
  | m + 1, j, inn, h, hl, hk => by
    have hj : j < part.length := by omega
    have hx := hp _ (List.getElem_mem hj)
    obtain ⟨q, hq⟩ : ∃ q : Nat, part[j] = (q : Int) := ⟨part[j].toNat, by omega⟩
    refine Ev.step (fun k => tammylaw03_TermBelow.l1.eq_2 (id : Int) up all inn i part j keys slots t0 t1 t2 args k) (Ev.pos (by omega) (Ev.pos (by omega) ?_))
    rw [rd_at hj, hq]
    refine Ev.neg (by omega) (Ev.neg (by omega) (Ev.pos (by omega) (Ev.pos (by omega) ?_)))
    rw [show wrap64 ((j : Int) + 1) = ((j + 1 : Nat) : Int) from by unfold Sh at hsh; rw [w64 (by omega)]; rfl, Int.toNat_natCast]
    refine set_from up all i t0 t1 t2 args hi part hsh hp hidl m (j + 1) (inn.set q true) (by omega) (by simpa using hl) (fun inn' hl' hs => hk inn' hl' (fun x => ?_))
    rw [hs x, drop_at hj, List.mem_cons, hq, rdOf_set (by omega)]
    constructor
    · rintro ((h | h) | h)
      · exact .inl h
      · exact .inr (.inl (by omega))
      · exact .inr (.inr h)
    · rintro (h | h | h)
      · exact .inl (.inl h)
      · exact .inl (.inr (by omega))
      · exact .inr h
theorem told_from {all : List Int} (hn : keys.length ≤ 2000) (hb : IsBelow keys id all) (hle : ∀ x ∈ all, 0 ≤ x ∧ x < (keys.length : Int)) (hal : all.length ≤ 4000) (inn : List Bool) (hl : inn.length = keys.length) (hin : ∀ x : Nat, x < keys.length → (rdOf false inn (x : Int) = true ↔ Reach keys id x)) :
    ∀ (d i c : Nat), i + d = keys.length → c ≤ all.length → (∀ (j : Nat) (hj : j < all.length), j < c → all[j] < (i : Int)) → (∀ (j : Nat) (hj : j < all.length), c ≤ j → (i : Int) ≤ all[j]) →
    Ev (fun k => tammylaw03_TermBelow.l2 k true all inn (c : Int) (i : Int)) true
  | 0, i, c, h, hc, h1, h2 => by
    have e : c = all.length := by
      rcases Nat.lt_or_ge c all.length with q | q
      · have := h2 c q (Nat.le_refl _)
        have := hle _ (List.getElem_mem q)
        omega
      · omega
    refine Ev.step (fun k => tammylaw03_TermBelow.l2.eq_2 true all inn c i k) (Ev.neg (by omega) (Ev.pos rfl ?_))
    rw [e]
    have : ((all.length : Int) == (all.length : Int)) = true := by simp
    rw [this]
    exact Ev.now _
  | d + 1, i, c, h, hc, h1, h2 => by
    refine Ev.step (fun k => tammylaw03_TermBelow.l2.eq_2 true all inn c i k) (Ev.pos (by omega) (Ev.pos (by omega) ?_))
    rw [show wrap64 ((i : Int) + 1) = ((i + 1 : Nat) : Int) from by rw [w64 (by omega)]; rfl, show wrap64 ((c : Int) + 1) = ((c + 1 : Nat) : Int) from by rw [w64 (by omega)]; rfl]
    have hm : rdOf false inn (i : Int) = true ↔ (i : Int) ∈ all := by
      rw [hin i (by omega), hb.mem]
      constructor
      · intro h; exact ⟨i, rfl, h⟩
      · rintro ⟨n, e, h⟩
        have : i = n := by omega
        rw [this]; exact h
    by_cases e : rdOf false inn (i : Int) = true
    · obtain ⟨j, hj, he⟩ := List.getElem_of_mem (hm.1 e)
      have hjc : c ≤ j := by
        rcases Nat.lt_or_ge j c with q | q
        · have := h1 j hj q; omega
        · exact q
      have hpw := List.pairwise_iff_getElem.1 hb.sorted
      have hcj : j = c := by
        rcases Nat.lt_or_ge c j with q | q
        · have h3 := hpw c j (by omega) hj q
          have h4 := h2 c (by omega) (Nat.le_refl _)
          omega
        · omega
      subst hcj
      refine Ev.pos e (Ev.neg (by omega) (Ev.pos (by omega) (Ev.pos (by omega) ?_)))
      rw [rd_at hj]
      refine Ev.pos he ?_
      refine told_from hn hb hle hal inn hl hin d (i + 1) (j + 1) (by omega) (by omega) (fun p hp hpj => ?_) (fun p hp hpj => ?_)
      · by_cases e2 : p = j
        · subst e2; omega
        · have := h1 p hp (by omega); omega
      · have := hpw j p hj hp (by omega); omega
    · refine Ev.neg e ?_
      refine told_from hn hb hle hal inn hl hin d (i + 1) c (by omega) hc (fun p hp hpj => by have := h1 p hp hpj; omega) (fun p hp hpj => ?_)
      have h3 := h2 p hp hpj
      have : all[p] ≠ (i : Int) := fun e2 => e (hm.2 (e2 ▸ List.getElem_mem hp))
      omega
include S hid
theorem args_from {all : List Int} (hb : IsBelow keys id all) (hle : ∀ x ∈ all, 0 ≤ x ∧ x < (keys.length : Int)) (hal : all.length ≤ 4000) (t0 t1 t2 : Int) : ∀ (m i : Nat) (inn : List Bool), i + m = (partsI keys id).length → inn.length = keys.length →
    (∀ x : Nat, rdOf false inn (x : Int) = true ↔ x = id ∨ ∃ p : Nat, (p : Int) ∈ (partsI keys id).take i ∧ Reach keys p x) →
    Ev (fun k => tammylaw03_TermBelow.l0 k (id : Int) true all inn (i : Int) keys slots t0 t1 t2 (partsI keys id)) true
  | 0, i, inn, h, hl, hs => by
    refine Ev.step (fun k => tammylaw03_TermBelow.l0.eq_2 (id : Int) true all inn i keys slots t0 t1 t2 _ k) (Ev.neg (by omega) ?_)
    refine told_from S.len hb hle hal inn hl (fun x _ => ?_) keys.length 0 0 (by omega) (by omega) (fun j hj h => absurd h (by omega)) (fun j hj _ => by have := hle _ (List.getElem_mem hj); omega)
    rw [hs x, List.take_of_length_le (by omega)]
    constructor
    · rintro (e | ⟨p, h1, h2⟩)
      · rw [e]; exact .refl
      · exact reach_down h1 h2
    · exact reach_parts
  | m + 1, i, inn, h, hl, hs => by
    have hn := S.len
    have hi : i < (partsI keys id).length := by omega
    have hmem : (partsI keys id)[i] ∈ partsI keys id := List.getElem_mem hi
    have hx := S.parts id hid _ hmem
    have hlen : (partsI keys id).length ≤ 2000 := by rw [partsI_at hid, List.length_drop]; have := sumL_row (List.getElem_mem hid); have := S.few; omega
    obtain ⟨q, hq⟩ : ∃ q : Nat, (partsI keys id)[i] = (q : Int) := ⟨(partsI keys id)[i].toNat, by omega⟩
    have hqk : q < keys.length := by omega
    refine Ev.step (fun k => tammylaw03_TermBelow.l0.eq_2 (id : Int) true all inn i keys slots t0 t1 t2 _ k) (Ev.pos (by omega) (Ev.pos (by omega) ?_))
    rw [rd_at hi, hq]
    refine Ev.neg (by omega) (Ev.step (fun k => tammylaw03_TermBelow.j2.eq_2 (id : Int) true all inn i _ keys slots t0 t1 t2 _ k) (Ev.neg (by simp; omega) (Ev.pos (by omega) (Ev.pos (by omega) ?_))))
    rw [rd_at hi, hq]
    obtain ⟨part, hpart, hpb⟩ := tBelow_ev (slots := slots) S hqk
    refine hpart.bind ?_
    have hpl : part.length ≤ q + 1 := nodup_le (q + 1) part (hpb.sorted.imp (fun h => by omega)) (fun x hx => by
      obtain ⟨n, rfl, hn⟩ := (hpb.mem x).1 hx
      have := reach_le S hqk hn
      omega)
    refine set_from (id := id) true all i t0 t1 t2 (partsI keys id) (by omega) part (by unfold Sh; omega) (fun x hx2 => ?_) hid part.length 0 inn (by omega) hl (fun inn' hl' hs' => ?_)
    · obtain ⟨n, rfl, hn⟩ := (hpb.mem x).1 hx2
      have := reach_le S hqk hn
      omega
    · refine args_from hb hle hal t0 t1 t2 m (i + 1) inn' (by omega) hl' (fun x => ?_)
      rw [hs' x, hs x, List.drop_zero, hpb.mem, List.take_succ_eq_append_getElem hi]
      constructor
      · rintro ((e | ⟨p, h1, h2⟩) | ⟨n, e, h2⟩)
        · exact .inl e
        · exact .inr ⟨p, List.mem_append_left _ h1, h2⟩
        · have : x = n := by omega
          exact .inr ⟨q, List.mem_append_right _ (by rw [hq]; exact List.mem_cons_self), by rw [this]; exact h2⟩
      · rintro (e | ⟨p, h1, h2⟩)
        · exact .inl (.inl e)
        · rcases List.mem_append.1 h1 with h1 | h1
          · exact .inl (.inr ⟨p, h1, h2⟩)
          · rw [List.mem_singleton, hq] at h1
            have : p = q := by omega
            rw [this] at h2
            exact .inr ⟨x, rfl, h2⟩
end
theorem TermBelow_true (l : List S62) (keys : List (List Int)) (slots : List Int) (id : Int) (hl : l.length ≤ 9223372036854775807) (hs : ∀ x ∈ l, x.f1.size ≤ 9223372036854775807) (H : Keys keys) (hsl : Sh slots) :
    ∃ q, tammylaw03_TermBelow.f q l keys slots id = some true := by
  refine Ev.rounds (g := fun q => tammylaw03_TermBelow.f q l keys slots id) ?_
  unfold tammylaw03_TermBelow.f
  refine shown_ev.bind ?_
  obtain ⟨b, hb, hst⟩ := of_ev l hl hs H hsl
  refine hb.bind ?_
  have J : Ev (fun k => tammylaw03_TermBelow.j0 k id true true keys slots) true := Ev.step (fun k => tammylaw03_TermBelow.j0.eq_2 _ _ _ keys slots k) (Ev.pos rfl (Ev.now _))
  by_cases e : b = true
  · obtain ⟨S, rfl⟩ := hst e
    refine Ev.pos e ?_
    by_cases e1 : id < 0
    · exact Ev.pos e1 J
    · refine Ev.neg e1 ?_
      by_cases e2 : id ≥ (keys.length : Int)
      · rw [decide_eq_true e2]; exact J
      · rw [decide_eq_false e2]
        obtain ⟨n, rfl⟩ : ∃ n : Nat, id = n := ⟨id.toNat, by omega⟩
        have hn : n < keys.length := by omega
        have hlen := S.len
        obtain ⟨a, b, c, ht⟩ := tOf_at (slots := layS keys) S hn
        obtain ⟨all, ha, hbl⟩ := tBelow_ev (slots := layS keys) S hn
        refine Ev.step (fun k => tammylaw03_TermBelow.j0.eq_2 _ _ _ keys _ k) (Ev.neg (by decide) ?_)
        rw [ht]
        simp only [Option.bind_some]
        refine ha.bind (Ev.pos (by omega) (Ev.pos (by omega) ?_))
        rw [Int.toNat_natCast]
        (try simp only [Option.bind_some])
        refine Ev.pos (by omega) (Ev.pos (by simp; omega) ?_)
        rw [Int.toNat_natCast]
        have hle : ∀ x ∈ all, 0 ≤ x ∧ x < (keys.length : Int) := fun x hx => by
          obtain ⟨q, rfl, hq⟩ := (hbl.mem x).1 hx
          have := reach_le S hn hq
          omega
        have hal := nodup_le keys.length all (hbl.sorted.imp (fun h => by omega)) hle
        refine args_from S hn hbl hle (by omega) a b c (partsI keys n).length 0 _ (by omega) (by simp) (fun x => ?_)
        rw [rdOf_set (by simpa using hn), List.take_zero]
        constructor
        · rintro (h | h)
          · unfold rdOf at h
            rw [List.getD_eq_getElem?_getD, List.getElem?_replicate] at h
            split at h <;> cases h
          · exact .inl h
        · rintro (h | ⟨p, h, _⟩)
          · exact .inr h
          · cases h
  · exact Ev.neg e J
end Go.Proofs.Ytiliknfmlmdmbaa.T
