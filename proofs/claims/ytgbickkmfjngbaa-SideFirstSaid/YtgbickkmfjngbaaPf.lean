/- Plainly: what may not be: both programs tell the same node and the same reason. -/
import Derived.Test.YtgbickkmfjngbaaPe
import Derived.Test.YtgbickkmfjngbaaKx5
namespace Go.Proofs.Ytgbickkmfjngbaa.K
open Go.RowKit Go.Proofs.YtgbickkmfjngbaaW.PrintWords Go.Proofs.YtgbickkmfjngbaaW.PrintLast Go.Proofs.YtgbickkmfjngbaaG.Words
set_option linter.unusedVariables false
set_option linter.unusedSimpArgs false

theorem Ev.val {α : Type} {g : Nat → Option α} {a b : α} (h : a = b) (k : Ev g b) : Ev g a := by rw [h]; exact k
/-- Is a name's constructor of that many parts? -/
def knows (l : List S52) (x : S38) : Bool := if findI x.f1 l 0 < 0 then false else if x.f0 = 3 then ((argsOf l x).size : Int) == x.f2 else decide (((argsOf l x).size : Int) ≥ x.f2)
/-- Why a node may not be on a side. -/
def wspec (l : List S52) (x : S38) (s : Int) : Int :=
  if x.f0 = 4 then (if s = 76 then 0 else 6) else if x.f0 = 5 then (if s = 82 then 0 else 6)
  else if x.f0 = 3 ∨ x.f0 = 6 then (if findI x.f1 l 0 < 0 then 3 else if knows l x = true then (if x.f0 = 6 then (if s = 82 then 0 else 6) else 0) else 5) else 0
theorem parts2 {l : List S52} (hl : l.length ≤ 64) {x : S38} (hx : x.f0 = 3 ∨ x.f0 = 6) (hM : May x) (hn : ¬ findI x.f1 l 0 < 0) : ∃ p, side_parts.f l x.f0 x.f1 x.f2 = some (p, knows l x) := by
  have hin := findI_in x.f1 l 0
  have h0 : 0 ≤ findI x.f1 l 0 := by omega
  have h1 : findI x.f1 l 0 < (l.length : Int) := by omega
  unfold side_parts.f sig_Find.f knows argsOf
  simp only [Option.bind_some, if_neg hn, if_pos h0, if_pos h1]
  by_cases h3 : x.f0 = 3
  · simp only [if_pos h3]; exact ⟨_, rfl⟩
  · simp only [if_neg h3]
    have hN : 1 ≤ x.f2 ∧ x.f2 ≤ 8 := by have := hM.2; omega
    rw [w64 (n := x.f2 - 1) (by omega)]
    by_cases hs : x.f2 ≤ ((rd_T52 l (findI x.f1 l 0)).f1.size : Int)
    · rw [if_pos hs, if_pos (by omega), if_pos (by omega), decide_eq_true hs]; exact ⟨_, rfl⟩
    · rw [if_neg hs, decide_eq_false hs]; exact ⟨_, rfl⟩
theorem wrong_j0 {l : List S52} (hl : l.length ≤ 64) {x : S38} (hx : x.f0 = 3 ∨ x.f0 = 6) (hM : May x) (s o : Int) : Ev (fun k => side_wrong.j0 k l s o x.f0 x.f1 x.f2) (if findI x.f1 l 0 < 0 then 3 else if knows l x = true then (if o = 66 then 0 else if s = o then 0 else 6) else 5) := by
  refine Ev.step (fun k => side_wrong.j0.eq_2 _ _ _ _ _ _ k) (Ev.pure rfl ?_)
  by_cases hn : findI x.f1 l 0 < 0
  · exact Ev.val (if_pos hn) (Ev.pos hn (Ev.now _))
  · obtain ⟨p, hp⟩ := parts2 hl hx hM hn
    refine Ev.val (if_neg hn) (Ev.neg hn (Ev.pure hp ?_))
    by_cases hk : knows l x = true
    · refine Ev.val (if_pos hk) (Ev.pos hk ?_)
      by_cases ho : o = 66
      · exact Ev.val (if_pos ho) (Ev.pos ho (Ev.now _))
      · refine Ev.val (if_neg ho) (Ev.neg ho ?_)
        by_cases hs : s = o
        · exact Ev.val (if_pos hs) (Ev.pos hs (Ev.now _))
        · exact Ev.val (if_neg hs) (Ev.neg hs (Ev.now _))
    · exact Ev.val (if_neg hk) (Ev.neg hk (Ev.now _))
theorem wrong_is {l : List S52} (hl : l.length ≤ 64) {x : S38} (hM : May x) (s : Int) : Ev (fun k => side_wrong.f k l x.f0 x.f1 x.f2 s) (wspec l x s) := by
  unfold side_wrong.f wspec
  by_cases h4 : x.f0 = 4
  · refine Ev.val (if_pos h4) (Ev.pos h4 (Ev.neg (by decide) ?_))
    by_cases hs : s = 76
    · exact Ev.val (if_pos hs) (Ev.pos hs (Ev.now _))
    · exact Ev.val (if_neg hs) (Ev.neg hs (Ev.now _))
  refine Ev.val (if_neg h4) (Ev.neg h4 ?_)
  by_cases h5 : x.f0 = 5
  · refine Ev.val (if_pos h5) (Ev.pos h5 (Ev.neg (by decide) ?_))
    by_cases hs : s = 82
    · exact Ev.val (if_pos hs) (Ev.pos hs (Ev.now _))
    · exact Ev.val (if_neg hs) (Ev.neg hs (Ev.now _))
  refine Ev.val (if_neg h5) (Ev.neg h5 ?_)
  by_cases h6 : x.f0 = 6
  · refine Ev.val (if_pos (.inr h6)) (Ev.pos h6 (Ev.val ?_ (wrong_j0 hl (.inr h6) hM s 82)))
    rw [if_pos h6, if_neg (show ¬ (82 : Int) = 66 by decide)]
  refine Ev.neg h6 ?_
  by_cases h3 : x.f0 = 3
  · refine Ev.val (if_pos (.inl h3)) (Ev.pos h3 (Ev.val ?_ (wrong_j0 hl (.inl h3) hM s 66)))
    rw [if_neg h6, if_pos rfl]
  · exact Ev.val (if_neg (by omega)) (Ev.neg h3 (Ev.pos rfl (Ev.now _)))
/-- The first of m nodes from i on that may not be, and why. -/
def chk (l : List S52) (e : List S38) (o : List Int) : Nat → Nat → Int × Int
  | 0, _ => (0, 0)
  | m + 1, i => if wspec l (rd_T38 e (i : Int)) (rd o (i : Int)) = 0 then chk l e o m (i + 1) else ((i : Int), wspec l (rd_T38 e (i : Int)) (rd o (i : Int)))
theorem Check_l0 {l : List S52} (hl : l.length ≤ 64) {e : List S38} (F : Fine e) {o : List Int} (ho : o.length = e.length) : ∀ (m i : Nat), i + m = e.length → Ev (fun k => side_Check.l0 k l e o (o.length : Int) (i : Int)) (chk l e o m i)
  | m, i, hm => by
    have hn := F.len
    refine Ev.step (fun k => side_Check.l0.eq_2 _ _ _ _ _ k) ?_
    cases m with
    | zero => exact Ev.neg (by omega) (Ev.now _)
    | succ m =>
      refine Ev.pos (by omega) (Ev.pos (by omega) (Ev.pos (by omega) (Ev.pos (by omega) (Ev.bind (wrong_is hl (F.may i (by omega)) _) ?_))))
      rw [chk, w64 (n := (i : Int) + 1) (by omega)]
      by_cases h : wspec l (rd_T38 e (i : Int)) (rd o (i : Int)) = 0
      · exact Ev.val (if_pos h) (Ev.pos h (Check_l0 hl F ho m (i + 1) (by omega)))
      · exact Ev.val (if_neg h) (Ev.neg h (Ev.now _))
theorem side_Check_is {l : List S52} (hl : l.length ≤ 64) {e : List S38} (F : Fine e) (a : Int) : Ev (fun k => side_Check.f k l e a) (chk l e (sides l e a) e.length 0) := by
  unfold side_Check.f
  exact Ev.pure (side_Of_is hl F a) (Check_l0 hl F (sides_len l e a) e.length 0 (by omega))
end Go.Proofs.Ytgbickkmfjngbaa.K
