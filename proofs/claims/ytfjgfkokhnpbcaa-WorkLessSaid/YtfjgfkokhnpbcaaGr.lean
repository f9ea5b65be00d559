/- A region that draws its order, walked in a round of a range over a function: by the walk of a plain frame. -/
import Derived.RangeFuncCalls
import Derived.RegionIn
import Derived.StillTailTactics
import Derived.Test.YtfjgfkokhnpbcaaWTab
namespace Go.Proofs.YtfjgfkokhnpbcaaR
open Go.RowKit Go.Proofs.YtfjgfkokhnpbcaaW.PrintLast
set_option linter.unusedVariables false

theorem upon_round {P : Program} {l n : Nat} {o : Oper} {a : Act} {K : Act → World → Prop} {Q : Exit → Act → World → Prop} : ∀ {r : Result Next}, Oper.upon P o a K Q r → Oper.uponIn (Fence.wide.inRound l) n P o a K Q r := by
  intro r h
  cases r with
  | ok nx w =>
    cases nx with
    | value v => exact h
    | skip => exact h
    | defer d => exact h
    | enter f args => exact ⟨fun hd => Bool.noConfusion hd, CallsIn.inRound l (callsIn_wide.2 h)⟩
    | row row args =>
      refine ⟨fun hd => Bool.noConfusion hd, fun c cs _ => ?_⟩
      obtain ⟨v, w', hr, hs⟩ := h c cs
      exact ⟨v, w', hr, stepsIn_wide.2 hs⟩
    | _ => exact h.elim
  | halt x w =>
    cases x with
    | panic v => exact h
    | _ => exact h.elim

theorem any_round {P : Program} {md : Region.Mode} {ops : Array Oper} {l n : Nat} {Q : Exit → Act → World → Prop} (hd : ∀ (j : Nat) (o : Oper), ops[j]? = some o → ∀ c, o.op ≠ .defer c) (hno : ¬ LetsOut Q) :
    ∀ (fuel : Nat) (listed : Array Bool) (a : Act) (w : World), wpAny P md ops Q fuel listed a w → wpAnyIn (Fence.wide.inRound l) n P md ops Q fuel listed a w
  | 0, listed, a, w, h => h
  | fuel + 1, listed, a, w, h => by
    refine ⟨h.1, fun i hi => ?_⟩
    have h2 := h.2 i hi
    unfold wpOp at h2
    unfold wpOpIn
    cases ho : ops[i]? with
    | none => rw [ho] at h2; exact any_round hd hno fuel _ _ _ h2
    | some o =>
      rw [ho] at h2
      dsimp only at h2 ⊢
      by_cases hw : Region.wanted o (yielded ops a.tmps) = true
      · rw [if_pos hw] at h2 ⊢
        rcases h2 with h2 | h2
        · refine ⟨fun _ _ => trivial, ?_⟩
          rw [Oper.semAt_eq _ _ _ (hd i o ho)]
          refine upon_round (?_ : Oper.upon P o a (wpAnyIn (Fence.wide.inRound l) n P md ops Q fuel (listed.setIfInBounds i true)) Q _)
          exact Oper.wp_mono (fun a w => any_round hd hno fuel _ a w) h2
        · exact absurd h2.2 hno
      · rw [if_neg hw] at h2 ⊢
        exact ⟨fun _ _ => trivial, any_round hd hno fuel _ _ _ h2⟩

/-- No operation is a 'defer' statement. -/
def noDefer (ops : List Oper) : Bool := ops.all fun o => match o.op with
  | .defer _ => false
  | _ => true
theorem noDefer_spec {l : List Oper} (h : noDefer l = true) : ∀ (j : Nat) (o : Oper), l.toArray[j]? = some o → ∀ c, o.op ≠ .defer c := by
  intro j o ho c e
  have h1 := List.all_eq_true.1 h o (by simp at ho; exact List.mem_of_getElem? ho)
  rw [e] at h1
  cases h1

/-- Reads and quiet calls, and a tail in the text's own order ('go_still_tail' of a plain frame), in a round. -/
theorem tail_round {P : Program} {l n : Nat} {id : Nat} {Q : Exit → Act → World → Prop} {a : Act} {w : World} {ops : List Oper} (m : Nat) (hm : P.follows .mixedOrders = true) (hB : Region.lexTailB .any ops.toArray m = true) (hd : noDefer ops = true) (hno : ¬ LetsOut Q)
    (h : wpStill P ops.toArray { w with drawn := w.drawn + 1 } (fun a' => wpList P ops.toArray Q (ops.drop m) a' { w with drawn := w.drawn + 1 }) (ops.take m) a) : (Code.region id ops.toArray true).wpIn (Fence.wide.inRound l) n P Q a w := by
  refine wpIn_region_any hm (any_round (noDefer_spec hd) hno _ _ _ _ ?_)
  simp only [Region.lexTailB, Bool.and_eq_true, decide_eq_true_eq] at hB
  obtain ⟨⟨⟨⟨h1, h2⟩, h3⟩, h4⟩, h5⟩ := hB
  have h2' : m < ops.length := by simpa using h2
  have e1 : (ops.take m).length = m := by simp; omega
  have e2 : (ops.drop m).length = ops.toArray.size - m := by simp
  have hi : HeadInv .any ops.toArray m (Array.replicate ops.toArray.size false) :=
    ⟨by simp, fun j oj _ hl => (by rw [getD_replicate_false] at hl; cases hl), fun t _ ht => getD_in (by simpa using ht) (getD_replicate_false _ _)⟩
  have key := wpAnyL_lex (md := .any) (g := ops.toArray.size - m) h1 h3 h4 h2 (ops.take m) 0 _ a (fun j hj => by simp [show j < m by rwa [e1] at hj]) (by simpa using e1) hi (by rw [e1]; exact h5) h
  have fin := wpAny_of_head (Q' := Q) (g := ops.toArray.size - m) (fun listed a' hL => by
    have t := wpAny_of_seq (md := .any) (Q' := Q) (ops.drop m) m listed a' { w with drawn := w.drawn + 1 } (fun j => by simp [List.getElem?_drop]) (by rw [e2]; exact hL.1) hL.2
    rwa [e2] at t) _ _ _ key
  rwa [e1, show m + (ops.toArray.size - m) = ops.toArray.size by omega] at fin

/-- 'start_' (the print's words) in a round. -/
theorem start_round {P : Program} {l n k : Nat} {id : Nat} {Q : Exit → Act → World → Prop} {a : Act} {w : World} {ops : List Oper} {S : World → Prop} {ds : List Nat} (li : Array Bool) (hm : P.follows .mixedOrders = true) (hd : noDefer ops = true) (hno : ¬ LetsOut Q)
    (hn : ops.toArray.size = k) (hl : Array.replicate k false = li) (hS : S w.drew) (h : S w.drew → wpAnyLast P .any ops.toArray Q S ds k li a w.drew) : (Code.region id ops.toArray true).wpIn (Fence.wide.inRound l) n P Q a w := by
  subst hn
  subst hl
  exact wpIn_region_any hm (any_round (noDefer_spec hd) hno _ _ _ _ (wpAny_of_last _ _ _ _ (h hS)))

end Go.Proofs.YtfjgfkokhnpbcaaR
