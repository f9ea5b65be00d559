/- tammylaw03.shown: the document's example. -/
import Derived.Test.YtiliknfmlmdmbaaHi
import Derived.Test.YtiliknfmlmdmbaaTx0
import Derived.Test.YtiliknfmlmdmbaaTx6
import Derived.Test.YtiliknfmlmdmbaaTx7
namespace Go.Proofs.Ytiliknfmlmdmbaa.T
open Go.RowKit Go.Proofs.YtiliknfmlmdmbaaW.PrintWords Go.Proofs.YtiliknfmlmdmbaaW.PrintLast Go.Proofs.YtiliknfmlmdmbaaW.PrintMore
set_option linter.unusedVariables false
set_option linter.unusedSimpArgs false
def tammylaw03_shown.f (k : Nat) : Option Bool :=
  (term_New.f k).bind fun t => (term_Put.f k [] t.1 t.2 2 0 0 [] 9).bind fun x => (term_Right.f k [] x.1 x.2.1).bind fun b => (term_Below.f k x.1 x.2.1 2).bind fun l =>
    if x.2.2.2 = 0 ∧ x.2.2.1 = 2 ∧ x.1.length = 3 ∧ b = true ∧ l.length = 1 then some true else none
theorem tammylaw03_shown.mono : ∀ k, LeO (tammylaw03_shown.f k) (tammylaw03_shown.f (k + 1)) := fun k =>
  LeO.bind (term_New.mono k) fun t => LeO.bind (term_Put.mono _ _ _ _ _ _ _ _ k) fun x => LeO.bind (term_Right.mono _ _ _ k) fun b => LeO.bind (term_Below.mono _ _ _ k) fun l => LeO.refl _
set_option maxRecDepth 100000 in
set_option maxHeartbeats 4000000 in
theorem tammylaw03_shown.calls (k : Nat) (r : Bool) (w : World) (h : tammylaw03_shown.f k = some r) :
    Calls Try.prog 5 #[] w fun e w' => e = .returned (.bool r) ∧ Below w.heap.size w w' := by
  have hu26 := Try.underlying26
  have hu28 := Try.underlying28
  have hu33 := Try.underlying33
  unfold tammylaw03_shown.f at h
  obtain ⟨⟨ks, sl⟩, h1, h⟩ := Option.bind_eq_some_iff.mp h
  obtain ⟨⟨b1, b2, b3, b4⟩, h2, h⟩ := Option.bind_eq_some_iff.mp h
  obtain ⟨b, h3, h⟩ := Option.bind_eq_some_iff.mp h
  obtain ⟨l, h4, h⟩ := Option.bind_eq_some_iff.mp h
  dsimp only at h2 h3 h4 h
  by_cases hc : b4 = 0 ∧ b3 = 2 ∧ b1.length = 3 ∧ b = true ∧ l.length = 1
  case neg => rw [if_neg hc] at h; cases h
  rw [if_pos hc] at h
  obtain rfl := Option.some.inj h
  obtain ⟨rfl, rfl, h5, rfl, h6⟩ := hc
  have hb5 : ((b1.length : Int) == 3) = true := by simp [h5]
  have hb6 : ((l.length : Int) == 1) = true := by simp [h6]
  have H1 := Aside0.mk h1
  have H2 := Aside0.mk h2
  have H3 := Aside0.mk h3
  have H4 := Aside0.mk h4
  clear h1 h2 h3 h4 h5 h6 h
  go_enter Try.func5, Try.ntmps5
  go_wp2_with fail
  refine (term_New.calls k ks sl _ H1.out).mono ?_
  rintro e w2 ⟨v2, rfl, ⟨A0, c0, A1, c1, rfl, hc0, hc1, hC0, hC1⟩, hb2⟩
  have HC0 := Aside0.mk hC0
  have HC1 := Aside0.mk hC1
  have HL := Aside0.mk (show ks.length ≤ c0 ∧ sl.length ≤ c1 from ⟨hc0, hc1⟩)
  have HB2 := Aside0.mk hb2
  clear hC0 hC1 hc0 hc1 hb2
  go_wp2_with fail
  refine (term_Put.calls k none 0 [] A0 c0 ks A1 c1 sl 2 0 0 none 0 [] 9 b1 b2 2 0 _ (Kd.C_nil _ _) (Nat.le_refl _) HC0.out HL.out.1 HC1.out HL.out.2 (Kd.C_nil _ _) (Nat.le_refl _) H2.out).mono ?_
  rintro e w3 ⟨v3, rfl, ⟨A3, c3, A4, c4, rfl, hc3, hc4, hC3, hC4⟩, hb3⟩
  have HB3 := Aside0.mk (below_step HB2.out hb3)
  have HL3 := Aside0.mk (show b1.length ≤ c3 ∧ b2.length ≤ c4 from ⟨hc3, hc4⟩)
  have HC3 := Aside0.mk hC3
  have HC4 := Aside0.mk hC4
  clear hC3 hC4 hc3 hc4 hb3
  go_wp2_with fail
  refine (term_Right.calls k none 0 [] A3 c3 b1 A4 c4 b2 true _ (Kd.C_nil _ _) (Nat.le_refl _) (Kd.C_below HC3.out (below_alloc (Below.refl _ _) _)) HL3.out.1 (Kd.C_below HC4.out (below_alloc (Below.refl _ _) _)) HL3.out.2 H3.out).mono ?_
  rintro e w4 ⟨rfl, hb4⟩
  have HB4 := Aside0.mk (below_step (below_alloc HB3.out (.cells #[.slice A3 b1.length c3, .slice A4 b2.length c4] 26)) hb4)
  have HX := Aside0.mk (below_step (below_alloc (Below.refl w3.heap.size w3) (.cells #[.slice A3 b1.length c3, .slice A4 b2.length c4] 26)) hb4)
  have HT := Aside0.mk (blk_below (blk_new w3 (.cells #[.slice A3 b1.length c3, .slice A4 b2.length c4] 26)) hb4)
  have hcK := blk_cell HT.out 0
  have hcS := blk_cell HT.out 1
  simp only [List.getElem?_toArray, List.getElem?_cons_zero, List.getElem?_cons_succ] at hcK hcS
  clear hb4
  go_wp2_with fail
  refine (term_Below.calls k A3 c3 b1 A4 c4 b2 2 l _ (Kd.C_below HC3.out HX.out) HL3.out.1 (Kd.C_below HC4.out HX.out) HL3.out.2 H4.out).mono ?_
  rintro e w5 ⟨v5, rfl, ho5, hb5⟩
  obtain ⟨A5, c5, rfl⟩ := Kd.R_slice ho5
  have HB5 := Aside0.mk (below_step HB4.out hb5)
  clear hb5 ho5
  go_wp2_with fail
  go_ret
  exact ⟨rfl, HB5.out⟩
end Go.Proofs.Ytiliknfmlmdmbaa.T
