/- tammylaw11.shown: the document's example. -/
import Derived.Test.YtfjgfkokhnpbcaaYa
import Derived.Test.YtfjgfkokhnpbcaaUx0
import Derived.Test.YtfjgfkokhnpbcaaUx1
import Derived.Test.YtfjgfkokhnpbcaaUx6
namespace Go.Proofs.Ytfjgfkokhnpbcaa.U
open Go.RowKit Go.Proofs.YtfjgfkokhnpbcaaW.PrintWords Go.Proofs.YtfjgfkokhnpbcaaW.PrintLast Go.Proofs.YtfjgfkokhnpbcaaW.PrintMore
set_option linter.unusedVariables false
set_option linter.unusedSimpArgs false
attribute [local go_sem high] eqA30
def tammylaw11_shown.f (k : Nat) : Option Bool :=
  (work_New.f k).bind fun q => (work_Put.f k q.1 q.2.1 q.2.2 2 1).bind fun a => (work_Put.f k a.1 a.2.1 a.2.2.1 1 5).bind fun b => (work_Put.f k b.1 b.2.1 b.2.2.1 2 1).bind fun c =>
    (work_Next.f c.1 c.2.1 c.2.2.1).bind fun d => (work_Right.f k c.1 c.2.1 c.2.2.1).bind fun e =>
      if a.2.2.2 = true ∧ b.2.2.2 = true ∧ c.2.2.2 = false ∧ d.2.2.2.1 = 1 ∧ d.2.2.2.2.1 = 5 ∧ d.2.2.2.2.2 = true ∧ e = true then some true else none
theorem tammylaw11_shown.mono : ∀ k, LeO (tammylaw11_shown.f k) (tammylaw11_shown.f (k + 1)) := fun k =>
  LeO.bind (work_New.mono k) fun q => LeO.bind (work_Put.mono _ _ _ _ _ k) fun a => LeO.bind (work_Put.mono _ _ _ _ _ k) fun b => LeO.bind (work_Put.mono _ _ _ _ _ k) fun c =>
    LeO.bind (LeO.refl _) fun d => LeO.bind (work_Right.mono _ _ _ k) fun e => LeO.refl _
set_option maxRecDepth 100000 in
set_option maxHeartbeats 4000000 in
theorem tammylaw11_shown.calls (k : Nat) (r : Bool) (w : World) (h : tammylaw11_shown.f k = some r) :
    Calls Try.prog 8 #[] w fun e w' => e = .returned (.bool r) ∧ Below w.heap.size w w' := by
  have hu28 := Try.underlying28
  have hu30 := Try.underlying30
  unfold tammylaw11_shown.f at h
  obtain ⟨⟨q0, q1, q2⟩, h1, h⟩ := Option.bind_eq_some_iff.mp h
  obtain ⟨⟨a0, a1, a2, a3⟩, h2, h⟩ := Option.bind_eq_some_iff.mp h
  obtain ⟨⟨b0, b1, b2, b3⟩, h3, h⟩ := Option.bind_eq_some_iff.mp h
  obtain ⟨⟨c0, c1, c2, c3⟩, h4, h⟩ := Option.bind_eq_some_iff.mp h
  obtain ⟨⟨d0, d1, d2, x0, x1, d3⟩, h5, h⟩ := Option.bind_eq_some_iff.mp h
  obtain ⟨e, h6, h⟩ := Option.bind_eq_some_iff.mp h
  dsimp only at h2 h3 h4 h5 h6 h
  by_cases hc : a3 = true ∧ b3 = true ∧ c3 = false ∧ x0 = 1 ∧ x1 = 5 ∧ d3 = true ∧ e = true
  case neg => rw [if_neg hc] at h; cases h
  rw [if_pos hc] at h
  obtain rfl := Option.some.inj h
  obtain ⟨rfl, rfl, rfl, rfl, rfl, rfl, rfl⟩ := hc
  have H1 := Aside0.mk h1
  have H2 := Aside0.mk h2
  have H3 := Aside0.mk h3
  have H4 := Aside0.mk h4
  have H5 := Aside0.mk h5
  have H6 := Aside0.mk h6
  clear h1 h2 h3 h4 h5 h6 h
  go_enter Try.func8, Try.ntmps8
  go_wp2_with fail
  refine (New16 k q0 q1 q2 _ H1.out).mono ?_
  rintro e w1 ⟨A0, e0, A1, e1, A2, e2, rfl, hq1, hb1⟩
  have HQ1 := Aside0.mk hq1
  have HB1 := Aside0.mk hb1
  clear hq1 hb1
  go_wp2_with fail
  refine (Put11 k A0 e0 q0 A1 e1 q1 A2 e2 q2 2 1 a0 a1 a2 true _ HQ1.out H2.out).mono ?_
  rintro e w2 ⟨A20, e20, A21, e21, A22, e22, rfl, hq, hb⟩
  have HQ2 := Aside0.mk (hq.below (below_alloc (Below.refl _ _) (.cells #[.slice A20 a0.length e20, .slice A21 a1.length e21, .slice A22 a2.length e22] 28)))
  have HB2 := Aside0.mk (below_alloc (below_step HB1.out hb) (.cells #[.slice A20 a0.length e20, .slice A21 a1.length e21, .slice A22 a2.length e22] 28))
  have hN := blk_new w2 (.cells #[.slice A20 a0.length e20, .slice A21 a1.length e21, .slice A22 a2.length e22] 28)
  have hcn0 := (blk_cell hN 0).trans rfl
  have hcn1 := (blk_cell hN 1).trans rfl
  have hcn2 := (blk_cell hN 2).trans rfl
  have HN2 := Aside0.mk hN
  clear hq hb hN
  go_wp2_with fail
  clear hcn0 hcn1 hcn2
  refine (Put11 k A20 e20 a0 A21 e21 a1 A22 e22 a2 1 5 b0 b1 b2 true _ HQ2.out H3.out).mono ?_
  rintro e w3 ⟨A30, e30, A31, e31, A32, e32, rfl, hq, hb⟩
  have HQ3 := Aside0.mk (hq.below (below_alloc (Below.refl _ _) (.cells #[.slice A30 b0.length e30, .slice A31 b1.length e31, .slice A32 b2.length e32] 28)))
  have HB3 := Aside0.mk (below_alloc (below_step HB2.out hb) (.cells #[.slice A30 b0.length e30, .slice A31 b1.length e31, .slice A32 b2.length e32] 28))
  have hN := blk_new w3 (.cells #[.slice A30 b0.length e30, .slice A31 b1.length e31, .slice A32 b2.length e32] 28)
  have hcn0 := (blk_cell hN 0).trans rfl
  have hcn1 := (blk_cell hN 1).trans rfl
  have hcn2 := (blk_cell hN 2).trans rfl
  have HN3 := Aside0.mk hN
  clear hq hb hN
  go_wp2_with fail
  clear hcn0 hcn1 hcn2
  refine (Put11 k A30 e30 b0 A31 e31 b1 A32 e32 b2 2 1 c0 c1 c2 false _ HQ3.out H4.out).mono ?_
  rintro e w4 ⟨A40, e40, A41, e41, A42, e42, rfl, hq, hb⟩
  have HQ4 := Aside0.mk (hq.below (below_alloc (Below.refl _ _) (.cells #[.slice A40 c0.length e40, .slice A41 c1.length e41, .slice A42 c2.length e42] 28)))
  have HB4 := Aside0.mk (below_alloc (below_step HB3.out hb) (.cells #[.slice A40 c0.length e40, .slice A41 c1.length e41, .slice A42 c2.length e42] 28))
  have hN := blk_new w4 (.cells #[.slice A40 c0.length e40, .slice A41 c1.length e41, .slice A42 c2.length e42] 28)
  have hcn0 := (blk_cell hN 0).trans rfl
  have hcn1 := (blk_cell hN 1).trans rfl
  have hcn2 := (blk_cell hN 2).trans rfl
  have HN4 := Aside0.mk hN
  clear hq hb hN
  go_wp2_with fail
  clear hcn0 hcn1 hcn2
  refine (Next12 A40 e40 c0 A41 e41 c1 A42 e42 c2 d0 d1 d2 1 5 true _ HQ4.out H5.out).mono ?_
  rintro e w5 ⟨A50, e50, A51, e51, A52, e52, rfl, hq, hb⟩
  have HB5 := Aside0.mk (below_alloc (below_alloc (below_step HB4.out hb) (.cells #[.slice A50 d0.length e50, .slice A51 d1.length e51, .slice A52 d2.length e52] 28)) (.cells #[.int .i64 1, .int .i64 5] 30))
  have hN4 := blk_alloc (blk_alloc (blk_below HN4.out hb) (.cells #[.slice A50 d0.length e50, .slice A51 d1.length e51, .slice A52 d2.length e52] 28)) (.cells #[.int .i64 1, .int .i64 5] 30)
  have HQ5 := Aside0.mk ((HQ4.out.below hb).below (below_alloc (below_alloc (Below.refl _ _) (.cells #[.slice A50 d0.length e50, .slice A51 d1.length e51, .slice A52 d2.length e52] 28)) (.cells #[.int .i64 1, .int .i64 5] 30)))
  have hX := blk_new (w5.alloc (.cells #[.slice A50 d0.length e50, .slice A51 d1.length e51, .slice A52 d2.length e52] 28)) (.cells #[.int .i64 1, .int .i64 5] 30)
  have hcn0 := (blk_cell hN4 0).trans rfl
  have hcn1 := (blk_cell hN4 1).trans rfl
  have hcn2 := (blk_cell hN4 2).trans rfl
  have hcx0 := (blk_cell hX 0).trans rfl
  have hcx1 := (blk_cell hX 1).trans rfl
  simp only [World.size_alloc] at hcx0 hcx1
  have HX := Aside0.mk hX
  clear hq hb hN4 hX
  go_wp2_with fail
  refine (Right21 k A40 e40 c0 A41 e41 c1 A42 e42 c2 true _ HQ5.out H6.out).mono ?_
  rintro e w6 ⟨rfl, hb6⟩
  have HB6 := Aside0.mk (below_step HB5.out hb6)
  have hX6 := blk_below HX.out hb6
  have hcy0 := (blk_cell hX6 0).trans rfl
  have hcy1 := (blk_cell hX6 1).trans rfl
  simp only [World.size_alloc] at hcy0 hcy1
  clear hcn0 hcn1 hcn2 hcx0 hcx1 hb6 hX6
  go_wp2_with fail
  refine (Less13r 1 5 2 1 true _ (by decide)).mono ?_
  rintro e w7 ⟨rfl, hb7⟩
  have HB7 := Aside0.mk (below_step HB6.out hb7)
  clear hcy0 hcy1 hb7
  go_wp2_with fail
  go_ret
  exact ⟨rfl, HB7.out⟩
end Go.Proofs.Ytfjgfkokhnpbcaa.U
