/- tammylaw03.TermPuts walked. -/
import Derived.Test.YtiliknfmlmdmbaaHl
import Derived.Test.YtiliknfmlmdmbaaHm
import Derived.Test.YtiliknfmlmdmbaaTx0
import Derived.Test.YtiliknfmlmdmbaaTx6
import Derived.Test.YtiliknfmlmdmbaaTx10
import Derived.Test.YtiliknfmlmdmbaaTx13
import Derived.Test.YtiliknfmlmdmbaaTx15
import Derived.Test.YtiliknfmlmdmbaaTx16
namespace Go.Proofs.Ytiliknfmlmdmbaa.T
open Go.RowKit Go.Proofs.YtiliknfmlmdmbaaW.PrintWords Go.Proofs.YtiliknfmlmdmbaaW.PrintLast Go.Proofs.YtiliknfmlmdmbaaW.PrintMore
set_option linter.unusedVariables false
set_option linter.unusedSimpArgs false
def tammylaw03_TermPuts.f (k : Nat) (l0 : List S62) (l1_0 : List (List Int)) (l1_1 : List Int) (a2_0 a2_1 a2_2 : Int) (l2_3 : List Int) (a3 a4 : Int) : Option Bool :=
  (tammylaw03_shown.f k).bind fun up => (tammylaw03_of.f k l0 l1_0 l1_1).bind fun o => if up = true then (if o = true ∧ (l2_3.length : Int) ≤ 100 then
    (term_Put.f k l0 l1_0 l1_1 a2_0 a2_1 a2_2 l2_3 a3).bind fun x => (tammyref03_Put.f k l0 l1_0 l1_1 a2_0 a2_1 a2_2 l2_3 a3).bind fun y => (tammyref02_Same.f k x.1 x.2.1 y.1 y.2.1).bind fun s =>
    (term_Below.f k l1_0 l1_1 a4).bind fun p => (tammyref03_Below.f k l1_0 l1_1 a4).bind fun q => (tammyref02_Ints.f k p q).bind fun e => if s = true ∧ x.2.2.1 = y.2.2.1 ∧ x.2.2.2 = y.2.2.2 ∧ e = true then some true else none
    else some true) else none
set_option maxRecDepth 100000 in
set_option maxHeartbeats 4000000 in
theorem tammylaw03_TermPuts.calls (k : Nat) (A0 : Option Addr) (c0 : Nat) (l0 : List (S62)) (A1_0 : Option Addr) (c1_0 : Nat) (l1_0 : List (List Int)) (A1_1 : Option Addr) (c1_1 : Nat) (l1_1 : List Int) (a2_0 : Int) (a2_1 : Int) (a2_2 : Int) (A2_3 : Option Addr) (c2_3 : Nat) (l2_3 : List Int) (a3 a4 : Int) (r : Bool) (w : World) (hr0 : Kd.C k62 w A0 l0.length l0) (hc0 : l0.length ≤ c0) (hr1_0 : Kd.C (Kd.slice 3 (Kd.int .i64)) w A1_0 l1_0.length l1_0) (hc1_0 : l1_0.length ≤ c1_0) (hr1_1 : Kd.C (Kd.int .i64) w A1_1 l1_1.length l1_1) (hc1_1 : l1_1.length ≤ c1_1) (hr2_3 : Kd.C (Kd.int .i64) w A2_3 l2_3.length l2_3) (hc2_3 : l2_3.length ≤ c2_3)
    (h : tammylaw03_TermPuts.f k l0 l1_0 l1_1 a2_0 a2_1 a2_2 l2_3 a3 a4 = some r) :
    Calls Try.prog 3 #[.agg #[.slice A0 l0.length c0, .slice A1_0 l1_0.length c1_0, .slice A1_1 l1_1.length c1_1, .int .i64 a2_0, .int .i64 a2_1, .int .i64 a2_2, .slice A2_3 l2_3.length c2_3, .int .i64 a3, .int .i64 a4]] w fun e w' => e = .returned (.bool r) ∧ Below w.heap.size w w' := by
  have hu26 := Try.underlying26
  have hu28 := Try.underlying28
  have hu30 := Try.underlying30
  have HR0 := Aside0.mk hr0
  have HR10 := Aside0.mk hr1_0
  have HR11 := Aside0.mk hr1_1
  have HR23 := Aside0.mk hr2_3
  clear hr0 hr1_0 hr1_1 hr2_3
  unfold tammylaw03_TermPuts.f at h
  obtain ⟨up, h1, h⟩ := Option.bind_eq_some_iff.mp h
  obtain ⟨o, h2, h⟩ := Option.bind_eq_some_iff.mp h
  cases up with
  | false => rw [if_neg (by decide)] at h; cases h
  | true =>
  rw [if_pos rfl] at h
  have H1 := Aside0.mk h1
  have H2 := Aside0.mk h2
  have H := Aside0.mk h
  clear h1 h2 h
  have hB1 : Below w.heap.size w (((w.alloc (.cells #[.slice A0 l0.length c0, .slice A1_0 l1_0.length c1_0, .slice A1_1 l1_1.length c1_1, .int .i64 a2_0, .int .i64 a2_1, .int .i64 a2_2, .slice A2_3 l2_3.length c2_3, .int .i64 a3, .int .i64 a4] 30)).alloc (.cells #[.slice A1_0 l1_0.length c1_0, .slice A1_1 l1_1.length c1_1] 26)).alloc (.cells #[.int .i64 a2_0, .int .i64 a2_1, .int .i64 a2_2, .slice A2_3 l2_3.length c2_3] 28)) := below_alloc (below_alloc (below_alloc (Below.refl _ _) _) _) _
  have hP1 := blk_alloc (blk_new (w.alloc (.cells #[.slice A0 l0.length c0, .slice A1_0 l1_0.length c1_0, .slice A1_1 l1_1.length c1_1, .int .i64 a2_0, .int .i64 a2_1, .int .i64 a2_2, .slice A2_3 l2_3.length c2_3, .int .i64 a3, .int .i64 a4] 30)) (.cells #[.slice A1_0 l1_0.length c1_0, .slice A1_1 l1_1.length c1_1] 26)) (.cells #[.int .i64 a2_0, .int .i64 a2_1, .int .i64 a2_2, .slice A2_3 l2_3.length c2_3] 28)
  have hQ1 := blk_new ((w.alloc (.cells #[.slice A0 l0.length c0, .slice A1_0 l1_0.length c1_0, .slice A1_1 l1_1.length c1_1, .int .i64 a2_0, .int .i64 a2_1, .int .i64 a2_2, .slice A2_3 l2_3.length c2_3, .int .i64 a3, .int .i64 a4] 30)).alloc (.cells #[.slice A1_0 l1_0.length c1_0, .slice A1_1 l1_1.length c1_1] 26)) (.cells #[.int .i64 a2_0, .int .i64 a2_1, .int .i64 a2_2, .slice A2_3 l2_3.length c2_3] 28)
  simp only [World.size_alloc] at hP1 hQ1
  have HB1 := Aside0.mk hB1
  have HP1 := Aside0.mk hP1
  have HQ1 := Aside0.mk hQ1
  clear hB1 hP1 hQ1
  go_enter Try.func3, Try.ntmps3
  go_wp2_with fail
  refine (tammylaw03_shown.calls k true _ H1.out).mono ?_
  rintro e W2 ⟨rfl, hb2⟩
  have HB := Aside0.mk (below_step HB1.out hb2)
  have HP := Aside0.mk (blk_below HP1.out hb2)
  have HQ := Aside0.mk (blk_below HQ1.out hb2)
  clear hb2 HB1 HP1 HQ1
  have hcP0 := blk_cell HP.out 0
  have hfP0 := blk_frozen HP.out 0
  have hcP1 := blk_cell HP.out 1
  have hfP1 := blk_frozen HP.out 1
  have hcQ0 := blk_cell HQ.out 0
  have hfQ0 := blk_frozen HQ.out 0
  have hcQ1 := blk_cell HQ.out 1
  have hfQ1 := blk_frozen HQ.out 1
  have hcQ2 := blk_cell HQ.out 2
  have hfQ2 := blk_frozen HQ.out 2
  have hcQ3 := blk_cell HQ.out 3
  have hfQ3 := blk_frozen HQ.out 3
  simp only [List.getElem?_toArray, List.getElem?_cons_zero, List.getElem?_cons_succ] at hcP0 hcP1 hcQ0 hcQ1 hcQ2 hcQ3
  go_wp2_with fail
  refine (tammylaw03_of.calls k A0 c0 l0 A1_0 c1_0 l1_0 A1_1 c1_1 l1_1 o _ (Kd.C_below HR0.out HB.out) hc0 (Kd.C_below HR10.out HB.out) hc1_0 (Kd.C_below HR11.out HB.out) hc1_1 H2.out).mono ?_
  rintro e W3 ⟨rfl, hb3⟩
  have HB3 := Aside0.mk (below_step HB.out hb3)
  have HP3 := Aside0.mk (blk_below HP.out hb3)
  have HQ3 := Aside0.mk (blk_below HQ.out hb3)
  clear hb3 HB HP HQ hcP0 hfP0 hcP1 hfP1 hcQ0 hfQ0 hcQ1 hfQ1 hcQ2 hfQ2 hcQ3 hfQ3
  have hcP0 := blk_cell HP3.out 0
  have hfP0 := blk_frozen HP3.out 0
  have hcP1 := blk_cell HP3.out 1
  have hfP1 := blk_frozen HP3.out 1
  have hcQ0 := blk_cell HQ3.out 0
  have hfQ0 := blk_frozen HQ3.out 0
  have hcQ1 := blk_cell HQ3.out 1
  have hfQ1 := blk_frozen HQ3.out 1
  have hcQ2 := blk_cell HQ3.out 2
  have hfQ2 := blk_frozen HQ3.out 2
  have hcQ3 := blk_cell HQ3.out 3
  have hfQ3 := blk_frozen HQ3.out 3
  simp only [List.getElem?_toArray, List.getElem?_cons_zero, List.getElem?_cons_succ] at hcP0 hcP1 hcQ0 hcQ1 hcQ2 hcQ3
  by_cases hc : o = true ∧ (l2_3.length : Int) ≤ 100
  case neg =>
    have H4 := H.out
    rw [if_neg hc] at H4
    obtain rfl := Option.some.inj H4
    clear H
    cases o with
    | false =>
      go_wp2_with fail
      go_ret
      exact ⟨rfl, HB3.out⟩
    | true =>
      have hd : decide (100 < (l2_3.length : Int)) = true := decide_eq_true (Int.not_le.1 (fun h => hc ⟨rfl, h⟩))
      clear hc
      go_wp2_with fail
      go_ret
      exact ⟨rfl, HB3.out⟩
  case pos =>
    have H4 := H.out
    rw [if_pos hc] at H4
    obtain ⟨rfl, hle⟩ := hc
    have hd : decide (100 < (l2_3.length : Int)) = false := decide_eq_false (by omega)
    clear hle H
    obtain ⟨⟨x1, x2, x3, x4⟩, h5, H4⟩ := Option.bind_eq_some_iff.mp H4
    obtain ⟨⟨y1, y2, y3, y4⟩, h6, H4⟩ := Option.bind_eq_some_iff.mp H4
    obtain ⟨s, h7, H4⟩ := Option.bind_eq_some_iff.mp H4
    obtain ⟨p, h8, H4⟩ := Option.bind_eq_some_iff.mp H4
    obtain ⟨q, h9, H4⟩ := Option.bind_eq_some_iff.mp H4
    obtain ⟨e5, h10, H4⟩ := Option.bind_eq_some_iff.mp H4
    dsimp only at h7 H4
    by_cases hc : s = true ∧ x3 = y3 ∧ x4 = y4 ∧ e5 = true
    case neg => rw [if_neg hc] at H4; cases H4
    rw [if_pos hc] at H4
    obtain rfl := Option.some.inj H4
    obtain ⟨rfl, rfl, rfl, rfl⟩ := hc
    have H5 := Aside0.mk h5
    have H6 := Aside0.mk h6
    have H7 := Aside0.mk h7
    have H8 := Aside0.mk h8
    have H9 := Aside0.mk h9
    have H10 := Aside0.mk h10
    clear h5 h6 h7 h8 h9 h10 H4
    have he3 : (x3 == x3) = true := beq_self_eq_true _
    have he4 : (x4 == x4) = true := beq_self_eq_true _
    go_wp2_with fail
    refine (term_Put.calls k A0 c0 l0 A1_0 c1_0 l1_0 A1_1 c1_1 l1_1 a2_0 a2_1 a2_2 A2_3 c2_3 l2_3 a3 x1 x2 x3 x4 _ (Kd.C_below HR0.out HB3.out) hc0 (Kd.C_below HR10.out HB3.out) hc1_0 (Kd.C_below HR11.out HB3.out) hc1_1 (Kd.C_below HR23.out HB3.out) hc2_3 H5.out).mono ?_
    rintro e W4 ⟨v4, rfl, ⟨A4, c4, A5, c5, rfl, hc4, hc5, hC4, hC5⟩, hb4⟩
    have hbx := below_alloc (Below.refl W4.heap.size W4) (.cells #[.slice A4 x1.length c4, .slice A5 x2.length c5] 26)
    have HB4 := Aside0.mk (below_step (below_step HB3.out hb4) hbx)
    have HP4 := Aside0.mk (blk_below (blk_below HP3.out hb4) hbx)
    have HQ4 := Aside0.mk (blk_below (blk_below HQ3.out hb4) hbx)
    have HX4 := Aside0.mk (blk_new W4 (.cells #[.slice A4 x1.length c4, .slice A5 x2.length c5] 26))
    have HL4 := Aside0.mk (show x1.length ≤ c4 ∧ x2.length ≤ c5 from ⟨hc4, hc5⟩)
    have HC4 := Aside0.mk (Kd.C_below hC4 hbx)
    have HC5 := Aside0.mk (Kd.C_below hC5 hbx)
    clear hc4 hc5 hC4 hC5 hb4 hbx HB3 HP3 HQ3 hcP0 hfP0 hcP1 hfP1 hcQ0 hfQ0 hcQ1 hfQ1 hcQ2 hfQ2 hcQ3 hfQ3
    have hcP0 := blk_cell HP4.out 0
    have hfP0 := blk_frozen HP4.out 0
    have hcP1 := blk_cell HP4.out 1
    have hfP1 := blk_frozen HP4.out 1
    have hcQ0 := blk_cell HQ4.out 0
    have hfQ0 := blk_frozen HQ4.out 0
    have hcQ1 := blk_cell HQ4.out 1
    have hfQ1 := blk_frozen HQ4.out 1
    have hcQ2 := blk_cell HQ4.out 2
    have hfQ2 := blk_frozen HQ4.out 2
    have hcQ3 := blk_cell HQ4.out 3
    have hfQ3 := blk_frozen HQ4.out 3
    simp only [List.getElem?_toArray, List.getElem?_cons_zero, List.getElem?_cons_succ] at hcP0 hcP1 hcQ0 hcQ1 hcQ2 hcQ3
    have HC0_ := Aside0.mk (Kd.C_below HR0.out HB4.out)
    have HC10_ := Aside0.mk (Kd.C_below HR10.out HB4.out)
    have HC11_ := Aside0.mk (Kd.C_below HR11.out HB4.out)
    have HC23_ := Aside0.mk (Kd.C_below HR23.out HB4.out)
    go_wp2_with fail
    refine (tammyref03_Put.calls k A0 c0 l0 A1_0 c1_0 l1_0 A1_1 c1_1 l1_1 a2_0 a2_1 a2_2 A2_3 c2_3 l2_3 a3 y1 y2 x3 x4 _ HC0_.out hc0 HC10_.out hc1_0 HC11_.out hc1_1 HC23_.out hc2_3 H6.out).mono ?_
    rintro e W5 ⟨v5, rfl, ⟨A6, c6, A7, c7, rfl, hc6, hc7, hC6, hC7⟩, hb5⟩
    have hbx := below_alloc (Below.refl W5.heap.size W5) (.cells #[.slice A6 y1.length c6, .slice A7 y2.length c7] 26)
    have HB5 := Aside0.mk (below_drew (below_step (below_step HB4.out hb5) hbx))
    have HP5 := Aside0.mk (blk_drew (blk_below (blk_below HP4.out hb5) hbx))
    have HX5 := Aside0.mk (blk_drew (blk_below (blk_below HX4.out hb5) hbx))
    have HY5 := Aside0.mk (blk_drew (blk_new W5 (.cells #[.slice A6 y1.length c6, .slice A7 y2.length c7] 26)))
    have HL6 := Aside0.mk (show y1.length ≤ c6 ∧ y2.length ≤ c7 from ⟨hc6, hc7⟩)
    have HD4 := Aside0.mk (Kd.C_drew (Kd.C_below (Kd.C_below HC4.out hb5) hbx))
    have HD5 := Aside0.mk (Kd.C_drew (Kd.C_below (Kd.C_below HC5.out hb5) hbx))
    have HC6 := Aside0.mk (Kd.C_drew (Kd.C_below hC6 hbx))
    have HC7 := Aside0.mk (Kd.C_drew (Kd.C_below hC7 hbx))
    clear hc6 hc7 hC6 hC7 hb5 hbx HC0_ HC10_ HC11_ HC23_ HC4 HC5 HB4 HP4 HQ4 HX4 hcP0 hfP0 hcP1 hfP1 hcQ0 hfQ0 hcQ1 hfQ1 hcQ2 hfQ2 hcQ3 hfQ3
    go_upto_region 11 with (fail)
    refine start_ (n := 26) (S := fun w' => w'.cell? ⟨w.heap.size + 1, 0, none⟩ = some (.slice A1_0 l1_0.length c1_0) ∧ w'.cell? ⟨w.heap.size + 1, 1, none⟩ = some (.slice A1_1 l1_1.length c1_1) ∧ w'.cell? ⟨W4.heap.size, 0, none⟩ = some (.slice A4 x1.length c4) ∧ w'.cell? ⟨W4.heap.size, 1, none⟩ = some (.slice A5 x2.length c5) ∧ w'.cell? ⟨W5.heap.size, 0, none⟩ = some (.slice A6 y1.length c6) ∧ w'.cell? ⟨W5.heap.size, 1, none⟩ = some (.slice A7 y2.length c7)) (ds := []) #[false, false, false, false, false, false, false, false, false, false, false, false, false, false, false, false, false, false, false, false, false, false, false, false, false, false] (by kernel_rfl) rfl rfl ⟨((blk_cell HP5.out 0).trans rfl), ((blk_cell HP5.out 1).trans rfl), ((blk_cell HX5.out 0).trans rfl), ((blk_cell HX5.out 1).trans rfl), ((blk_cell HY5.out 0).trans rfl), ((blk_cell HY5.out 1).trans rfl)⟩ (fun hHeld => ?_)
    generalize World.drew _ = W6 at HB5 HD4 HD5 HC6 HC7 hHeld ⊢
    refine pure_ (i := 0) (N := some 55) (v := ?_) (a' := ?_) #[true, false, false, false, false, false, false, false, false, false, false, false, false, false, false, false, false, false, false, false, false, false, false, false, false, false] rfl rfl (by kernel_rfl) (fun _ _ _ h => h) (Or.inl ⟨by rfl, ?_⟩) ?_ ?_
    rotate_left
    · intro w'
      go_simp
      with_reducible rfl
    rotate_left
    · simp only [Act.put, List.setIfInBounds_toArray, List.set_cons_zero, List.set_cons_succ, i64_w, i32_w]
      rfl
    refine pure_ (i := 1) (N := some 56) (v := ?_) (a' := ?_) #[true, true, false, false, false, false, false, false, false, false, false, false, false, false, false, false, false, false, false, false, false, false, false, false, false, false] rfl rfl (by kernel_rfl) (fun _ _ _ h => h) (Or.inl ⟨by rfl, ?_⟩) ?_ ?_
    rotate_left
    · intro w'
      go_simp
      with_reducible rfl
    rotate_left
    · simp only [Act.put, List.setIfInBounds_toArray, List.set_cons_zero, List.set_cons_succ, i64_w, i32_w]
      rfl
    refine take_ (i := 2) (N := some 57) (v := ?_) (a' := ?_) #[true, true, true, false, false, false, false, false, false, false, false, false, false, false, false, false, false, false, false, false, false, false, false, false, false, false] rfl rfl (by kernel_rfl) (fun _ _ _ h => h) (Or.inl ⟨by rfl, ?_⟩) hHeld ?_ ?_
    rotate_left
    · rintro w' ⟨s0, s1, s2, s3, s4, s5⟩
      go_simp
      with_reducible rfl
    rotate_left
    · simp only [Act.put, List.setIfInBounds_toArray, List.set_cons_zero, List.set_cons_succ, i64_w, i32_w]
      rfl
    refine take_ (i := 3) (N := some 58) (v := ?_) (a' := ?_) #[true, true, true, true, false, false, false, false, false, false, false, false, false, false, false, false, false, false, false, false, false, false, false, false, false, false] rfl rfl (by kernel_rfl) (fun _ _ _ h => h) (Or.inl ⟨by rfl, ?_⟩) hHeld ?_ ?_
    rotate_left
    · rintro w' ⟨s0, s1, s2, s3, s4, s5⟩
      go_simp
      with_reducible rfl
    rotate_left
    · simp only [Act.put, List.setIfInBounds_toArray, List.set_cons_zero, List.set_cons_succ, i64_w, i32_w]
      rfl
    refine one_ (i := 4) (N := some 59) #[true, true, true, true, true, false, false, false, false, false, false, false, false, false, false, false, false, false, false, false, false, false, false, false, false, false] rfl rfl (by kernel_rfl) (by decide) (fun K hK => ?_)
    refine goes_ Try.func9 (by kernel_rfl) rfl #[.agg #[.slice A4 x1.length c4, .slice A5 x2.length c5], .agg #[.slice A6 y1.length c6, .slice A7 y2.length c7]] (by rfl) rfl rfl (by simp only [List.map_toArray, List.map_cons, List.map_nil]; rfl) ?_
    with_reducible refine (tammyref02_Same.calls k A4 c4 x1 A5 c5 x2 A6 c6 y1 A7 c7 y2 true W6 HD4.out HL4.out.1 HD5.out HL4.out.2 HC6.out HL6.out.1 HC7.out HL6.out.2 H7.out).mono ?_
    rintro e W7 ⟨rfl, hb7⟩
    have HB7 := Aside0.mk (below_step HB5.out hb7)
    refine ⟨_, rfl, ?_⟩
    refine hK.out _ _ ⟨(pw_cell_below hb7 hHeld.1), (pw_cell_below hb7 hHeld.2.1), (pw_cell_below hb7 hHeld.2.2.1), (pw_cell_below hb7 hHeld.2.2.2.1), (pw_cell_below hb7 hHeld.2.2.2.2.1), (pw_cell_below hb7 hHeld.2.2.2.2.2)⟩ (fun hHeld => ?_)
    clear hK K
    refine norm_ (a' := ?_) ?_ ?_
    rotate_left
    · show Act.put _ (some 59) _ = _
      simp only [Act.put, List.setIfInBounds_toArray, List.set_cons_zero, List.set_cons_succ, i64_w, i32_w]
      rfl
    refine pure_ (i := 5) (N := some 60) (v := ?_) (a' := ?_) #[true, true, true, true, true, true, false, false, false, false, false, false, false, false, false, false, false, false, false, false, false, false, false, false, false, false] rfl rfl (by kernel_rfl) (fun _ _ _ h => h) (Or.inl ⟨by rfl, ?_⟩) ?_ ?_
    rotate_left
    · intro w'
      go_simp
      with_reducible rfl
    rotate_left
    · simp only [Act.put, List.setIfInBounds_toArray, List.set_cons_zero, List.set_cons_succ, i64_w, i32_w]
      rfl
    refine pure_ (i := 6) (N := some 61) (v := ?_) (a' := ?_) #[true, true, true, true, true, true, true, false, false, false, false, false, false, false, false, false, false, false, false, false, false, false, false, false, false, false] rfl rfl (by kernel_rfl) (fun _ _ _ h => h) (Or.inl ⟨by rfl, ?_⟩) ?_ ?_
    rotate_left
    · intro w'
      go_simp
      with_reducible rfl
    rotate_left
    · simp only [Act.put, List.setIfInBounds_toArray, List.set_cons_zero, List.set_cons_succ, i64_w, i32_w]
      rfl
    refine pure_ (i := 7) (N := some 62) (v := ?_) (a' := ?_) #[true, true, true, true, true, true, true, true, false, false, false, false, false, false, false, false, false, false, false, false, false, false, false, false, false, false] rfl rfl (by kernel_rfl) (fun _ _ _ h => h) (Or.inl ⟨by rfl, ?_⟩) ?_ ?_
    rotate_left
    · intro w'
      go_simp
      with_reducible rfl
    rotate_left
    · simp only [Act.put, List.setIfInBounds_toArray, List.set_cons_zero, List.set_cons_succ, i64_w, i32_w]
      rfl
    refine pure_ (i := 8) (N := some 63) (v := ?_) (a' := ?_) #[true, true, true, true, true, true, true, true, true, false, false, false, false, false, false, false, false, false, false, false, false, false, false, false, false, false] rfl rfl (by kernel_rfl) (fun _ _ _ h => h) (Or.inl ⟨by rfl, ?_⟩) ?_ ?_
    rotate_left
    · intro w'
      go_simp
      with_reducible rfl
    rotate_left
    · simp only [Act.put, List.setIfInBounds_toArray, List.set_cons_zero, List.set_cons_succ, i64_w, i32_w]
      rfl
    refine pure_ (i := 9) (N := some 64) (v := ?_) (a' := ?_) #[true, true, true, true, true, true, true, true, true, true, false, false, false, false, false, false, false, false, false, false, false, false, false, false, false, false] rfl rfl (by kernel_rfl) (fun _ _ _ h => h) (Or.inl ⟨by rfl, ?_⟩) ?_ ?_
    rotate_left
    · intro w'
      go_simp
      with_reducible rfl
    rotate_left
    · simp only [Act.put, List.setIfInBounds_toArray, List.set_cons_zero, List.set_cons_succ, i64_w, i32_w]
      rfl
    refine pure_ (i := 10) (N := some 65) (v := ?_) (a' := ?_) #[true, true, true, true, true, true, true, true, true, true, true, false, false, false, false, false, false, false, false, false, false, false, false, false, false, false] rfl rfl (by kernel_rfl) (fun _ _ _ h => h) (Or.inl ⟨by rfl, ?_⟩) ?_ ?_
    rotate_left
    · intro w'
      go_simp
      with_reducible rfl
    rotate_left
    · simp only [Act.put, List.setIfInBounds_toArray, List.set_cons_zero, List.set_cons_succ, i64_w, i32_w]
      rfl
    refine pure_ (i := 11) (N := some 66) (v := ?_) (a' := ?_) #[true, true, true, true, true, true, true, true, true, true, true, true, false, false, false, false, false, false, false, false, false, false, false, false, false, false] rfl rfl (by kernel_rfl) (fun _ _ _ h => h) (Or.inl ⟨by rfl, ?_⟩) ?_ ?_
    rotate_left
    · intro w'
      go_simp
      with_reducible rfl
    rotate_left
    · simp only [Act.put, List.setIfInBounds_toArray, List.set_cons_zero, List.set_cons_succ, i64_w, i32_w]
      rfl
    refine pure_ (i := 12) (N := some 67) (v := ?_) (a' := ?_) #[true, true, true, true, true, true, true, true, true, true, true, true, true, false, false, false, false, false, false, false, false, false, false, false, false, false] rfl rfl (by kernel_rfl) (fun _ _ _ h => h) (Or.inl ⟨by rfl, ?_⟩) ?_ ?_
    rotate_left
    · intro w'
      go_simp
      with_reducible rfl
    rotate_left
    · simp only [Act.put, List.setIfInBounds_toArray, List.set_cons_zero, List.set_cons_succ, i64_w, i32_w]
      rfl
    refine pure_ (i := 13) (N := some 68) (v := ?_) (a' := ?_) #[true, true, true, true, true, true, true, true, true, true, true, true, true, true, false, false, false, false, false, false, false, false, false, false, false, false] rfl rfl (by kernel_rfl) (fun _ _ _ h => h) (Or.inl ⟨by rfl, ?_⟩) ?_ ?_
    rotate_left
    · intro w'
      go_simp
      with_reducible rfl
    rotate_left
    · simp only [Act.put, List.setIfInBounds_toArray, List.set_cons_zero, List.set_cons_succ, i64_w, i32_w]
      rfl
    refine pure_ (i := 14) (N := some 69) (v := ?_) (a' := ?_) #[true, true, true, true, true, true, true, true, true, true, true, true, true, true, true, false, false, false, false, false, false, false, false, false, false, false] rfl rfl (by kernel_rfl) (fun _ _ _ h => h) (Or.inl ⟨by rfl, ?_⟩) ?_ ?_
    rotate_left
    · intro w'
      go_simp
      with_reducible rfl
    rotate_left
    · simp only [Act.put, List.setIfInBounds_toArray, List.set_cons_zero, List.set_cons_succ, i64_w, i32_w]
      rfl
    refine pure_ (i := 15) (N := some 70) (v := ?_) (a' := ?_) #[true, true, true, true, true, true, true, true, true, true, true, true, true, true, true, true, false, false, false, false, false, false, false, false, false, false] rfl rfl (by kernel_rfl) (fun _ _ _ h => h) (Or.inl ⟨by rfl, ?_⟩) ?_ ?_
    rotate_left
    · intro w'
      go_simp
      with_reducible rfl
    rotate_left
    · simp only [Act.put, List.setIfInBounds_toArray, List.set_cons_zero, List.set_cons_succ, i64_w, i32_w]
      rfl
    refine pure_ (i := 16) (N := some 71) (v := ?_) (a' := ?_) #[true, true, true, true, true, true, true, true, true, true, true, true, true, true, true, true, true, false, false, false, false, false, false, false, false, false] rfl rfl (by kernel_rfl) (fun _ _ _ h => h) (Or.inl ⟨by rfl, ?_⟩) ?_ ?_
    rotate_left
    · intro w'
      go_simp
      with_reducible rfl
    rotate_left
    · simp only [Act.put, List.setIfInBounds_toArray, List.set_cons_zero, List.set_cons_succ, i64_w, i32_w]
      rfl
    refine pure_ (i := 18) (N := some 73) (v := ?_) (a' := ?_) #[true, true, true, true, true, true, true, true, true, true, true, true, true, true, true, true, true, false, true, false, false, false, false, false, false, false] rfl rfl (by kernel_rfl) (fun _ _ _ h => h) (Or.inl ⟨by rfl, ?_⟩) ?_ ?_
    rotate_left
    · intro w'
      go_simp
      with_reducible rfl
    rotate_left
    · simp only [Act.put, List.setIfInBounds_toArray, List.set_cons_zero, List.set_cons_succ, i64_w, i32_w]
      rfl
    refine pure_ (i := 21) (N := some 76) (v := ?_) (a' := ?_) #[true, true, true, true, true, true, true, true, true, true, true, true, true, true, true, true, true, false, true, false, false, true, false, false, false, false] rfl rfl (by kernel_rfl) (fun _ _ _ h => h) (Or.inl ⟨by rfl, ?_⟩) ?_ ?_
    rotate_left
    · intro w'
      go_simp
      with_reducible rfl
    rotate_left
    · simp only [Act.put, List.setIfInBounds_toArray, List.set_cons_zero, List.set_cons_succ, i64_w, i32_w]
      rfl
    refine take_ (i := 17) (N := some 72) (v := ?_) (a' := ?_) #[true, true, true, true, true, true, true, true, true, true, true, true, true, true, true, true, true, true, true, false, false, true, false, false, false, false] rfl rfl (by kernel_rfl) (fun _ _ _ h => h) (Or.inl ⟨by rfl, ?_⟩) hHeld ?_ ?_
    rotate_left
    · rintro w' ⟨s0, s1, s2, s3, s4, s5⟩
      go_simp
      with_reducible rfl
    rotate_left
    · simp only [Act.put, List.setIfInBounds_toArray, List.set_cons_zero, List.set_cons_succ, i64_w, i32_w]
      rfl
    refine take_ (i := 20) (N := some 75) (v := ?_) (a' := ?_) #[true, true, true, true, true, true, true, true, true, true, true, true, true, true, true, true, true, true, true, false, true, true, false, false, false, false] rfl rfl (by kernel_rfl) (fun _ _ _ h => h) (Or.inl ⟨by rfl, ?_⟩) hHeld ?_ ?_
    rotate_left
    · rintro w' ⟨s0, s1, s2, s3, s4, s5⟩
      go_simp
      with_reducible rfl
    rotate_left
    · simp only [Act.put, List.setIfInBounds_toArray, List.set_cons_zero, List.set_cons_succ, i64_w, i32_w]
      rfl
    refine one_ (i := 19) (N := some 74) #[true, true, true, true, true, true, true, true, true, true, true, true, true, true, true, true, true, true, true, true, true, true, false, false, false, false] rfl rfl (by kernel_rfl) (by decide) (fun K hK => ?_)
    refine goes_ Try.func11 (by kernel_rfl) rfl #[.agg #[.slice A1_0 l1_0.length c1_0, .slice A1_1 l1_1.length c1_1], .int .i64 a4] (by rfl) rfl rfl (by simp only [List.map_toArray, List.map_cons, List.map_nil]; rfl) ?_
    with_reducible refine (term_Below.calls k A1_0 c1_0 l1_0 A1_1 c1_1 l1_1 a4 p W7 (Kd.C_below HR10.out HB7.out) hc1_0 (Kd.C_below HR11.out HB7.out) hc1_1 H8.out).mono ?_
    rintro e W8 ⟨v8, rfl, ho8, hb8⟩
    obtain ⟨A8, c8, rfl⟩ := Kd.R_slice ho8
    have HM8 := Aside0.mk (Kd.R_reads' ho8)
    have HB8 := Aside0.mk (below_step HB7.out hb8)
    refine ⟨_, rfl, ?_⟩
    refine hK.out _ _ ⟨(pw_cell_below hb8 hHeld.1), (pw_cell_below hb8 hHeld.2.1), (pw_cell_below hb8 hHeld.2.2.1), (pw_cell_below hb8 hHeld.2.2.2.1), (pw_cell_below hb8 hHeld.2.2.2.2.1), (pw_cell_below hb8 hHeld.2.2.2.2.2)⟩ (fun hHeld => ?_)
    clear hK K
    refine norm_ (a' := ?_) ?_ ?_
    rotate_left
    · show Act.put _ (some 74) _ = _
      simp only [Act.put, List.setIfInBounds_toArray, List.set_cons_zero, List.set_cons_succ, i64_w, i32_w]
      rfl
    refine one_ (i := 22) (N := some 77) #[true, true, true, true, true, true, true, true, true, true, true, true, true, true, true, true, true, true, true, true, true, true, true, false, false, false] rfl rfl (by kernel_rfl) (by decide) (fun K hK => ?_)
    refine goes_ Try.func12 (by kernel_rfl) rfl #[.agg #[.slice A1_0 l1_0.length c1_0, .slice A1_1 l1_1.length c1_1], .int .i64 a4] (by rfl) rfl rfl (by simp only [List.map_toArray, List.map_cons, List.map_nil]; rfl) ?_
    with_reducible refine (tammyref03_Below.calls k A1_0 c1_0 l1_0 A1_1 c1_1 l1_1 a4 q W8 (Kd.C_below HR10.out HB8.out) hc1_0 (Kd.C_below HR11.out HB8.out) hc1_1 H9.out).mono ?_
    rintro e W9 ⟨v9, rfl, ho9, hb9⟩
    obtain ⟨A9, c9, rfl⟩ := Kd.R_slice ho9
    have HM9 := Aside0.mk (Kd.R_reads' ho9)
    have HB9 := Aside0.mk (below_step HB8.out hb9)
    have HM8b := Aside0.mk (Kd.C_below HM8.out.2.2 hb9)
    refine ⟨_, rfl, ?_⟩
    refine hK.out _ _ ⟨(pw_cell_below hb9 hHeld.1), (pw_cell_below hb9 hHeld.2.1), (pw_cell_below hb9 hHeld.2.2.1), (pw_cell_below hb9 hHeld.2.2.2.1), (pw_cell_below hb9 hHeld.2.2.2.2.1), (pw_cell_below hb9 hHeld.2.2.2.2.2)⟩ (fun hHeld => ?_)
    clear hK K
    refine norm_ (a' := ?_) ?_ ?_
    rotate_left
    · show Act.put _ (some 77) _ = _
      simp only [Act.put, List.setIfInBounds_toArray, List.set_cons_zero, List.set_cons_succ, i64_w, i32_w]
      rfl
    refine one_ (i := 23) (N := some 78) #[true, true, true, true, true, true, true, true, true, true, true, true, true, true, true, true, true, true, true, true, true, true, true, true, false, false] rfl rfl (by kernel_rfl) (by decide) (fun K hK => ?_)
    refine goes_ Try.func10 (by kernel_rfl) rfl #[.slice A8 p.length c8, .slice A9 q.length c9] (by rfl) rfl rfl (by simp only [List.map_toArray, List.map_cons, List.map_nil]; rfl) ?_
    with_reducible refine (tammyref02_Ints.calls k A8 c8 p A9 c9 q true W9 HM8b.out HM8.out.2.1 HM9.out.2.2 HM9.out.2.1 H10.out).mono ?_
    rintro e W10 ⟨rfl, hd10⟩
    have hb10 := hd10.below
    have HB10 := Aside0.mk (below_step HB9.out hb10)
    refine ⟨_, rfl, ?_⟩
    refine hK.out _ _ ⟨(pw_cell_below hb10 hHeld.1), (pw_cell_below hb10 hHeld.2.1), (pw_cell_below hb10 hHeld.2.2.1), (pw_cell_below hb10 hHeld.2.2.2.1), (pw_cell_below hb10 hHeld.2.2.2.2.1), (pw_cell_below hb10 hHeld.2.2.2.2.2)⟩ (fun hHeld => ?_)
    clear hK K
    refine norm_ (a' := ?_) ?_ ?_
    rotate_left
    · show Act.put _ (some 78) _ = _
      simp only [Act.put, List.setIfInBounds_toArray, List.set_cons_zero, List.set_cons_succ, i64_w, i32_w]
      rfl
    refine pure_ (i := 24) (N := some 79) (v := ?_) (a' := ?_) #[true, true, true, true, true, true, true, true, true, true, true, true, true, true, true, true, true, true, true, true, true, true, true, true, true, false] rfl rfl (by kernel_rfl) (fun _ _ _ h => h) (Or.inl ⟨by rfl, ?_⟩) ?_ ?_
    rotate_left
    · intro w'
      go_simp
      with_reducible rfl
    rotate_left
    · simp only [Act.put, List.setIfInBounds_toArray, List.set_cons_zero, List.set_cons_succ, i64_w, i32_w]
      rfl
    refine pure_ (i := 25) (N := some 2) (v := ?_) (a' := ?_) #[true, true, true, true, true, true, true, true, true, true, true, true, true, true, true, true, true, true, true, true, true, true, true, true, true, true] rfl rfl (by kernel_rfl) (fun _ _ _ h => h) (Or.inl ⟨by rfl, ?_⟩) ?_ ?_
    rotate_left
    · intro w'
      go_simp
      with_reducible rfl
    rotate_left
    · simp only [Act.put, List.setIfInBounds_toArray, List.set_cons_zero, List.set_cons_succ, i64_w, i32_w]
      rfl
    refine done_ (by kernel_rfl) ?_

    go_wp2_with fail
    go_ret
    exact ⟨rfl, HB10.out⟩
end Go.Proofs.Ytiliknfmlmdmbaa.T
