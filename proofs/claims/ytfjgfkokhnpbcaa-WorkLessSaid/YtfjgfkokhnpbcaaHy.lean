/- work.Right: is each key of two numbers? -/
import Derived.Outline
import Derived.Sort.CutIn
import Derived.Deep.DeepCutAuto
import Derived.Deep.CutBlock
import Derived.Test.YtfjgfkokhnpbcaaUx0
namespace Go.Proofs.Ytfjgfkokhnpbcaa.U
open Go.RowKit Go.Proofs.YtfjgfkokhnpbcaaW.PrintWords Go.Proofs.YtfjgfkokhnpbcaaW.PrintLast Go.Proofs.YtfjgfkokhnpbcaaW.PrintMore
set_option linter.unusedVariables false
set_option linter.unusedSimpArgs false
/-- The first row that isn't of two numbers. -/
def idx2 : List (List Int) → Int → Int
  | [], _ => -1
  | x :: l, j => if x.length = 2 then idx2 l (j + 1) else j
set_option maxHeartbeats 1000000 in
theorem odd35 (A : Option Addr) (n c : Nat) (w : World) : Calls Try.prog 35 #[.slice A n c] w fun e w' => e = .returned (.bool ((n : Int) != 2)) ∧ w' = w := by
  go_enter Try.func35, Try.ntmps35
  go_wp2
  go_ret
  exact ⟨rfl, rfl⟩
theorem idx2_drop (l : List (List Int)) (j : Nat) (hj : j < l.length) : idx2 (l.drop j) j = if (rd_L1 l (j : Int)).length = 2 then idx2 (l.drop (j + 1)) ((j + 1 : Nat) : Int) else (j : Int) := by
  rw [List.drop_eq_getElem_cons hj]
  simp [idx2, rd_L1, List.getD_eq_getElem?_getD, hj]
set_option maxRecDepth 100000 in
set_option maxHeartbeats 4000000 in
theorem index49 (A0 : Option Addr) (c0 : Nat) (l0 : List (List Int)) (w : World) (hr0 : Kd.C (Kd.slice 3 (Kd.int .i64)) w A0 l0.length l0) :
    Calls Try.prog 49 #[.slice A0 l0.length c0, .func (.func 35) #[] #[]] w fun e w' => e = .returned (.int .i64 (idx2 l0 0)) ∧ Below w.heap.size w w' := by
  have HR0 := Aside0.mk hr0
  have HM := Kd.C_max hr0
  clear hr0
  go_enter Try.func49, Try.ntmps49
  go_wp2
  go_loopw [8] (fun i wr => ∃ (j : Nat), j ≤ l0.length ∧ i = .int .i64 j ∧ Aside0 (idx2 (l0.drop j) j = idx2 l0 0) ∧ Aside0 (Below w.heap.size w wr)) (fun i _ => l0.length - (intOf i).toNat)
  case atStart => exact ⟨0, Nat.zero_le _, rfl, ⟨rfl⟩, ⟨Below.refl _ _⟩⟩
  case round =>
    obtain ⟨j, hj, rfl, HF, HB⟩ := hrel
    by_cases hlt : j < l0.length
    · have hji : (j : Int) < (l0.length : Int) := by omega
      obtain ⟨ad, A1, c1, ea, hx0, hx1, _⟩ := at_L1 (Kd.C_below HR0.out HB.out) (j : Int) (by omega) hji
      cases ea
      rw [Int.toNat_natCast] at hx0
      have HE := Aside0.mk (idx2_drop l0 j hlt)
      cases hq : (((rd_L1 l0 (j : Int)).length : Int) != 2) with
      | true =>
        have HQ := Aside0.mk hq
        go_wp2_with fail
        refine (odd35 _ _ _ _).mono ?_
        rintro e w2 ⟨rfl, rfl⟩
        go_wp2
        go_ret
        exact ⟨by rw [← HF.out, HE.out, if_neg (by have := HQ.out; simp at this; omega)]; rfl, HB.out⟩
      | false =>
        have HQ := Aside0.mk hq
        go_wp2_with fail
        refine (odd35 _ _ _ _).mono ?_
        rintro e w2 ⟨rfl, rfl⟩
        go_wp2
        go_roundw
        case rel => exact ⟨j + 1, by omega, by congr 1, ⟨by rw [← HF.out, HE.out, if_pos (by have := HQ.out; simp at this; omega)]⟩, HB⟩
        case measure => simp [intOf]; omega
    · obtain rfl : j = l0.length := by omega
      have hge : ¬ ((l0.length : Nat) : Int) < (l0.length : Int) := by omega
      go_wp2
      go_ret
      exact ⟨by rw [← HF.out, List.drop_length]; rfl, HB.out⟩
set_option maxHeartbeats 1000000 in
theorem contains34 (A0 : Option Addr) (c0 : Nat) (l0 : List (List Int)) (w : World) (hr0 : Kd.C (Kd.slice 3 (Kd.int .i64)) w A0 l0.length l0) :
    Calls Try.prog 34 #[.slice A0 l0.length c0, .func (.func 35) #[] #[]] w fun e w' => e = .returned (.bool (decide (idx2 l0 0 ≥ 0))) ∧ Below w.heap.size w w' := by
  have HC := Aside0.mk (index49 A0 c0 l0 w hr0)
  clear hr0
  go_enter Try.func34, Try.ntmps34
  go_wp2_with fail
  refine HC.out.mono ?_
  rintro e w2 ⟨rfl, hb2⟩
  have HB := Aside0.mk hb2
  clear hb2
  go_wp2
  go_ret
  exact ⟨rfl, HB.out⟩
end Go.Proofs.Ytfjgfkokhnpbcaa.U
