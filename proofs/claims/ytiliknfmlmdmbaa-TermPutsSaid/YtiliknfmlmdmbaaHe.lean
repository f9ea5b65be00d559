/- slices.IndexFunc and ContainsFunc of whole numbers at term.may's closure: is a part none of so many ahead? -/
import Derived.RangeFuncBox
import Derived.Maps.OwnOps
import Derived.Outline
import Derived.Test.YtiliknfmlmdmbaaTx0
namespace Go.Proofs.Ytiliknfmlmdmbaa.T
open Go.RowKit Go.Proofs.YtiliknfmlmdmbaaW.PrintWords Go.Proofs.YtiliknfmlmdmbaaW.PrintLast Go.Proofs.YtiliknfmlmdmbaaW.PrintMore
set_option linter.unusedVariables false
set_option linter.unusedSimpArgs false
def oddB (many x : Int) : Bool := if x < 0 then true else decide (x ≥ many)
def idxI (many : Int) : List Int → Int → Int
  | [], _ => -1
  | x :: xs, i => if oddB many x = true then i else idxI many xs (i + 1)
set_option maxHeartbeats 1000000 in
theorem odd46 (x many : Int) (b : Nat) (w : World) (hb : w.cell? ⟨b, 0, none⟩ = some (.int .i64 many)) :
    Calls Try.prog 46 #[.int .i64 x, .pointer (some ⟨b, 0, none⟩)] w fun e w' => e = .returned (.bool (oddB many x)) ∧ Drawn0 w w' := by
  by_cases h0 : x < 0
  · have E := Aside0.mk (show oddB many x = true by unfold oddB; rw [if_pos h0])
    have h1 : decide (x < 0) = true := decide_eq_true h0
    clear h0
    go_enter Try.func46, Try.ntmps46
    go_wp2
    go_ret
    exact ⟨by rw [E.out]; rfl, Drawn0.refl w⟩
  · have E := Aside0.mk (show oddB many x = decide (x ≥ many) by unfold oddB; rw [if_neg h0])
    have h1 : decide (x < 0) = false := decide_eq_false h0
    clear h0
    go_enter Try.func46, Try.ntmps46
    go_wp2
    go_ret
    exact ⟨by rw [E.out]; rfl, Drawn0.refl w⟩
theorem idxI_drop (many : Int) (l : List Int) (j : Nat) (hj : j < l.length) : idxI many (l.drop j) j = if oddB many (rd l (j : Int)) = true then (j : Int) else idxI many (l.drop (j + 1)) ((j + 1 : Nat) : Int) := by
  rw [List.drop_eq_getElem_cons hj]
  simp [idxI, rd, List.getD_eq_getElem?_getD, hj]
set_option maxRecDepth 100000 in
set_option maxHeartbeats 4000000 in
theorem index53 (A0 : Option Addr) (c0 : Nat) (l0 : List Int) (many : Int) (b : Nat) (w : World) (hr0 : Kd.C (Kd.int .i64) w A0 l0.length l0) (hb : w.cell? ⟨b, 0, none⟩ = some (.int .i64 many)) :
    Calls Try.prog 53 #[.slice A0 l0.length c0, .func (.func 46) #[] #[.pointer (some ⟨b, 0, none⟩)]] w fun e w' => e = .returned (.int .i64 (idxI many l0 0)) ∧ Below w.heap.size w w' := by
  have HR0 := Aside0.mk hr0
  have HM := Kd.C_max hr0
  have HN := Aside0.mk hb
  clear hr0 hb
  go_enter Try.func53, Try.ntmps53
  go_wp2
  go_loopw [8] (fun i wr => ∃ (j : Nat), j ≤ l0.length ∧ i = .int .i64 j ∧ Aside0 (idxI many (l0.drop j) j = idxI many l0 0) ∧ Aside0 (Below w.heap.size w wr)) (fun i _ => l0.length - (intOf i).toNat)
  case atStart => exact ⟨0, Nat.zero_le _, rfl, ⟨rfl⟩, ⟨Below.refl _ _⟩⟩
  case round =>
    obtain ⟨j, hj, rfl, HF, HB⟩ := hrel
    by_cases hlt : j < l0.length
    · have hji : (j : Int) < (l0.length : Int) := by omega
      obtain ⟨ad, ea, hx0⟩ := Kd.at_int (Kd.C_below HR0.out HB.out) (j : Int) (by omega) hji
      cases ea
      have hbr := Aside0.mk (pw_cell_below HB.out HN.out)
      rw [Int.toNat_natCast] at hx0
      replace hx0 : wr.cell? (ad.add j) = some (.int .i64 (rd l0 (j : Int))) := hx0
      have HE := Aside0.mk (idxI_drop many l0 j hlt)
      cases hq : oddB many (rd l0 (j : Int)) with
      | true =>
        have HQ := Aside0.mk hq
        clear hq
        go_wp2_with fail
        refine (odd46 _ many b _ hbr.out).mono ?_
        rintro e w2 ⟨rfl, ⟨nd, rfl⟩⟩
        have hq := HQ.out
        go_wp2
        go_ret
        exact ⟨by rw [← HF.out, HE.out, if_pos HQ.out]; rfl, pw_below_drewN HB.out nd⟩
      | false =>
        have HQ := Aside0.mk hq
        clear hq
        go_wp2_with fail
        refine (odd46 _ many b _ hbr.out).mono ?_
        rintro e w2 ⟨rfl, ⟨nd, rfl⟩⟩
        have HB2 := Aside0.mk (pw_below_drewN HB.out nd)
        have hq := HQ.out
        go_wp2
        go_roundw
        case rel => exact ⟨j + 1, by omega, by congr 1, ⟨by rw [← HF.out, HE.out, if_neg (by rw [HQ.out]; decide)]⟩, HB2⟩
        case measure => simp [intOf]; omega
    · obtain rfl : j = l0.length := by omega
      have hge : ¬ ((l0.length : Nat) : Int) < (l0.length : Int) := by omega
      go_wp2
      go_ret
      exact ⟨by rw [← HF.out, List.drop_length]; rfl, HB.out⟩
set_option maxHeartbeats 1000000 in
theorem contains47 (A0 : Option Addr) (c0 : Nat) (l0 : List Int) (many : Int) (b : Nat) (w : World) (hr0 : Kd.C (Kd.int .i64) w A0 l0.length l0) (hb : w.cell? ⟨b, 0, none⟩ = some (.int .i64 many)) :
    Calls Try.prog 47 #[.slice A0 l0.length c0, .func (.func 46) #[] #[.pointer (some ⟨b, 0, none⟩)]] w fun e w' => e = .returned (.bool (decide (idxI many l0 0 ≥ 0))) ∧ Below w.heap.size w w' := by
  have HC := Aside0.mk (index53 A0 c0 l0 many b w hr0 hb)
  clear hr0 hb
  go_enter Try.func47, Try.ntmps47
  go_wp2_with fail
  refine HC.out.mono ?_
  rintro e w2 ⟨rfl, hb2⟩
  have HB := Aside0.mk hb2
  clear hb2
  go_wp2
  go_ret
  exact ⟨rfl, HB.out⟩
end Go.Proofs.Ytiliknfmlmdmbaa.T
