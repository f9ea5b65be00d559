/- hash.round: an iterator over slots, from a key's own on: its contract. -/
import Derived.RangeFuncNested
import Derived.RangeFuncBound
import Derived.RangeFuncCalls
import Derived.RangeFuncLeaves
import Derived.RangeFuncBox
import Derived.Shelf.Abstract
import Derived.Shelf.RegionOpen
import Derived.WalkKit
import Derived.OwnWalkIn
import Derived.TacticsInMore
import Derived.LoopNIn
import Derived.LoopIn
import Derived.Outline
import Derived.Test.YtfjgfkokhnpbcaaUx0
import Derived.Test.YtfjgfkokhnpbcaaUx2
namespace Go.Proofs.Ytfjgfkokhnpbcaa.U
open Go.RowKit Go.Shelf Go.Proofs.YtfjgfkokhnpbcaaW.PrintWords Go.Proofs.YtfjgfkokhnpbcaaW.PrintLast Go.Proofs.YtfjgfkokhnpbcaaW.PrintMore

attribute [local go_sem] Oper.semAt_some
set_option linter.unusedVariables false
set_option linter.unusedSimpArgs false

/-- The first j slots of n from h on. -/
def ring (h n j : Nat) : List Nat := (List.range j).map fun i => (h + i) % n
theorem ring_succ (h n j : Nat) : ring h n (j + 1) = ring h n j ++ [(h + j) % n] := by simp [ring, List.range_succ]
theorem ring_length (h n j : Nat) : (ring h n j).length = j := by simp [ring]
abbrev Bn (n : Nat) := { i : Nat // i < n }
/-- What hash.round reads between two rounds. -/
def KpH (Bs n : Nat) (W : World) : Prop := W.cell? ⟨Bs, 0, none⟩ = some (.int .i64 (n : Int))

set_option maxRecDepth 100000 in
set_option maxHeartbeats 4000000 in
theorem round55_in (n : Nat) (hn : 1 ≤ n) (l Bk Bs size hh : Nat) (hsize : 0 < size) (hs2 : size ≤ 4611686018427387904) (hh2 : hh < 4294967296) (A : Option Addr) (cap : Nat) (xs : List Int) (k : Nat) (hk : hash_Hash.f k xs = some (hh : Int)) (hcap : xs.length ≤ cap) (J Jx : List (Bn size) → World → Prop)
    (hY : ∀ pre x W, J pre W → pre.length < size → YieldAt Fence.wide (n - 1) Try.prog l #[.int .i64 ((x : Bn size).1 : Int)] W fun e W' =>
      (e = .returned (.bool true) ∧ J (pre ++ [x]) W' ∧ (KpH Bs size W → KpH Bs size W')) ∨ (e = .returned (.bool false) ∧ Jx (pre ++ [x]) W'))
    (W : World) (hKk : W.cell? ⟨Bk, 0, none⟩ = some (.slice A xs.length cap)) (hX : Kd.C (Kd.int .i64) W A xs.length xs) (hK : KpH Bs size W) (h0 : ∀ m, J [] (W.drewN m)) :
    CallsIn Fence.wide n Try.prog 54 #[.func (.yield l) #[] #[], .pointer (some ⟨Bk, 0, none⟩), .pointer (some ⟨Bs, 0, none⟩)] W fun e W' => (∃ v, e = .returned v) ∧
      ((∃ ys, ys.map (fun p : Bn size => p.1) = ring hh size size ∧ J ys W') ∨ (∃ pre, pre.map (fun p : Bn size => p.1) = ring hh size pre.length ∧ Jx pre W')) := by
  refine callsIn_of_wp Try.func54 rfl trivial ?_ rfl
  simp only [Try.ntmps54, List.size_toArray, List.length_cons, List.length_nil, Nat.reduceAdd, Nat.reduceSub, Array.replicate_succ, Array.replicate_zero, List.push_toArray, List.append_toArray, List.nil_append, List.cons_append]
  refine wpIn_wide.2 ?_
  have hb := show W.cell? ⟨Bs, 0, none⟩ = some (.int .i64 (size : Int)) from hK
  have hz : ((size : Int) == 0) = false := by simp; omega
  have hz1 : ¬ ((size : Int) = 0) := by omega
  go_upto_region 0 with fail
  go_quiet (first | (go_at_call 55; (with_reducible refine (hash_Hash.calls k A cap xs hh _ ?side1 ?side2 hk).mono ?_); (case side1 => exact Kd.C_drewN hX _); (case side2 => exact hcap); rintro e w' ⟨rfl, ⟨nd, rfl⟩⟩; exact ⟨rfl, _, World.drewN_drewN _ _ _⟩))
  go_wp2
  have hK1 : KpH Bs size (W.drewN nq) := hK
  have hJ0 := h0 nq
  clear hb
  generalize W.drewN nq = W1 at hK1 hJ0 ⊢
  refine (wpIn_wide (n := n)).1 ?_
  gi_loopw [12] (fun i wr => ∃ (j : Nat) (pre : List (Bn size)), j ≤ size ∧ i = .int .i64 (j : Int) ∧ pre.map (fun p : Bn size => p.1) = ring hh size j ∧ J pre wr ∧ KpH Bs size wr)
    (fun i _ => ((size : Int) - intOf i).toNat)
  case atStart => exact ⟨0, [], Nat.zero_le _, rfl, by simp [ring], hJ0, hK1⟩
  case round =>
    obtain ⟨j, pre, hj, rfl, hpre, hJs, hKr⟩ := hrel
    have hbr := show wr.cell? ⟨Bs, 0, none⟩ = some (.int .i64 (size : Int)) from hKr
    by_cases hlt : j < size
    · have hlen' : pre.length = j := by simpa [ring] using congrArg List.length hpre
      have hm2 : (hh + j) % size < size := Nat.mod_lt _ hsize
      obtain ⟨fn, tmps, assign, body, hy, hR⟩ := hY pre ⟨(hh + j) % size, hm2⟩ wr hJs (by omega)
      dsimp only at hy
      have e3 : (((hh + j) % size : Nat) : Int) = ((hh : Int) + (j : Int)) % (size : Int) := by rw [Int.natCast_emod, Int.natCast_add]
      rw [e3] at hy
      clear e3
      have hm0 : 0 ≤ (hh : Int) % (size : Int) := Int.emod_nonneg _ (by omega)
      have hm1 : (hh : Int) % (size : Int) < size := Int.emod_lt_of_pos _ (by omega)
      have e2 : wrap64 ((hh : Int) % (size : Int) + (j : Int)) = (hh : Int) % (size : Int) + (j : Int) := by unfold wrap64; omega
      have e4 : ((hh : Int) % (size : Int) + (j : Int)).tmod (size : Int) = ((hh : Int) + (j : Int)) % (size : Int) := by
        rw [Int.tmod_eq_emod_of_nonneg (by omega), Int.emod_add_emod]
      have hlt2 : (j : Int) < size := by omega
      gi_wp2
      refine hR.mono ?_
      rintro e W3 (⟨rfl, hJ3, hk3⟩ | ⟨rfl, hJx3⟩)
      · have hK3 := hk3 hKr
        gi_wp2
        go_roundw
        case rel => exact ⟨j + 1, _, by omega, by congr 1, by rw [List.map_append, hpre, ring_succ]; rfl, hJ3, hK3⟩
        case measure => simp [intOf]; omega
      · gi_wp2
        refine bodyPost_ret (results_none rfl _ _ _) rfl ?_
        exact ⟨⟨_, rfl⟩, .inr ⟨_, by rw [List.map_append, hpre, List.length_append, List.length_singleton, hlen', ring_succ]; rfl, hJx3⟩⟩
    · obtain rfl : j = size := by omega
      have hge : ¬ (j : Int) < j := by omega
      gi_wp2
      go_end0
      exact ⟨⟨_, rfl⟩, .inl ⟨_, hpre, hJs⟩⟩
theorem gb_drewN (W : World) (m : Nat) (row : Option Nat) : W.grownBy (W.drewN m) row := ⟨rfl, rfl, rfl, Nat.le_refl _, fun _ _ _ => rfl⟩
theorem round55_stops (n : Nat) (hn : 1 ≤ n) (Bk Bs size hh : Nat) (hsize : 0 < size) (hs2 : size ≤ 4611686018427387904) (hh2 : hh < 4294967296) (A : Option Addr) (cap : Nat) (xs : List Int) (k : Nat) (hk : hash_Hash.f k xs = some (hh : Int)) (hcap : xs.length ≤ cap)
    (w : World) (hKk : w.cell? ⟨Bk, 0, none⟩ = some (.slice A xs.length cap)) (hX : Kd.C (Kd.int .i64) w A xs.length xs) (hK : KpH Bs size w) :
    SeqStopsK Fence.wide n Try.prog 54 #[.pointer (some ⟨Bk, 0, none⟩), .pointer (some ⟨Bs, 0, none⟩)] (fun x : Bn size => #[.int .i64 (x.1 : Int)]) (fun W W' => KpH Bs size W → KpH Bs size W')
      (fun ys => ys.map (fun p : Bn size => p.1) = ring hh size size) (fun ys => ys.map (fun p : Bn size => p.1) = ring hh size ys.length) size w := fun l J Jx W hW hJ _ hY h0 =>
  round55_in n hn l Bk Bs size hh hsize hs2 hh2 A cap xs k hk hcap J Jx hY W (pw_cell_below hW hKk) (Kd.C_below hX hW) (pw_cell_below hW hK) (fun m => hJ [] W _ none h0 (gb_drewN W m none) (fun r e => by cases e))
set_option maxHeartbeats 1000000 in
theorem round50 (a : Option Addr) (len cap : Nat) (n : Int) (w : World) :
    Calls Try.prog 50 #[.slice a len cap, .int .i64 n] w fun e w' => e = .returned (.func (.func 54) #[] #[.pointer (some ⟨w.heap.size, 0, none⟩), .pointer (some ⟨w.heap.size + 1, 0, none⟩)]) ∧ w' = (w.alloc (.cells #[.slice a len cap] 24)).alloc (.cells #[.int .i64 n] 3) := by
  go_enter Try.func50, Try.ntmps50
  go_wp2
  go_ret
  exact ⟨by simp, rfl⟩
end Go.Proofs.Ytfjgfkokhnpbcaa.U
