/- A queue as it reads: work.New, Put, Next so. -/
import Derived.Test.YtfjgfkokhnpbcaaHx
import Derived.Test.YtfjgfkokhnpbcaaHz
import Derived.Test.YtfjgfkokhnpbcaaUx0
import Derived.Test.YtfjgfkokhnpbcaaUx6
namespace Go.Proofs.Ytfjgfkokhnpbcaa.U
open Go.RowKit Go.Proofs.YtfjgfkokhnpbcaaW.PrintWords Go.Proofs.YtfjgfkokhnpbcaaW.PrintLast Go.Proofs.YtfjgfkokhnpbcaaW.PrintMore
set_option linter.unusedVariables false
set_option linter.unusedSimpArgs false
/-- A queue in memory, as it reads. -/
def TQ (w : World) (v : Value) (L : List S30) (keys : List (List Int)) (slots : List Int) : Prop := ∃ A0 c0 A1 c1 A2 c2, v = .agg #[.slice A0 L.length c0, .slice A1 keys.length c1, .slice A2 slots.length c2] ∧ (L.length ≤ c0 ∧ keys.length ≤ c1 ∧ slots.length ≤ c2) ∧ Kd.C k30 w A0 L.length L ∧ Kd.C (Kd.slice 3 (Kd.int .i64)) w A1 keys.length keys ∧ Kd.C (Kd.int .i64) w A2 slots.length slots
/-- What the cells of a queue read as. -/
def CQ (w : World) (A0 : Option Addr) (c0 : Nat) (A1 : Option Addr) (c1 : Nat) (A2 : Option Addr) (c2 : Nat) (L : List S30) (keys : List (List Int)) (slots : List Int) : Prop := (L.length ≤ c0 ∧ keys.length ≤ c1 ∧ slots.length ≤ c2) ∧ Kd.C k30 w A0 L.length L ∧ Kd.C (Kd.slice 3 (Kd.int .i64)) w A1 keys.length keys ∧ Kd.C (Kd.int .i64) w A2 slots.length slots
theorem CQ.below {w w1 : World} {A0 : Option Addr} {c0 : Nat} {A1 : Option Addr} {c1 : Nat} {A2 : Option Addr} {c2 : Nat} {L : List S30} {keys : List (List Int)} {slots : List Int} (h : CQ w A0 c0 A1 c1 A2 c2 L keys slots) (hb : Below w.heap.size w w1) : CQ w1 A0 c0 A1 c1 A2 c2 L keys slots :=
  ⟨h.1, Kd.C_below h.2.1 hb, Kd.C_below h.2.2.1 hb, Kd.C_below h.2.2.2 hb⟩
theorem QF.tq {ok : Nat → Prop} {w : World} {v : Value} {L : List S30} {keys : List (List Int)} {slots : List Int} (h : QF ok w v L keys slots) : ∃ A0 c0 A1 c1 A2 c2, v = .agg #[.slice A0 L.length c0, .slice A1 keys.length c1, .slice A2 slots.length c2] ∧ CQ w A0 c0 A1 c1 A2 c2 L keys slots := by
  obtain ⟨A0, c0, A1, c1, A2, c2, e, h1, h2, h3, h4, h5, h6⟩ := h
  exact ⟨A0, c0, A1, c1, A2, c2, e, ⟨h1, h2, h3⟩, Kd.F_now h4, Kd.F_now h5, Kd.F_now h6⟩
def RQ (L : List S30) (keys : List (List Int)) (slots : List Int) (b : Bool) (w : World) (e : Ending) (w' : World) : Prop := ∃ A0 c0 A1 c1 A2 c2, e = .returned (.tuple #[.agg #[.slice A0 L.length c0, .slice A1 keys.length c1, .slice A2 slots.length c2], .bool b]) ∧ CQ w' A0 c0 A1 c1 A2 c2 L keys slots ∧ Below w.heap.size w w'
def RN (L : List S30) (keys : List (List Int)) (slots : List Int) (x0 x1 : Int) (b : Bool) (w : World) (e : Ending) (w' : World) : Prop := ∃ A0 c0 A1 c1 A2 c2, e = .returned (.tuple #[.agg #[.slice A0 L.length c0, .slice A1 keys.length c1, .slice A2 slots.length c2], .agg #[.int .i64 x0, .int .i64 x1], .bool b]) ∧ CQ w' A0 c0 A1 c1 A2 c2 L keys slots ∧ Below w.heap.size w w'
theorem Put11 (k : Nat) (A0 : Option Addr) (c0 : Nat) (L : List S30) (A1 : Option Addr) (c1 : Nat) (keys : List (List Int)) (A2 : Option Addr) (c2 : Nat) (slots : List Int) (p0 p1 : Int) (r0 : List S30) (r1 : List (List Int)) (r2 : List Int) (r3 : Bool) (w : World)
    (hc : CQ w A0 c0 A1 c1 A2 c2 L keys slots) (h : work_Put.f k L keys slots p0 p1 = some (r0, r1, r2, r3)) :
    Calls Try.prog 11 #[.agg #[.slice A0 L.length c0, .slice A1 keys.length c1, .slice A2 slots.length c2], .agg #[.int .i64 p0, .int .i64 p1]] w (RQ r0 r1 r2 r3 w) := by
  refine (work_Put.calls k _ A0 c0 L A1 c1 keys A2 c2 slots p0 p1 r0 r1 r2 r3 w (Kd.C_F k30_heap hc.2.1) hc.1.1 (Kd.C_F (Kd.heap_slice 3 (Kd.heap_int .i64)) hc.2.2.1) hc.1.2.1 (Kd.C_F (Kd.heap_int .i64) hc.2.2.2) hc.1.2.2 h).mono ?_
  rintro e w' ⟨v, rfl, hq, hb⟩
  obtain ⟨B0, d0, B1, d1, B2, d2, rfl, hcq⟩ := hq.tq
  exact ⟨B0, d0, B1, d1, B2, d2, rfl, hcq, hb⟩
theorem Next12 (A0 : Option Addr) (c0 : Nat) (L : List S30) (A1 : Option Addr) (c1 : Nat) (keys : List (List Int)) (A2 : Option Addr) (c2 : Nat) (slots : List Int) (r0 : List S30) (r1 : List (List Int)) (r2 : List Int) (x0 x1 : Int) (r3 : Bool) (w : World)
    (hc : CQ w A0 c0 A1 c1 A2 c2 L keys slots) (h : work_Next.f L keys slots = some (r0, r1, r2, x0, x1, r3)) :
    Calls Try.prog 12 #[.agg #[.slice A0 L.length c0, .slice A1 keys.length c1, .slice A2 slots.length c2]] w (RN r0 r1 r2 x0 x1 r3 w) := by
  refine (work_Next.calls _ A0 c0 L A1 c1 keys A2 c2 slots r0 r1 r2 x0 x1 r3 w (Kd.C_F k30_heap hc.2.1) hc.1.1 (Kd.C_F (Kd.heap_slice 3 (Kd.heap_int .i64)) hc.2.2.1) hc.1.2.1 (Kd.C_F (Kd.heap_int .i64) hc.2.2.2) hc.1.2.2 h).mono ?_
  rintro e w' ⟨v, rfl, hq, hb⟩
  obtain ⟨B0, d0, B1, d1, B2, d2, rfl, hcq⟩ := hq.tq
  exact ⟨B0, d0, B1, d1, B2, d2, rfl, hcq, hb⟩
theorem Right21 (k : Nat) (A0 : Option Addr) (c0 : Nat) (L : List S30) (A1 : Option Addr) (c1 : Nat) (keys : List (List Int)) (A2 : Option Addr) (c2 : Nat) (slots : List Int) (r : Bool) (w : World)
    (hc : CQ w A0 c0 A1 c1 A2 c2 L keys slots) (h : work_Right.f k L keys slots = some r) :
    Calls Try.prog 21 #[.agg #[.slice A0 L.length c0, .slice A1 keys.length c1, .slice A2 slots.length c2]] w fun e w' => e = .returned (.bool r) ∧ Below w.heap.size w w' :=
  work_Right.calls k A0 c0 L A1 c1 keys A2 c2 slots r w hc.2.1 hc.1.1 hc.2.2.1 hc.1.2.1 hc.2.2.2 hc.1.2.2 h
theorem New16 (k : Nat) (L : List S30) (keys : List (List Int)) (slots : List Int) (w : World) (h : work_New.f k = some (L, keys, slots)) :
    Calls Try.prog 16 #[] w fun e w' => ∃ A0 c0 A1 c1 A2 c2, e = .returned (.agg #[.slice A0 L.length c0, .slice A1 keys.length c1, .slice A2 slots.length c2]) ∧ CQ w' A0 c0 A1 c1 A2 c2 L keys slots ∧ Below w.heap.size w w' := by
  refine (work_New.calls k L keys slots w h).mono ?_
  rintro e w' ⟨v0, v1, v2, rfl, h0, h1, h2, hb⟩
  obtain ⟨A0, c0, rfl, l0, g0⟩ := Kd.R_reads h0
  obtain ⟨A2, c2, rfl, l2, g2⟩ := Kd.R_reads h2
  obtain ⟨A1, c1, rfl, l1, g1⟩ := Kd.S_reads h1
  exact ⟨A0, c0, A1, c1, A2, c2, rfl, ⟨⟨l0, l1, l2⟩, g0, g1, g2⟩, hb⟩
end Go.Proofs.Ytfjgfkokhnpbcaa.U
