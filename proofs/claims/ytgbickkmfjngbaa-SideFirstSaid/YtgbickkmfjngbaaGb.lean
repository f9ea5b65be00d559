/- slices.IndexFunc at constructors, sig.Find; side.turned. -/
import Derived.RangeFuncBox
import Derived.Maps.OwnOps
import Derived.Outline
import Derived.Test.YtgbickkmfjngbaaKx0
namespace Go.Proofs.Ytgbickkmfjngbaa.K
open Go.RowKit Go.Proofs.YtgbickkmfjngbaaW.PrintWords Go.Proofs.YtgbickkmfjngbaaW.PrintLast Go.Proofs.YtgbickkmfjngbaaG.Words
set_option linter.unusedVariables false
set_option linter.unusedSimpArgs false

/-- Where a name's constructor stands, from place i on. -/
def findI (a : ByteArray) : List S52 → Int → Int
  | [], _ => -1
  | x :: xs, i => if x.f0.toList = a.toList then i else findI a xs (i + 1)
def sig_Find.f (l0 : List S52) (a1 : ByteArray) : Option Int := some (findI a1 l0 0)

set_option maxHeartbeats 1000000 in
theorem find52 (x : S52) (a : ByteArray) (b : Nat) (w : World) (hb : w.cell? ⟨b, 0, none⟩ = some (.string a)) :
    Calls Try.prog 52 #[.agg #[.string x.f0, .string x.f1], .pointer (some ⟨b, 0, none⟩)] w fun e w' => e = .returned (.bool (x.f0.toList == a.toList)) ∧ Below w.heap.size w w' := by
  have hu52 := Try.underlying52
  have hb1 := pw_cell_below (below_alloc (Below.refl _ _) (.cells #[.string x.f0, .string x.f1] 52)) hb
  go_enter Try.func52, Try.ntmps52
  go_wp2
  go_ret
  exact ⟨rfl, below_alloc (Below.refl _ _) _⟩

theorem findI_drop (a : ByteArray) (l : List S52) (j : Nat) (hj : j < l.length) : findI a (l.drop j) j = if (rd_T52 l j).f0.toList = a.toList then (j : Int) else findI a (l.drop (j + 1)) ((j + 1 : Nat) : Int) := by
  rw [List.drop_eq_getElem_cons hj]
  simp [findI, rd_T52, List.getD_eq_getElem?_getD, hj]

set_option maxRecDepth 100000 in
set_option maxHeartbeats 4000000 in
theorem index51 (A0 : Option Addr) (c0 : Nat) (l0 : List S52) (a : ByteArray) (b : Nat) (w : World) (hr0 : Kd.C k52 w A0 l0.length l0) (hb : w.cell? ⟨b, 0, none⟩ = some (.string a)) :
    Calls Try.prog 51 #[.slice A0 l0.length c0, .func (.func 52) #[] #[.pointer (some ⟨b, 0, none⟩)]] w fun e w' => e = .returned (.int .i64 (findI a l0 0)) ∧ Below w.heap.size w w' := by
  have hu52 := Try.underlying52
  have HR0 := Aside0.mk hr0
  have HM := Kd.C_max hr0
  have HN := Aside0.mk hb
  clear hr0 hb
  go_enter Try.func51, Try.ntmps51
  go_wp2
  go_loopw [8] (fun i wr => ∃ (j : Nat), j ≤ l0.length ∧ i = .int .i64 j ∧ Aside0 (findI a (l0.drop j) j = findI a l0 0) ∧ Aside0 (Below w.heap.size w wr)) (fun i _ => l0.length - (intOf i).toNat)
  case atStart => exact ⟨0, Nat.zero_le _, rfl, ⟨rfl⟩, ⟨Below.refl _ _⟩⟩
  case round =>
    obtain ⟨j, hj, rfl, HF, HB⟩ := hrel
    by_cases hlt : j < l0.length
    · have hji : (j : Int) < (l0.length : Int) := by omega
      obtain ⟨ad, ea, hx0, hx1⟩ := at_T52 (Kd.C_below HR0.out HB.out) (j : Int) (by omega) hji
      cases ea
      have hbr := Aside0.mk (pw_cell_below HB.out HN.out)
      rw [Int.toNat_natCast] at hx0 hx1
      have HE := Aside0.mk (findI_drop a l0 j hlt)
      by_cases heq : (rd_T52 l0 j).f0.toList = a.toList
      · have hq : ((rd_T52 l0 j).f0.toList == a.toList) = true := beq_iff_eq.mpr heq
        have HQ := Aside0.mk heq
        clear heq
        go_wp2_with fail
        refine (find52 _ a b _ hbr.out).mono ?_
        rintro e w2 ⟨rfl, hb2⟩
        go_wp2
        go_ret
        exact ⟨by rw [← HF.out, HE.out, if_pos HQ.out]; rfl, below_step HB.out hb2⟩
      · have hq : ((rd_T52 l0 j).f0.toList == a.toList) = false := beq_eq_false_iff_ne.mpr heq
        have HQ := Aside0.mk heq
        clear heq
        go_wp2_with fail
        refine (find52 _ a b _ hbr.out).mono ?_
        rintro e w2 ⟨rfl, hb2⟩
        have HB2 := Aside0.mk (below_step HB.out hb2)
        clear hb2
        go_wp2
        go_roundw
        case rel => exact ⟨j + 1, by omega, by congr 1, ⟨by rw [← HF.out, HE.out, if_neg HQ.out]⟩, HB2⟩
        case measure => simp [intOf]; omega
    · obtain rfl : j = l0.length := by omega
      go_wp2
      go_ret
      exact ⟨by rw [← HF.out, List.drop_length]; rfl, HB.out⟩

set_option maxHeartbeats 1000000 in
theorem sig_Find.calls (A0 : Option Addr) (c0 : Nat) (l0 : List (S52)) (a1 : ByteArray) (r : Int) (w : World) (hr0 : Kd.C k52 w A0 l0.length l0) (hc0 : l0.length ≤ c0) (h : sig_Find.f l0 a1 = some r) :
    Calls Try.prog 42 #[.slice A0 l0.length c0, .string a1] w fun e w' => e = .returned (.int .i64 r) ∧ Below w.heap.size w w' := by
  obtain rfl : findI a1 l0 0 = r := Option.some.inj h
  have HR0 := Aside0.mk (Kd.C_below hr0 (below_alloc (Below.refl _ _) (.cells #[.string a1] 9)))
  have HB := Aside0.mk (Boxed.new w 9 (.string a1)).cell
  clear hr0 h
  go_enter Try.func42, Try.ntmps42
  go_wp2_with fail
  refine (index51 A0 c0 l0 a1 _ _ HR0.out HB.out).mono ?_
  rintro e w2 ⟨rfl, hb2⟩
  go_wp2
  go_ret
  exact ⟨rfl, below_step (below_alloc (Below.refl _ _) _) hb2⟩

/-! ### side.turned -/
def side_turned.f (a0 a1 : Int) : Option Int := if a0 = 76 ∨ a0 = 82 ∨ a0 = 66 ∨ a0 = 0 then some (if a1 = 43 then a0 else if a1 = 45 then (if a0 = 76 then 82 else if a0 = 82 then 76 else if a0 = 66 then 66 else 0) else 66) else none

/-- The map of the other sides, in a world behind w. -/
theorem sides_map (w : World) : ∃ w1 w2 w3 : World,
    (Instr.mapUpdate 72 (.map (some w.heap.size)) (.int .u8 76) (.int .u8 82)).run Try.prog (w.alloc (.map #[] 0)) = .ok () w1 ∧
    (Instr.mapUpdate 72 (.map (some w.heap.size)) (.int .u8 82) (.int .u8 76)).run Try.prog w1 = .ok () w2 ∧
    (Instr.mapUpdate 72 (.map (some w.heap.size)) (.int .u8 66) (.int .u8 66)).run Try.prog w2 = .ok () w3 ∧
    Below w.heap.size w w3 ∧ ∀ a0 : Int, a0 = 76 ∨ a0 = 82 ∨ a0 = 66 ∨ a0 = 0 →
      (Instr.lookup 72 (.map (some w.heap.size)) (.int .u8 a0) false).run Try.prog w3 = .ok (.int .u8 (if a0 = 76 then 82 else if a0 = 82 then 76 else if a0 = 66 then 66 else 0)) w3 := by
  have h0 := World.ownsMap_made (H := Unit) w Try.prog 5 (plainElem Try.prog 5)
  have K := Maps.int_keyed (P := Try.prog) Try.underlying5
  have hk : ∀ a : Int, (Lit.int .u8 a).wf = true → keyOf Try.prog 5 (.int .u8 a) = some (.int .u8 a) := fun a h => Maps.keyOf_int_mk Try.underlying5 h
  have hv : ∀ a : Int, (Lit.int .u8 a).wf = true → plainElem (H := Unit) Try.prog 5 (.int .u8 a) = some (.lit (.int .u8 a), []) := fun a h => plainElem_int Try.underlying5 h
  obtain ⟨w1, r1, o1, g1⟩ := h0.update K Try.underlying72 (by decide) (hk 76 (by decide)) (hv 82 (by decide))
  obtain ⟨w2, r2, o2, g2⟩ := o1.update K Try.underlying72 (by decide) (hk 82 (by decide)) (hv 76 (by decide))
  obtain ⟨w3, r3, o3, g3⟩ := o2.update K Try.underlying72 (by decide) (hk 66 (by decide)) (hv 66 (by decide))
  have hb0 : Below w.heap.size w (w.alloc (.map #[] 0)) := below_alloc (Below.refl _ _) _
  have hb1 := hb0.grown g1 hb0.size (fun k e => by cases e; exact Nat.le_refl _)
  have hb2 := hb1.grown g2 hb1.size (fun k e => by cases e; exact Nat.le_refl _)
  have hb3 := hb2.grown g3 hb2.size (fun k e => by cases e; exact Nat.le_refl _)
  refine ⟨w1, w2, w3, r1, r2, r3, hb3, fun a0 ha => ?_⟩
  have hz : (zeroValue 5).run Try.prog w3 = .ok (.int .u8 0) w3 := by kernel_rfl
  have hw : (Lit.int .u8 a0).wf = true := by rcases ha with rfl | rfl | rfl | rfl <;> decide
  obtain ⟨c, hrun, hat, _⟩ := o3.lookup_int K Try.underlying72 Try.underlying5 hz (hk a0 hw)
  rw [hrun]
  have : DataW.lit (H := Unit) (.int .u8 (if a0 = 76 then 82 else if a0 = 82 then 76 else if a0 = 66 then 66 else 0)) = .lit (.int .u8 c) := by
    rw [← hat]
    rcases ha with rfl | rfl | rfl | rfl <;> rfl
  injection this with this
  injection this with _ this
  rw [this]

set_option maxHeartbeats 1000000 in
theorem side_turned.calls (a0 a1 r : Int) (w : World) (h : side_turned.f a0 a1 = some r) :
    Calls Try.prog 31 #[.int .u8 a0, .int .u8 a1] w fun e w' => e = .returned (.int .u8 r) ∧ Below w.heap.size w w' := by
  unfold side_turned.f at h
  by_cases ha : a0 = 76 ∨ a0 = 82 ∨ a0 = 66 ∨ a0 = 0
  case neg => rw [if_neg ha] at h; cases h
  rw [if_pos ha] at h
  have H := Aside0.mk (Option.some.inj h)
  clear h
  have hmm := @run_makeMap Try.prog
  obtain ⟨w1, w2, w3, r1, r2, r3, hb, hl⟩ := sides_map w
  have HB := Aside0.mk hb
  have hl0 := hl a0 ha
  clear hl hb ha
  by_cases h1 : a1 = 43
  · subst h1
    go_enter Try.func31, Try.ntmps31
    go_wp2
    go_ret
    exact ⟨by rw [← H.out, if_pos trivial]; rfl, HB.out⟩
  · have e1 : (a1 == 43) = false := beq_eq_false_iff_ne.mpr h1
    by_cases h2 : a1 = 45
    · subst h2
      obtain ⟨q, hq⟩ : ∃ q : Int, (if a0 = 76 then 82 else if a0 = 82 then 76 else if a0 = 66 then 66 else 0) = q := ⟨_, rfl⟩
      rw [hq] at hl0
      have HQ := Aside0.mk hq
      clear hq h1
      go_enter Try.func31, Try.ntmps31
      go_wp2
      go_ret
      exact ⟨by rw [← H.out, if_neg (by decide), if_pos trivial, HQ.out]; rfl, HB.out⟩
    · have e2 : (a1 == 45) = false := beq_eq_false_iff_ne.mpr h2
      have H1 := Aside0.mk h1
      have H2 := Aside0.mk h2
      clear h1 h2
      go_enter Try.func31, Try.ntmps31
      go_wp2
      go_ret
      exact ⟨by rw [← H.out, if_neg H1.out, if_neg H2.out]; rfl, HB.out⟩

end Go.Proofs.Ytgbickkmfjngbaa.K
