/- container/heap over a row of pairs: up, Push. -/
import Derived.Test.YtfjgfkokhnpbcaaHs
import Derived.Test.YtfjgfkokhnpbcaaUx0
namespace Go.Proofs.Ytfjgfkokhnpbcaa.U
open Go.RowKit Go.Proofs.YtfjgfkokhnpbcaaW.PrintWords Go.Proofs.YtfjgfkokhnpbcaaW.PrintLast Go.Proofs.YtfjgfkokhnpbcaaW.PrintMore
set_option linter.unusedVariables false
set_option linter.unusedSimpArgs false
theorem swap2_length (l : List S30) (i k : Int) : (swap2 l i k).length = l.length := by simp [swap2]
def upL : Nat → List S30 → Nat → List S30
  | 0, l, _ => l
  | k + 1, l, j => if j = 0 then l else if less2 (rd_T30 l (j : Int)) (rd_T30 l (((j - 1) / 2 : Nat) : Int)) = true then upL k (swap2 l (((j - 1) / 2 : Nat) : Int) (j : Int)) ((j - 1) / 2) else l
theorem upL_zero (k : Nat) (l : List S30) : upL k l 0 = l := by cases k <;> simp [upL]
theorem upL_length : ∀ (k : Nat) (l : List S30) (j : Nat), (upL k l j).length = l.length
  | 0, _, _ => rfl
  | k + 1, l, j => by
    unfold upL
    split
    · rfl
    · split
      · rw [upL_length k]; exact swap2_length _ _ _
      · rfl
set_option maxRecDepth 100000 in
set_option maxHeartbeats 4000000 in
theorem up44 (base g : Nat) (l : List S30) (j : Nat) (w : World) (h : RowAt base w g l) (hj : j < l.length) (hl : l.length < 8796093022208) (hbase : base ≤ w.heap.size) :
    Calls Try.prog 44 #[.iface 52 (.pointer (some ⟨g, 0, none⟩)), .int .i64 (j : Int)] w fun e w' => e = .returned (.tuple #[]) ∧ RowAt base w' g (upL j l j) ∧ Below base w w' := by
  have H := Aside0.mk h
  have HBS := Aside0.mk hbase
  obtain ⟨r, hr⟩ : ∃ r, r = upL j l j := ⟨_, rfl⟩
  rw [← hr]
  have HR := Aside0.mk hr
  have HL := Aside0.mk hl
  have HJ := Aside0.mk hj
  clear h hbase hr hl hj
  go_enter Try.func44, Try.ntmps44
  go_wp2_with fail
  go_loopw [1] (fun i wr => ∃ (k j' : Nat) (l' : List S30), i = .int .i64 (j' : Int) ∧ Aside0 (j' ≤ k ∧ j' < l'.length ∧ l'.length = l.length ∧ upL k l' j' = r ∧ RowAt base wr g l' ∧ Below base w wr)) (fun i _ => (intOf i).toNat)
  case atStart => exact ⟨j, j, l, rfl, ⟨Nat.le_refl _, HJ.out, rfl, HR.out.symm, H.out, (Below.refl w.heap.size w).mono HBS.out⟩⟩
  case round =>
    obtain ⟨k, j', l', rfl, HI⟩ := hrel
    by_cases h0 : j' = 0
    · subst h0
      go_wp2_with fail
      refine bodyPost_end (v := .tuple #[]) ?_ rfl ?_
      · simp [results, show Try.f44.results = #[] from rfl]
      obtain ⟨_, _, _, h4, h5, h6⟩ := HI.out
      rw [upL_zero] at h4
      subst h4
      exact ⟨rfl, h5, h6⟩
    · obtain ⟨p, hp⟩ : ∃ p, p = (j' - 1) / 2 := ⟨_, rfl⟩
      have hjb : (j' : Int) < 8796093022208 := by have := HI.out.2.1; have := HI.out.2.2.1; have := HL.out; omega
      have htd : Int.tdiv ((j' : Int) - 1) 2 = (p : Int) := by rw [Int.tdiv_eq_ediv_of_nonneg (by omega)]; omega
      have hpj : ((p : Int) == (j' : Int)) = false := by simp; omega
      have hwp : wrap64 (p : Int) = (p : Int) := by unfold wrap64; omega
      have HP := Aside0.mk hp
      have HH0 := Aside0.mk h0
      clear hp
      go_wp2_with fail
      refine (Less73 base g l' (j' : Int) (p : Int) wr HI.out.2.2.2.2.1 (by omega) (by have := HI.out.2.1; omega) (by omega) (by have := HI.out.2.1; have := HP.out; omega)).mono ?_
      rintro e w2 ⟨rfl, hb2⟩
      have HB2 := Aside0.mk hb2
      have HS2 := Aside0.mk (show base ≤ wr.heap.size from Nat.le_trans HBS.out HI.out.2.2.2.2.2.size)
      clear hb2
      obtain ⟨k, rfl⟩ : ∃ k', k = k' + 1 := ⟨k - 1, by have := HI.out.1; have := HH0.out; omega⟩
      have HU := Aside0.mk (show (if less2 (rd_T30 l' (j' : Int)) (rd_T30 l' (p : Int)) = true then upL k (swap2 l' (p : Int) (j' : Int)) p else l') = r from by
        have h4 := HI.out.2.2.2.1
        unfold upL at h4
        rw [if_neg HH0.out, ← HP.out] at h4
        exact h4)
      have HRW := Aside0.mk (RowAt.below HI.out.2.2.2.2.1 HB2.out)
      have HBB := Aside0.mk (show Below base w w2 from HI.out.2.2.2.2.2.trans (HB2.out.mono HS2.out))
      cases hq : less2 (rd_T30 l' (j' : Int)) (rd_T30 l' (p : Int)) with
      | false =>
        go_wp2_with fail
        refine bodyPost_end (v := .tuple #[]) ?_ rfl ?_
        · simp [results, show Try.f44.results = #[] from rfl]
        have h4 := HU.out
        rw [hq, if_neg (by decide)] at h4
        subst h4
        exact ⟨rfl, HRW.out, HBB.out⟩
      | true =>
        go_wp2_with fail
        refine (Swap76 base g l' (p : Int) (j' : Int) w2 HRW.out (by omega) (by have := HI.out.2.1; have := HP.out; omega) (by omega) (by have := HI.out.2.1; omega) (Nat.le_trans HBS.out HBB.out.size)).mono ?_
        rintro e w3 ⟨rfl, hr3, hb3⟩
        have HR3 := Aside0.mk hr3
        have HB3 := Aside0.mk (HBB.out.trans hb3)
        clear hr3 hb3
        go_wp2_with fail
        go_roundw
        case rel =>
          have h4 := HU.out
          rw [hq, if_pos rfl] at h4
          exact ⟨k, p, _, rfl, ⟨by have := HI.out.1; have := HP.out; have := HH0.out; omega, by rw [swap2_length]; have := HI.out.2.1; have := HP.out; omega, by rw [swap2_length]; exact HI.out.2.2.1, h4, HR3.out, HB3.out⟩⟩
        case measure => simp [intOf]; have := HP.out; have := HH0.out; omega
theorem Push27 (base g : Nat) (l : List S30) (a0 a1 : Int) (w : World) (h : RowAt base w g l) (hl : l.length < 8796093022207) (hbase : base ≤ w.heap.size) :
    Calls Try.prog 27 #[.iface 52 (.pointer (some ⟨g, 0, none⟩)), .iface 30 (.agg #[.int .i64 a0, .int .i64 a1])] w fun e w' => e = .returned (.tuple #[]) ∧ RowAt base w' g (upL l.length (l ++ [⟨a0, a1⟩]) l.length) ∧ Below base w w' := by
  obtain ⟨y, hy⟩ : ∃ y, y = l ++ [(⟨a0, a1⟩ : S30)] := ⟨_, rfl⟩
  have hyl : y.length = l.length + 1 := by rw [hy]; simp
  rw [← hy]
  have H := Aside0.mk (Push75 base g l a0 a1 w h hl hbase)
  rw [← hy] at H
  have HY := Aside0.mk hyl
  have hsub : (y.length : Int) - 1 = (l.length : Int) := by omega
  have hle : (y.length : Int) ≤ 8796093022208 := by omega
  clear h hy hyl
  go_enter Try.func27, Try.ntmps27
  go_wp2_with fail
  refine H.out.mono ?_
  rintro e w1 ⟨rfl, hr1, hb1⟩
  have HR1 := Aside0.mk hr1
  have HB1 := Aside0.mk hb1
  clear hr1 hb1
  go_wp2_with fail
  refine (Len72 base g y w1 HR1.out).mono ?_
  rintro e w2 ⟨rfl, rfl⟩
  go_wp2_with fail
  refine (up44 base g y l.length w2 HR1.out (by have := HY.out; omega) (by have := HY.out; omega) (Nat.le_trans hbase HB1.out.size)).mono ?_
  rintro e w3 ⟨rfl, hr3, hb3⟩
  have HR3 := Aside0.mk hr3
  have HB3 := Aside0.mk hb3
  clear hr3 hb3
  go_wp2_with fail
  refine bodyPost_end (v := .tuple #[]) ?_ rfl ?_
  · simp [results, show Try.f27.results = #[] from rfl]
  exact ⟨rfl, HR3.out, HB1.out.trans HB3.out⟩
end Go.Proofs.Ytfjgfkokhnpbcaa.U
