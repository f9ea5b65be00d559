/- container/heap over a row of pairs: down, Pop. -/
import Derived.Test.YtfjgfkokhnpbcaaHt
import Derived.Test.YtfjgfkokhnpbcaaUx0
namespace Go.Proofs.Ytfjgfkokhnpbcaa.U
open Go.RowKit Go.Proofs.YtfjgfkokhnpbcaaW.PrintWords Go.Proofs.YtfjgfkokhnpbcaaW.PrintLast Go.Proofs.YtfjgfkokhnpbcaaW.PrintMore
set_option linter.unusedVariables false
set_option linter.unusedSimpArgs false
def downL : Nat → List S30 → Int → Int → List S30
  | 0, l, _, _ => l
  | k + 1, l, i, n => if 2 * i + 1 ≥ n then l else
    if 2 * i + 1 + 1 < n ∧ less2 (rd_T30 l (2 * i + 1 + 1)) (rd_T30 l (2 * i + 1)) = true then (if less2 (rd_T30 l (2 * i + 1 + 1)) (rd_T30 l i) = true then downL k (swap2 l i (2 * i + 1 + 1)) (2 * i + 1 + 1) n else l)
    else (if less2 (rd_T30 l (2 * i + 1)) (rd_T30 l i) = true then downL k (swap2 l i (2 * i + 1)) (2 * i + 1) n else l)
theorem downL_length : ∀ (k : Nat) (l : List S30) (i n : Int), (downL k l i n).length = l.length
  | 0, _, _, _ => rfl
  | k + 1, l, i, n => by
    unfold downL
    repeat' split
    all_goals first
      | rfl
      | (rw [downL_length k]; exact swap2_length _ _ _)
theorem downL_end (k : Nat) (l : List S30) (i n : Int) (h : 2 * i + 1 ≥ n) : downL k l i n = l := by
  cases k with
  | zero => rfl
  | succ k => unfold downL; rw [if_pos h]
set_option maxRecDepth 100000 in
set_option maxHeartbeats 4000000 in
theorem down45 (base g : Nat) (l : List S30) (n : Int) (w : World) (h : RowAt base w g l) (hn : n ≤ (l.length : Int)) (h0 : 0 ≤ n) (hl : l.length < 8796093022208) (hbase : base ≤ w.heap.size) :
    Calls Try.prog 45 #[.iface 52 (.pointer (some ⟨g, 0, none⟩)), .int .i64 0, .int .i64 n] w fun e w' => ∃ b, e = .returned b ∧ RowAt base w' g (downL n.toNat l 0 n) ∧ Below base w w' := by
  have H := Aside0.mk h
  have HBS := Aside0.mk hbase
  obtain ⟨r, hr⟩ : ∃ r, r = downL n.toNat l 0 n := ⟨_, rfl⟩
  rw [← hr]
  have HR := Aside0.mk hr
  have HL := Aside0.mk hl
  have HN := Aside0.mk hn
  have HN0 := Aside0.mk h0
  have hnb : n < 8796093022208 := by omega
  clear h hbase hr hl hn h0
  go_enter Try.func45, Try.ntmps45
  go_wp2_with fail
  go_loopw [7] (fun iv wr => ∃ (k : Nat) (i : Int) (l' : List S30), iv = .int .i64 i ∧ Aside0 (n - i ≤ k ∧ 0 ≤ i ∧ (i < n ∨ n = 0 ∧ i = 0) ∧ l'.length = l.length ∧ downL k l' i n = r ∧ RowAt base wr g l' ∧ Below base w wr)) (fun i _ => (n - intOf i).toNat)
  case atStart => exact ⟨n.toNat, 0, l, rfl, ⟨by have := HN0.out; omega, by omega, by have := HN0.out; omega, rfl, HR.out.symm, H.out, (Below.refl w.heap.size w).mono HBS.out⟩⟩
  case round =>
    obtain ⟨k, i, l', rfl, HI⟩ := hrel
    have hi0 : 0 ≤ i := HI.out.2.1
    have hib : i < 8796093022208 := by have := HI.out.2.2.1; omega
    have HRW := Aside0.mk HI.out.2.2.2.2.2.1
    have HBB := Aside0.mk HI.out.2.2.2.2.2.2
    by_cases hge : 2 * i + 1 ≥ n
    · have hx : ¬ 2 * i + 1 < n := by omega
      have hd1 : decide (n ≤ 2 * i + 1) = true := by simpa using hge
      have HR2 := Aside0.mk (show l' = r from by have h4 := HI.out.2.2.2.2.1; rw [downL_end _ _ _ _ hge] at h4; exact h4)
      go_wp2_with fail
      go_ret
      have h4 := HR2.out
      subst h4
      first
        | exact ⟨_, rfl, HRW.out, HBB.out⟩
        | exact ⟨⟨_, rfl⟩, HRW.out, HBB.out⟩
    · have hx : 2 * i + 1 < n := by omega
      have hd1 : decide (n ≤ 2 * i + 1) = false := by simpa using hge
      have hd2 : decide (2 * i + 1 < 0) = false := by simp; omega
      obtain ⟨k, rfl⟩ : ∃ k', k = k' + 1 := ⟨k - 1, by have := HI.out.1; omega⟩
      have HU0 := Aside0.mk (show (if 2 * i + 1 + 1 < n ∧ less2 (rd_T30 l' (2 * i + 1 + 1)) (rd_T30 l' (2 * i + 1)) = true then (if less2 (rd_T30 l' (2 * i + 1 + 1)) (rd_T30 l' i) = true then downL k (swap2 l' i (2 * i + 1 + 1)) (2 * i + 1 + 1) n else l')
          else (if less2 (rd_T30 l' (2 * i + 1)) (rd_T30 l' i) = true then downL k (swap2 l' i (2 * i + 1)) (2 * i + 1) n else l')) = r from by
        have h4 := HI.out.2.2.2.2.1
        unfold downL at h4
        rw [if_neg hge] at h4
        exact h4)
      by_cases h2 : 2 * i + 1 + 1 < n
      · have hd3 : decide (2 * i + 1 + 1 < n) = true := decide_eq_true h2
        go_wp2_with fail
        have HSW := Aside0.mk (show base ≤ wr.heap.size from Nat.le_trans HBS.out HBB.out.size)
        refine (Less73 base g l' (2 * i + 1 + 1) (2 * i + 1) wr HRW.out (by omega) (by have := HI.out.2.2.2.1; have := HN.out; omega) (by omega) (by have := HI.out.2.2.2.1; have := HN.out; omega)).mono ?_
        rintro e w3 ⟨rfl, hb3⟩
        have HRW3 := Aside0.mk (RowAt.below HRW.out hb3)
        have HBB3 := Aside0.mk (show Below base w w3 from HBB.out.trans (hb3.mono HSW.out))
        clear hb3
        cases hz : less2 (rd_T30 l' (2 * i + 1 + 1)) (rd_T30 l' (2 * i + 1)) with
        | false =>
          have HU := Aside0.mk (show (if less2 (rd_T30 l' (2 * i + 1)) (rd_T30 l' i) = true then downL k (swap2 l' i (2 * i + 1)) (2 * i + 1) n else l') = r from by
            have h4 := HU0.out
            rw [if_neg (by rw [hz]; simp)] at h4
            exact h4)
          go_wp2_with fail
          have HSX := Aside0.mk (show base ≤ w3.heap.size from Nat.le_trans HBS.out HBB3.out.size)
          refine (Less73 base g l' (2 * i + 1) i w3 HRW3.out (by omega) (by have := HI.out.2.2.2.1; have := HN.out; omega) (by omega) (by have := HI.out.2.2.2.1; have := HN.out; omega)).mono ?_
          rintro e w4 ⟨rfl, hb4⟩
          have HRW4 := Aside0.mk (RowAt.below HRW3.out hb4)
          have HBB4 := Aside0.mk (show Below base w w4 from HBB3.out.trans (hb4.mono HSX.out))
          clear hb4
          cases hq : less2 (rd_T30 l' (2 * i + 1)) (rd_T30 l' i) with
          | false =>
            go_wp2_with fail
            go_ret
            have h4 := HU.out
            rw [hq, if_neg (by decide)] at h4
            subst h4
            exact ⟨_, rfl, HRW4.out, HBB4.out⟩
          | true =>
            go_wp2_with fail
            refine (Swap76 base g l' i (2 * i + 1) w4 HRW4.out (by omega) (by have := HI.out.2.2.2.1; have := HN.out; omega) (by omega) (by have := HI.out.2.2.2.1; have := HN.out; omega) (Nat.le_trans HBS.out HBB4.out.size)).mono ?_
            rintro e w5 ⟨rfl, hr5, hb5⟩
            have HR5 := Aside0.mk hr5
            have HB5 := Aside0.mk (HBB4.out.trans hb5)
            clear hr5 hb5
            go_wp2_with fail
            go_roundw
            case rel =>
              have h4 := HU.out
              rw [hq, if_pos rfl] at h4
              exact ⟨k, 2 * i + 1, _, rfl, ⟨by have := HI.out.1; omega, by omega, by omega, by rw [swap2_length]; exact HI.out.2.2.2.1, h4, HR5.out, HB5.out⟩⟩
            case measure => simp [intOf]; omega
        | true =>
          have HU := Aside0.mk (show (if less2 (rd_T30 l' (2 * i + 1 + 1)) (rd_T30 l' i) = true then downL k (swap2 l' i (2 * i + 1 + 1)) (2 * i + 1 + 1) n else l') = r from by
            have h4 := HU0.out
            rw [if_pos ⟨h2, hz⟩] at h4
            exact h4)
          go_wp2_with fail
          have HSX := Aside0.mk (show base ≤ w3.heap.size from Nat.le_trans HBS.out HBB3.out.size)
          refine (Less73 base g l' (2 * i + 1 + 1) i w3 HRW3.out (by omega) (by have := HI.out.2.2.2.1; have := HN.out; omega) (by omega) (by have := HI.out.2.2.2.1; have := HN.out; omega)).mono ?_
          rintro e w4 ⟨rfl, hb4⟩
          have HRW4 := Aside0.mk (RowAt.below HRW3.out hb4)
          have HBB4 := Aside0.mk (show Below base w w4 from HBB3.out.trans (hb4.mono HSX.out))
          clear hb4
          cases hq : less2 (rd_T30 l' (2 * i + 1 + 1)) (rd_T30 l' i) with
          | false =>
            go_wp2_with fail
            go_ret
            have h4 := HU.out
            rw [hq, if_neg (by decide)] at h4
            subst h4
            exact ⟨_, rfl, HRW4.out, HBB4.out⟩
          | true =>
            go_wp2_with fail
            refine (Swap76 base g l' i (2 * i + 1 + 1) w4 HRW4.out (by omega) (by have := HI.out.2.2.2.1; have := HN.out; omega) (by omega) (by have := HI.out.2.2.2.1; have := HN.out; omega) (Nat.le_trans HBS.out HBB4.out.size)).mono ?_
            rintro e w5 ⟨rfl, hr5, hb5⟩
            have HR5 := Aside0.mk hr5
            have HB5 := Aside0.mk (HBB4.out.trans hb5)
            clear hr5 hb5
            go_wp2_with fail
            go_roundw
            case rel =>
              have h4 := HU.out
              rw [hq, if_pos rfl] at h4
              exact ⟨k, 2 * i + 1 + 1, _, rfl, ⟨by have := HI.out.1; omega, by omega, by omega, by rw [swap2_length]; exact HI.out.2.2.2.1, h4, HR5.out, HB5.out⟩⟩
            case measure => simp [intOf]; omega
      · have hd3 : decide (2 * i + 1 + 1 < n) = false := decide_eq_false h2
        have HU := Aside0.mk (show (if less2 (rd_T30 l' (2 * i + 1)) (rd_T30 l' i) = true then downL k (swap2 l' i (2 * i + 1)) (2 * i + 1) n else l') = r from by
          have h4 := HU0.out
          rw [if_neg (fun e => h2 e.1)] at h4
          exact h4)
        go_wp2_with fail
        have HSX := Aside0.mk (show base ≤ wr.heap.size from Nat.le_trans HBS.out HBB.out.size)
        refine (Less73 base g l' (2 * i + 1) i wr HRW.out (by omega) (by have := HI.out.2.2.2.1; have := HN.out; omega) (by omega) (by have := HI.out.2.2.2.1; have := HN.out; omega)).mono ?_
        rintro e w4 ⟨rfl, hb4⟩
        have HRW4 := Aside0.mk (RowAt.below HRW.out hb4)
        have HBB4 := Aside0.mk (show Below base w w4 from HBB.out.trans (hb4.mono HSX.out))
        clear hb4
        cases hq : less2 (rd_T30 l' (2 * i + 1)) (rd_T30 l' i) with
        | false =>
          go_wp2_with fail
          go_ret
          have h4 := HU.out
          rw [hq, if_neg (by decide)] at h4
          subst h4
          exact ⟨_, rfl, HRW4.out, HBB4.out⟩
        | true =>
          go_wp2_with fail
          refine (Swap76 base g l' i (2 * i + 1) w4 HRW4.out (by omega) (by have := HI.out.2.2.2.1; have := HN.out; omega) (by omega) (by have := HI.out.2.2.2.1; have := HN.out; omega) (Nat.le_trans HBS.out HBB4.out.size)).mono ?_
          rintro e w5 ⟨rfl, hr5, hb5⟩
          have HR5 := Aside0.mk hr5
          have HB5 := Aside0.mk (HBB4.out.trans hb5)
          clear hr5 hb5
          go_wp2_with fail
          go_roundw
          case rel =>
            have h4 := HU.out
            rw [hq, if_pos rfl] at h4
            exact ⟨k, 2 * i + 1, _, rfl, ⟨by have := HI.out.1; omega, by omega, by omega, by rw [swap2_length]; exact HI.out.2.2.2.1, h4, HR5.out, HB5.out⟩⟩
          case measure => simp [intOf]; omega
theorem swap2_far (l : List S30) (i k : Int) (m : Nat) (hi : i.toNat ≠ m) (hk : k.toNat ≠ m) : (swap2 l i k)[m]? = l[m]? := by
  unfold swap2
  rw [List.getElem?_set_ne hk, List.getElem?_set_ne hi]
theorem downL_far : ∀ (k : Nat) (l : List S30) (i n : Int) (m : Nat), 0 ≤ i → n ≤ (m : Int) → (downL k l i n)[m]? = l[m]?
  | 0, _, _, _, _, _, _ => rfl
  | k + 1, l, i, n, m, h0, hm => by
    unfold downL
    split
    · rfl
    · split
      · rename_i h1 h2
        have := h2.1
        split
        · rw [downL_far k _ _ n m (by omega) hm, swap2_far _ _ _ _ (by omega) (by omega)]
        · rfl
      · split
        · rw [downL_far k _ _ n m (by omega) hm, swap2_far _ _ _ _ (by omega) (by omega)]
        · rfl
theorem pop_last (l : List S30) (hpos : 0 < l.length) : downL (l.length - 1) (swap2 l 0 ((l.length : Int) - 1)) 0 ((l.length : Int) - 1) = (downL (l.length - 1) (swap2 l 0 ((l.length : Int) - 1)) 0 ((l.length : Int) - 1)).take (l.length - 1) ++ [rd_T30 l 0] := by
  have hlen : (downL (l.length - 1) (swap2 l 0 ((l.length : Int) - 1)) 0 ((l.length : Int) - 1)).length = l.length := by rw [downL_length, swap2_length]
  have hfar := downL_far (l.length - 1) (swap2 l 0 ((l.length : Int) - 1)) 0 ((l.length : Int) - 1) (l.length - 1) (by omega) (by omega)
  have h2 : (swap2 l 0 ((l.length : Int) - 1))[l.length - 1]? = some (rd_T30 l 0) := by
    unfold swap2
    rw [show ((l.length : Int) - 1).toNat = l.length - 1 from by omega]
    rw [List.getElem?_set_self (by rw [List.length_set]; omega)]
  rw [h2] at hfar
  obtain ⟨d, hd⟩ : ∃ d, d = downL (l.length - 1) (swap2 l 0 ((l.length : Int) - 1)) 0 ((l.length : Int) - 1) := ⟨_, rfl⟩
  rw [← hd] at hlen hfar ⊢
  have hk : l.length - 1 < d.length := by omega
  rw [List.getElem?_eq_getElem hk] at hfar
  injection hfar with hfar
  have h3 := List.take_append_drop (l.length - 1) d
  rw [List.drop_eq_getElem_cons hk, hfar, List.drop_of_length_le (by omega)] at h3
  exact h3.symm
set_option maxRecDepth 100000 in
set_option maxHeartbeats 4000000 in
theorem Pop28 (base g : Nat) (l : List S30) (w : World) (h : RowAt base w g l) (hpos : 0 < l.length) (hl : l.length < 8796093022208) (hbase : base ≤ w.heap.size) :
    Calls Try.prog 28 #[.iface 52 (.pointer (some ⟨g, 0, none⟩))] w fun e w' => e = .returned (.iface 30 (.agg #[.int .i64 (rd_T30 l 0).f0, .int .i64 (rd_T30 l 0).f1])) ∧ RowAt base w' g ((downL (l.length - 1) (swap2 l 0 ((l.length : Int) - 1)) 0 ((l.length : Int) - 1)).take (l.length - 1)) ∧ Below base w w' := by
  have H := Aside0.mk h
  have hle : (l.length : Int) < 8796093022208 := by omega
  have hle2 : 0 < (l.length : Int) := by omega
  have HBS := Aside0.mk hbase
  clear h hbase
  go_enter Try.func28, Try.ntmps28
  go_wp2_with fail
  refine (Len72 base g l w H.out).mono ?_
  rintro e w1 ⟨rfl, rfl⟩
  go_wp2_with fail
  refine (Swap76 base g l 0 ((l.length : Int) - 1) w1 H.out (by omega) (by omega) (by omega) (by omega) HBS.out).mono ?_
  rintro e w2 ⟨rfl, hr2, hb2⟩
  have HR2 := Aside0.mk hr2
  have HB2 := Aside0.mk hb2
  clear hr2 hb2
  go_wp2_with fail
  refine (down45 base g _ ((l.length : Int) - 1) w2 HR2.out (by rw [swap2_length]; omega) (by omega) (by rw [swap2_length]; exact hl) (Nat.le_trans HBS.out HB2.out.size)).mono ?_
  rintro e w3 ⟨b, rfl, hr3, hb3⟩
  have HB3 := Aside0.mk (HB2.out.trans hb3)
  rw [show (((l.length : Int) - 1).toNat) = l.length - 1 from by omega] at hr3
  have hlen : (downL (l.length - 1) (swap2 l 0 ((l.length : Int) - 1)) 0 ((l.length : Int) - 1)).length = l.length := by rw [downL_length, swap2_length]
  have hlast := pop_last l hpos
  obtain ⟨d, hd⟩ : ∃ d, d = downL (l.length - 1) (swap2 l 0 ((l.length : Int) - 1)) 0 ((l.length : Int) - 1) := ⟨_, rfl⟩
  rw [← hd] at hr3 hlen hlast
  rw [hlast] at hr3
  have HD := Aside0.mk hd
  have HR3 := Aside0.mk hr3
  have HT := Aside0.mk (show (d.take (l.length - 1)).length < 8796093022207 from by rw [List.length_take]; omega)
  clear hr3 hb3 hlast hlen hd
  go_wp2_with fail
  refine (Pop74 base g (d.take (l.length - 1)) (rd_T30 l 0) w3 HR3.out HT.out (Nat.le_trans HBS.out HB3.out.size)).mono ?_
  rintro e w4 ⟨rfl, hr4, hb4⟩
  have HR4 := Aside0.mk hr4
  have HB4 := Aside0.mk (HB3.out.trans hb4)
  clear hr4 hb4
  go_wp2_with fail
  go_ret
  exact ⟨rfl, by rw [← HD.out]; exact HR4.out, HB4.out⟩
end Go.Proofs.Ytfjgfkokhnpbcaa.U
