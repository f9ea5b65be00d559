/- side.Of answers what side_Of.f says. -/
import Derived.RangeFuncNested
import Derived.Outline
import Derived.Sort.CutIn
import Derived.Deep.DeepCutAuto
import Derived.Deep.CutBlock
import Derived.Test.YtgbickkmfjngbaaGd
import Derived.Test.YtgbickkmfjngbaaGr
namespace Go.Proofs.Ytgbickkmfjngbaa.K
open Go.RowKit Go.Shelf Go.Proofs.YtgbickkmfjngbaaR Go.Proofs.YtgbickkmfjngbaaW.PrintWords Go.Proofs.YtgbickkmfjngbaaW.PrintLast Go.Proofs.YtgbickkmfjngbaaG.Words
attribute [local go_sem] Oper.semAt_some
set_option linter.unusedVariables false
set_option linter.unusedSimpArgs false

theorem vary28 (k : Int) (w : World) : Calls Try.prog 28 #[.int .i64 k] w fun e w' => e = .returned (.int .u8 43) ∧ w = w' := by
  go_enter Try.func28, Try.ntmps28
  go_wp2
  go_ret
  exact ⟨rfl, rfl⟩

theorem vary30 (k v : Int) (bi bp : Nat) (p : ByteArray) (is : Bool) (w : World) (h : varyAt true p is k = some v) (hi : w.cell? ⟨bi, 0, none⟩ = some (.bool is)) (hp : w.cell? ⟨bp, 0, none⟩ = some (.string p)) :
    Calls Try.prog 30 #[.int .i64 k, .pointer (some ⟨bi, 0, none⟩), .pointer (some ⟨bp, 0, none⟩)] w fun e w' => e = .returned (.int .u8 v) ∧ w = w' := by
  unfold varyAt at h
  rw [if_pos rfl] at h
  cases is with
  | false =>
    obtain rfl : 61 = v := by simpa using h
    go_enter Try.func30, Try.ntmps30
    go_wp2
    go_ret
    exact ⟨rfl, rfl⟩
  | true =>
    rw [if_pos rfl] at h
    by_cases h0 : 0 ≤ k
    case neg => rw [if_neg h0] at h; cases h
    rw [if_pos h0] at h
    by_cases h1 : k < (p.size : Int)
    case neg => rw [if_neg h1] at h; cases h
    rw [if_pos h1] at h
    obtain rfl := Option.some.inj h
    have hb := bt_at p k
    clear h
    go_enter Try.func30, Try.ntmps30
    go_wp2
    go_ret
    exact ⟨rfl, rfl⟩

set_option maxRecDepth 100000 in
set_option maxHeartbeats 8000000 in
theorem side_Of.calls (A0 : Option Addr) (c0 : Nat) (l0 : List (S52)) (A1 : Option Addr) (c1 : Nat) (l1 : List (S38)) (a2 : Int) (r : List Int) (w : World) (hr0 : Kd.C k52 w A0 l0.length l0) (hc0 : l0.length ≤ c0) (hr1 : Kd.C k38 w A1 l1.length l1) (hc1 : l1.length ≤ c1) (h : side_Of.f l0 l1 a2 = some r) :
    Calls Try.prog 14 #[.slice A0 l0.length c0, .slice A1 l1.length c1, .int .u8 a2] w fun e w' => ∃ v0_ : Value, e = .returned (v0_) ∧ Kd.R (Kd.int .u8) 5 w' w.heap.size (fun _ => True) v0_ r ∧ Below w.heap.size w w' := by
  have hu38 := Try.underlying38
  unfold side_Of.f at h
  replace h := Option.bind_eq_some_iff.mp h
  obtain ⟨st, hst, h⟩ := h
  by_cases h1 : 0 < l1.length
  case neg => rw [if_neg h1] at h; cases h
  rw [if_pos h1] at h
  by_cases h2 : l1.length ≤ 35184372088832
  case neg => rw [if_neg h2] at h; cases h
  rw [if_pos h2] at h
  by_cases h3 : st.length = l1.length
  case neg => rw [if_neg h3] at h; cases h
  rw [if_pos h3] at h
  obtain ⟨sd, hsd⟩ : ∃ sd : Int, (if a2 = 76 then 76 else if a2 = 82 then 82 else 66) = sd := ⟨_, rfl⟩
  rw [hsd] at h
  have hgs : Good ((List.replicate l1.length 0).set (l1.length - 1) sd) := by
    refine Good.set (fun x hx => ?_) _ ?_
    · rw [List.mem_replicate] at hx; exact .inr (.inr (.inr hx.2))
    · rw [← hsd]; split
      · exact .inl rfl
      · split
        · exact .inr (.inl rfl)
        · exact .inr (.inr (.inl rfl))
  have HS := Aside0.mk (ofL_all h hgs)
  have HF := Aside0.mk h
  have HG := Aside0.mk hgs
  have HST := Aside0.mk hst
  have HSL := Aside0.mk h3
  have HSD := Aside0.mk hsd
  clear h hgs hst h3
  have HR0 := Aside0.mk hr0
  have HR1 := Aside0.mk hr1
  clear hr0 hr1
  refine (callsIn_wide (n := 3)).1 (callsIn_of_wp_marks (F := Fence.wide) (n := 3) Try.func14 rfl trivial ?_ rfl)
  refine wpIn_wide.2 ?_
  simp only [Try.ntmps14, List.size_toArray, List.length_cons, List.length_nil, Nat.reduceAdd, Nat.reduceSub, Array.replicate_succ, Array.replicate_zero, List.push_toArray, List.append_toArray, List.nil_append, List.cons_append]
  have hBx : Below w.heap.size w (w.alloc (.cells #[.slice A0 l0.length c0] 22)) := below_alloc (Below.refl _ _) _
  go_wp2_with fail
  refine (expr_Starts.calls A1 c1 l1 st _ (Kd.C_below HR1.out hBx) hc1 HST.out).mono ?_
  rintro e w1 ⟨v1, rfl, hS1, hb1⟩
  obtain ⟨A4, c4, rfl⟩ := Kd.R_slice hS1
  go_upto_region 3 with (first | ((with_reducible refine gate_dst (N := 21) rfl ?_); refine Kd.R_make (Kd.int .u8) _ 5 rfl (N := 21) rfl 31 _ _ rfl (l1.length : Int) rfl rfl Try.underlying31 (.int .u8 0) 1 info5 rfl (by decide) (by omega) 0 (ok := fun _ => True) (okp := fun _ => True) rfl (fun _ hk => hk) trivial (by omega) (by omega) (Below.refl _ _) (Nat.le_refl _) ?_; intro v2 w2 hO2 hb2 hg_ hnew_; clear hg_ hnew_; rw [Int.toNat_natCast] at hO2; obtain ⟨g, c2, eg, gb, gl, gc⟩ := Kd.R_form hO2 (by rw [List.length_replicate]; exact h1); subst eg; rw [List.length_replicate] at hO2 ⊢))
  obtain ⟨W2, hW2⟩ : ∃ W2, (w2.alloc (.cells #[.slice (some ⟨g, 0, none⟩) l1.length c2] 31)) = W2 := ⟨_, rfl⟩
  rw [hW2]
  obtain ⟨b, hb⟩ : ∃ b : Bool, (a2 != 76 && a2 != 82) = b := ⟨_, rfl⟩
  have HBQ := Aside0.mk hb
  clear hb
  go_cut [27] from 22 (fun v wc => v = .bool b ∧ wc = W2)
  case first =>
    by_cases e1 : (a2 != 76) = true
    · go_wp2
      go_meet
      case rel => exact ⟨by rw [← HBQ.out, e1]; rfl, rfl⟩
    · have e1b : (a2 != 76) = false := Bool.eq_false_iff.mpr e1
      clear e1
      go_wp2
      go_meet
      case rel => exact ⟨by rw [← HBQ.out, e1b]; rfl, rfl⟩
  case rest =>
  obtain ⟨rfl, hwc⟩ := hcut
  subst hwc
  go_upto_if 27 with (fail)
  go_cut [2] from 22 (fun v w4 => v = .int .u8 sd ∧ w4 = wc)
  case first =>
    cases b with
    | true =>
      have HE : Aside0 (66 = sd) := ⟨by
        have := HBQ.out
        simp at this
        rw [← HSD.out, if_neg this.1, if_neg this.2]⟩
      go_wp2
      go_meet
      case rel => exact ⟨by rw [← HE.out], rfl⟩
    | false =>
      have HE : Aside0 (a2 = sd) := ⟨by
        rw [← HSD.out]
        by_cases e1 : a2 = 76
        · rw [if_pos e1]; exact e1
        · rw [if_neg e1]
          by_cases e2 : a2 = 82
          · rw [if_pos e2]; exact e2
          · exact absurd HBQ.out (by simp [e1, e2])⟩
      go_wp2
      go_meet
      case rel => exact ⟨by rw [HE.out], rfl⟩
  case rest =>
  obtain ⟨rfl, hwc⟩ := hcut
  subst hwc
  -- what lies where the store is done
  have hs1 : w.heap.size + 1 ≤ w1.heap.size := by have := hb1.size; simpa using this
  have hs2 : w1.heap.size + 1 ≤ w2.heap.size := by have := hb2.size; simpa using this
  have hbb1 : Below w1.heap.size w1 w2 := below_step (below_alloc (Below.refl _ _) _) hb2
  have hbb2 : Below w2.heap.size w2 wc := by rw [← hW2]; exact below_alloc (Below.refl _ _) _
  have hBc : Below w.heap.size w wc := below_step (below_step (below_step hBx hb1) hbb1) hbb2
  have bL0 : Boxed wc w.heap.size 22 (.slice A0 l0.length c0) := blk_below (blk_below (blk_below (Boxed.new w 22 (.slice A0 l0.length c0)) hb1) hbb1) hbb2
  have bS0 : Boxed wc w1.heap.size 41 (.slice A4 st.length c4) := blk_below (blk_below (Boxed.new w1 41 (.slice A4 st.length c4)) hb2) hbb2
  have bO0 : Boxed wc w2.heap.size 31 (.slice (some ⟨g, 0, none⟩) l1.length c2) := by rw [← hW2]; exact Boxed.new w2 31 _
  have hSt0 : Kd.R (Kd.int .i64) 3 wc (w.heap.size + 1) (fun k => k < w1.heap.size) (.slice A4 st.length c4) st := by
    have h4 := Kd.R_below (Kd.R_below (Kd.R_reok rfl hS1 (Kd.R_lt hS1)) hbb1) hbb2
    simpa using h4
  have gb' : w1.heap.size + 1 ≤ g := by simpa using gb
  have hO0 : Kd.R (Kd.int .u8) 5 wc (w1.heap.size + 1) (fun k => k = g) (.slice (some ⟨g, 0, none⟩) l1.length c2) (List.replicate l1.length 0) := by
    have h4 := Kd.R_below (Kd.R_reok rfl hO2 (ok := fun k => k = g) (fun k hk => by simpa [Value.ownBlock] using hk.symm)) hbb2
    simpa using h4
  obtain ⟨hcg, hfg⟩ := Kd.R_celln 0 hO0 ((l1.length - 1 : Nat) : Int) (by omega) (by omega)
  have hO1 := Aside0.mk (Kd.R_putn hO0 ((l1.length - 1 : Nat) : Int) sd)
  rw [Int.toNat_natCast] at hcg hfg hO1
  have hcO := bO0.cell
  have hlt1 : (l1.length : Int) - 1 < (l1.length : Int) := by omega
  have hge1 : 0 ≤ (l1.length : Int) - 1 := by omega
  go_wp2_with fail
  refine (back27 _ _ _ _).mono ?_
  rintro e w12 ⟨rfl, hw12⟩
  subst hw12
  go_wp2
  have hW3 : wc.heap.size + 1 = ((wc.setCell ⟨g, l1.length - 1, none⟩ (.int .u8 sd)).alloc (.cells #[.slice A1 l1.length c1] 23)).heap.size := by simp
  have hB3 : Below w.heap.size w ((wc.setCell ⟨g, l1.length - 1, none⟩ (.int .u8 sd)).alloc (.cells #[.slice A1 l1.length c1] 23)) := below_alloc (hBc.setCell (p := ⟨g, l1.length - 1, none⟩) (by dsimp only; omega) _) _
  have bL3 := (box_far bL0 (p := ⟨g, l1.length - 1, none⟩) (by dsimp only; omega) (.int .u8 sd)).alloc (.cells #[.slice A1 l1.length c1] 23)
  have bS3 := (box_far bS0 (p := ⟨g, l1.length - 1, none⟩) (by dsimp only; omega) (.int .u8 sd)).alloc (.cells #[.slice A1 l1.length c1] 23)
  have bO3 := (box_far bO0 (p := ⟨g, l1.length - 1, none⟩) (by dsimp only; omega) (.int .u8 sd)).alloc (.cells #[.slice A1 l1.length c1] 23)
  have bB3 : Boxed ((wc.setCell ⟨g, l1.length - 1, none⟩ (.int .u8 sd)).alloc (.cells #[.slice A1 l1.length c1] 23)) wc.heap.size 23 (.slice A1 l1.length c1) := by
    have := Boxed.new (wc.setCell ⟨g, l1.length - 1, none⟩ (.int .u8 sd)) 23 (.slice A1 l1.length c1)
    simpa using this
  have hSt3 := Kd.R_alloc (Kd.R_far hSt0 (p := ⟨g, l1.length - 1, none⟩) (fun k hk => by dsimp only; omega) (.int .u8 sd)) (.cells #[.slice A1 l1.length c1] 23)
  have hO3 := Kd.R_alloc hO1.out (.cells #[.slice A1 l1.length c1] 23)
  obtain ⟨W0, hW0⟩ : ∃ W0, ((wc.setCell ⟨g, l1.length - 1, none⟩ (.int .u8 sd)).alloc (.cells #[.slice A1 l1.length c1] 23)) = W0 := ⟨_, rfl⟩
  rw [hW0] at hW3 hB3 bL3 bS3 bO3 bB3 hSt3 hO3 ⊢
  have hwcs : w2.heap.size + 1 = wc.heap.size := by rw [← hW2]; simp
  clear hW0 hcg hfg hcO bL0 bS0 bO0 hSt0 hO0 hO1 hBc hbb1 hbb2 hW2 hS1 hb1 hb2 hO2 hBx
  refine (wpIn_wide (n := 3)).1 (wpIn_rangeFunc_ownH (n := 3) rfl (by omega) (gf := 44) (lb := #[.pointer (some ⟨wc.heap.size, 0, none⟩)]) rfl trivial (enters_of Try.func44 (by kernel_rfl) rfl)
    (back44_stops Fence.wide (3 - 1) trivial rfl (by omega) wc.heap.size l1.length c1 A1 l1 w W0 HR1.out bB3.cell hB3) KpN.trans (KpN.put hB3.size) (Below.refl _ _) (fun _ => rfl)
    (fun pre W => (Boxed W w.heap.size 22 (.slice A0 l0.length c0) ∧ Boxed W w1.heap.size 41 (.slice A4 st.length c4) ∧ Boxed W w2.heap.size 31 (.slice (some ⟨g, 0, none⟩) l1.length c2) ∧ Boxed W wc.heap.size 23 (.slice A1 l1.length c1) ∧
      Kd.R (Kd.int .i64) 3 W (w.heap.size + 1) (fun k => k < w1.heap.size) (.slice A4 st.length c4) st ∧ Kd.R (Kd.int .u8) 5 W (w1.heap.size + 1) (fun k => k = g) (.slice (some ⟨g, 0, none⟩) l1.length c2) (outAt l0 l1 st pre ((List.replicate l1.length 0).set (l1.length - 1) sd))) ∧ Below w.heap.size w W)
    (fun _ _ _ => False)
    ?own
    (fun _ _ _ _ _ hs _ _ => hs)
    ⟨⟨bL3, bS3, bO3, bB3, hSt3, hO3⟩, hB3⟩
    (fun x a' W => ∃ Bx, wc.heap.size < Bx ∧ W.heap[Bx]? = some (.cells #[.int .i64 (rd_T38 l1 x.1).f0, .string (rd_T38 l1 x.1).f1, .int .i64 (rd_T38 l1 x.1).f2] 38 (0, 0)) ∧ a' = { tmps := #[.slice A0 l0.length c0, .slice A1 l1.length c1, .int .u8 sd, .pointer (some ⟨w.heap.size, 0, none⟩), undef, undef, .slice none 0 0, .pointer (some ⟨w1.heap.size, 0, none⟩), .pointer (some ⟨w2.heap.size, 0, none⟩), .int .i64 (x.1 : Int), .pointer (some ⟨Bx, 0, none⟩), undef, undef, undef, undef, undef, undef, .slice A1 l1.length c1, .slice A4 st.length c4, .slice A1 l1.length c1, .int .i64 l1.length, .slice (some ⟨g, 0, none⟩) l1.length c2, u22, u23, u24, u25, u26, u27, .slice (some ⟨g, 0, none⟩) l1.length c2, .slice A1 l1.length c1, .int .i64 l1.length, .int .i64 ((l1.length : Int) - 1), .int .u8 sd, .pointer (some ⟨g, l1.length - 1, none⟩), .slice A1 l1.length c1, .func (.func 44) #[] #[.pointer (some ⟨wc.heap.size, 0, none⟩)], .int .i64 (x.1 : Int), (.agg #[.int .i64 (rd_T38 l1 x.1).f0, .string (rd_T38 l1 x.1).f1, .int .i64 (rd_T38 l1 x.1).f2]), u38, u39, u40, u41, u42, u43, u44, u45, u46, u47, u48, u49, u50, u51, u52, u53, u54, u55, u56, u57, u58, u59, u60, u61, u62, u63, u64, u65, u66, u67, u68, u69, u70, u71, u72, u73, u74, u75, u76, u77], defers := [] })
    ?ownA
    ?assign ?body ?done ?stop)
  case own =>
    exact OwnFrom.and (fun s X Y row hs hg hr => ⟨box_keeps hs.1 hg (fun r e => (hr r e).2), box_keeps hs.2.1 hg (fun r e => (hr r e).2), box_keeps hs.2.2.1 hg (fun r e => (hr r e).2), box_keeps hs.2.2.2.1 hg (fun r e => (hr r e).2), R_keeps rfl hs.2.2.2.2.1 hg (fun r e => (hr r e).2), R_keeps rfl hs.2.2.2.2.2 hg (fun r e => (hr r e).2)⟩) (ownFrom_below (Nat.le_refl _) (by omega))
  case ownA =>
    exact fun x a' _ X Y row hs hg hr => by obtain ⟨Bx, h1, h2, h3⟩ := hs; exact ⟨Bx, h1, (grownBy_keeps_cells hg (fun r e => (hr r e).2) h2 rfl).trans h2, h3⟩
  case assign =>
    rintro l pre x W K ⟨⟨kL, kS, kO, kB, hSt, hO⟩, hB⟩ hK
    dsimp only [nodeV] at hK ⊢
    gi_wp2
    exact hK _ _ ((KeepsOthers.alloc _ _).from _) ⟨fun hc => pw_cell_below (below_alloc (Below.refl _ _) _) hc, (Below.refl _ W).alloc hB.size _⟩ ⟨⟨kL.alloc _, kS.alloc _, kO.alloc _, kB.alloc _, Kd.R_alloc hSt _, Kd.R_alloc hO _⟩, hB.alloc hB.size _⟩ ⟨W.heap.size, kB.lt, World.alloc_heap_new W _, rfl⟩
  case body =>
    rintro l pre x a' W hl ⟨rr, hrr⟩ ⟨⟨kL, kS, kO, kB, hSt, hO⟩, hB⟩ ⟨Bx, hBx, hx, rfl⟩ hlen
    clear hrr hl hlen
    have hgd := outAt_good (st := st) (l := l0) (e := l1) (fun i hi out2 hg2 hl2 => by have := HS.out i hi out2 hg2 (by simpa using hl2); simpa using this) pre _ HG.out (by simp)
    obtain ⟨r2, hr2, _, hr2l⟩ := HS.out x.1 x.2 _ hgd.1 (by simpa using hgd.2)
    have hsnoc := outAt_snoc l0 l1 st pre x ((List.replicate l1.length 0).set (l1.length - 1) sd)
    rw [hr2, Option.getD_some] at hsnoc
    have HSN := Aside0.mk hsnoc
    obtain ⟨out, hout⟩ : ∃ out, outAt l0 l1 st pre ((List.replicate l1.length 0).set (l1.length - 1) sd) = out := ⟨_, rfl⟩
    rw [hout] at hO hgd hr2
    clear hsnoc hout
    have hol := hgd.2
    have HL := Aside0.mk hol
    clear hol hr2l hgd
    have hxl := x.2
    obtain ⟨i, hi⟩ : ∃ i : Nat, x.1 = i := ⟨_, rfl⟩
    rw [hi] at hr2 hx hxl
    simp only [hi]
    obtain ⟨nd, hnd⟩ : ∃ nd, rd_T38 l1 (i : Int) = nd := ⟨_, rfl⟩
    unfold roundL at hr2
    rw [hnd] at hr2 hx
    simp only [hnd]
    by_cases hf0 : 0 ≤ nd.f2
    case neg => rw [if_neg hf0] at hr2; cases hr2
    rw [if_pos hf0] at hr2
    by_cases hf1 : nd.f2 ≤ 9223372036854775807
    case neg => rw [if_neg hf1] at hr2; cases hr2
    rw [if_pos hf1] at hr2
    have hx0 : W.cell? ⟨Bx, 0, none⟩ = some (.int .i64 nd.f0) := by simp [World.cell?, hx]
    have hx1 : W.cell? ⟨Bx, 1, none⟩ = some (.string nd.f1) := by simp [World.cell?, hx]
    have hx2 : W.cell? ⟨Bx, 2, none⟩ = some (.int .i64 nd.f2) := by simp [World.cell?, hx]
    by_cases h6 : nd.f0 = 6
    · rw [if_pos h6] at hr2
      have e6 : (nd.f0 == 6) = true := beq_iff_eq.mpr h6
      replace hr2 := Option.bind_eq_some_iff.mp hr2
      obtain ⟨pr, hpr, hr2⟩ := hr2
      have HP := Aside0.mk hpr
      have HR2 := Aside0.mk hr2
      have hcL := kL.cell
      clear hr2 hpr h6
      gi_wp2_with (refine ⟨trivial, ?_⟩; gi_at_call 29; refine (CallsIn.inRound l (callsIn_wide.2 (side_parts.calls A0 c0 l0 nd.f0 nd.f1 nd.f2 pr.1 pr.2 _ (Kd.C_below HR0.out hB) hc0 HP.out))).mono ?_; rintro e w3 ⟨rfl, hb3⟩)
      have hx3 : w3.heap.size + 1 + 1 = ((w3.alloc (.cells #[.string pr.1] 9)).alloc (.cells #[.bool pr.2] 4)).heap.size := by simp
      have hb4 : Below w3.heap.size w3 ((w3.alloc (.cells #[.string pr.1] 9)).alloc (.cells #[.bool pr.2] 4)) := below_alloc (below_alloc (Below.refl _ _) _) _
      have hb34 : Below W.heap.size W ((w3.alloc (.cells #[.string pr.1] 9)).alloc (.cells #[.bool pr.2] 4)) := below_step hb3 hb4
      have bp3 := (Boxed.new w3 9 (.string pr.1)).alloc (.cells #[.bool pr.2] 4)
      have bi3 := Boxed.new (w3.alloc (.cells #[.string pr.1] 9)) 4 (.bool pr.2)
      rw [World.size_alloc] at bi3
      have hgW : g < W.heap.size := by obtain ⟨cells, hcl⟩ := Kd.R_typed hO g rfl; exact blk_lt hcl
      have hsW := hb3.size
      gi_loopw [15, 16] (fun en k wr => ∃ (j : Nat) (e : Int) (o : List Int), (j : Int) ≤ 9223372036854775807 ∧ k = .int .i64 ((j : Int) - 1) ∧ en = .int .i64 e ∧ Aside0 (innerL st (varyAt true pr.1 pr.2) i j e o = some r2) ∧ Aside0 (o.length = l1.length) ∧
        Aside0 ((Boxed wr w.heap.size 22 (.slice A0 l0.length c0) ∧ Boxed wr w1.heap.size 41 (.slice A4 st.length c4) ∧ Boxed wr w2.heap.size 31 (.slice (some ⟨g, 0, none⟩) l1.length c2) ∧ Boxed wr wc.heap.size 23 (.slice A1 l1.length c1)) ∧ Boxed wr w3.heap.size 9 (.string pr.1) ∧ Boxed wr (w3.heap.size + 1) 4 (.bool pr.2)) ∧
        Aside0 (Kd.R (Kd.int .i64) 3 wr (w.heap.size + 1) (fun k => k < w1.heap.size) (.slice A4 st.length c4) st) ∧ Aside0 (Kd.R (Kd.int .u8) 5 wr (w1.heap.size + 1) (fun k => k = g) (.slice (some ⟨g, 0, none⟩) l1.length c2) o) ∧ Aside0 (Below w.heap.size w wr) ∧ Aside0 (Below w.heap.size W wr) ∧ Aside0 (KeepsOthers W wr))
        (fun _ k _ => (intOf k + 1).toNat)
      case atStart => exact ⟨1, _, out, by omega, by congr 1 <;> omega, rfl, HR2, HL, ⟨⟨blk_below kL hb34, blk_below kS hb34, blk_below kO hb34, blk_below kB hb34⟩, bp3, bi3⟩, ⟨Kd.R_below hSt hb34⟩, ⟨Kd.R_below hO hb34⟩, ⟨below_step hB hb34⟩, ⟨hb34.mono hB.size⟩, ⟨⟨hb34.size, fun k ob hk _ => (hb34.block k (Array.getElem?_eq_some_iff.1 hk).1).trans hk⟩⟩⟩
      case round =>
        obtain ⟨j, e, o, hjm, rfl, rfl, HA, HOL, HBX, HST2, HO2, HB2, HBW, HKO⟩ := hrel
        cases j with
        | zero =>
          have hneg : ¬ 0 ≤ ((0 : Nat) : Int) - 1 := by omega
          obtain rfl : o = r2 := Option.some.inj HA.out
          obtain ⟨⟨BL, BS, BO, BB⟩, BP, BI⟩ := HBX.out
          gi_wp2
          exact ⟨HKO.out.from _, ⟨fun _ => BB.cell, HBW.out⟩, ⟨BL, BS, BO, BB, HST2.out, by rw [HSN.out]; exact HO2.out⟩, HB2.out⟩
        | succ j =>
          have H := HA.out
          clear HA
          unfold innerL at H
          by_cases q0 : 0 ≤ e
          case neg => rw [if_neg q0] at H; cases H
          rw [if_pos q0] at H
          by_cases q1 : e < (o.length : Int)
          case neg => rw [if_neg q1] at H; cases H
          rw [if_pos q1] at H
          by_cases q2 : e < (st.length : Int)
          case neg => rw [if_neg q2] at H; cases H
          rw [if_pos q2] at H
          replace H := Option.bind_eq_some_iff.mp H
          obtain ⟨v, hv, H⟩ := H
          replace H := Option.bind_eq_some_iff.mp H
          obtain ⟨s, hs, H⟩ := H
          rw [HOL.out] at q1
          have HV := Aside0.mk hv
          have HS2 := Aside0.mk hs
          have HI := Aside0.mk H
          clear hv hs H
          have hge : 0 ≤ ((j + 1 : Nat) : Int) - 1 := by omega
          have hmx : Try.prog.follows .mixedOrders = true := by kernel_rfl
          obtain ⟨⟨BL, BS, BO, BB⟩, BP, BI⟩ := HBX.out
          have hcO := BO.cell
          obtain ⟨hci, hfi⟩ := Kd.R_celln 0 HO2.out (i : Int) (by omega) (by omega)
          obtain ⟨hce, hfe⟩ := Kd.R_celln 0 HO2.out e q0 q1
          rw [Int.toNat_natCast] at hci hfi
          have q1' : e.toNat < l1.length := by omega
          have hil : (i : Int) < (l1.length : Int) := by omega
          have HB3 := Aside0.mk (below_drew1 HB2.out)
          gi_upto_region 21 with (fail)
          have hno : ∀ x, x = 1 → x = 1 := fun x h => h
          refine start_round (k := 12) (S := fun w' => w'.cell? ⟨w2.heap.size, 0, none⟩ = some (.slice (some ⟨g, 0, none⟩) l1.length c2) ∧ w'.cell? ⟨g, i, none⟩ = some (.int .u8 (rdOf 0 o (i : Int))) ∧ w'.cell? ⟨w3.heap.size + 1, 0, none⟩ = some (.bool pr.2) ∧ w'.cell? ⟨w3.heap.size, 0, none⟩ = some (.string pr.1)) (ds := [11]) #[false, false, false, false, false, false, false, false, false, false, false, false] hmx (by kernel_rfl) ?hno rfl rfl ⟨hcO, hci, BI.cell, BP.cell⟩ (fun hHeld => ?_)
          case hno => exact fun ⟨_, _, h⟩ => (h : False)
          generalize hwd : wr.drew = wd at hHeld ⊢
          refine pure_ (i := 1) (N := some 62) (v := ?_) (a' := ?_) #[false, true, false, false, false, false, false, false, false, false, false, false] rfl rfl (by kernel_rfl) (fun _ _ _ h => h) (Or.inl ⟨by rfl, ?_⟩) ?_ ?_
          rotate_left
          · intro w'
            go_simp
            with_reducible rfl
          rotate_left
          · simp only [Act.put, List.setIfInBounds_toArray, List.set_cons_zero, List.set_cons_succ, i64_w, i32_w]
            rfl
          refine pure_ (i := 3) (N := some 64) (v := ?_) (a' := ?_) #[false, true, false, true, false, false, false, false, false, false, false, false] rfl rfl (by kernel_rfl) (fun _ _ _ h => h) (Or.inl ⟨by rfl, ?_⟩) ?_ ?_
          rotate_left
          · intro w'
            go_simp
            with_reducible rfl
          rotate_left
          · simp only [Act.put, List.setIfInBounds_toArray, List.set_cons_zero, List.set_cons_succ, i64_w, i32_w]
            rfl
          refine pure_ (i := 6) (N := some 67) (v := ?_) (a' := ?_) #[false, true, false, true, false, false, true, false, false, false, false, false] rfl rfl (by kernel_rfl) (fun _ _ _ h => h) (Or.inl ⟨by rfl, ?_⟩) ?_ ?_
          rotate_left
          · intro w'
            go_simp
            with_reducible rfl
          rotate_left
          · simp only [Act.put, List.setIfInBounds_toArray, List.set_cons_zero, List.set_cons_succ, i64_w, i32_w]
            rfl
          refine pure_ (i := 7) (N := some 68) (v := ?_) (a' := ?_) #[false, true, false, true, false, false, true, true, false, false, false, false] rfl rfl (by kernel_rfl) (fun _ _ _ h => h) (Or.inl ⟨by rfl, ?_⟩) ?_ ?_
          rotate_left
          · intro w'
            go_simp
            with_reducible rfl
          rotate_left
          · simp only [Act.put, List.setIfInBounds_toArray, List.set_cons_zero, List.set_cons_succ, i64_w, i32_w]
            rfl
          refine take_ (i := 0) (N := some 61) (v := ?_) (a' := ?_) #[true, true, false, true, false, false, true, true, false, false, false, false] rfl rfl (by kernel_rfl) (fun _ _ _ h => h) (Or.inl ⟨by rfl, ?_⟩) hHeld ?_ ?_
          rotate_left
          · rintro w' ⟨s0, s1, s2, s3⟩
            go_simp
            with_reducible rfl
          rotate_left
          · simp only [Act.put, List.setIfInBounds_toArray, List.set_cons_zero, List.set_cons_succ, i64_w, i32_w]
            rfl
          refine take_ (i := 2) (N := some 63) (v := ?_) (a' := ?_) #[true, true, true, true, false, false, true, true, false, false, false, false] rfl rfl (by kernel_rfl) (fun _ _ _ h => h) (Or.inl ⟨by rfl, ?_⟩) hHeld ?_ ?_
          rotate_left
          · rintro w' ⟨s0, s1, s2, s3⟩
            go_simp
            with_reducible rfl
          rotate_left
          · simp only [Act.put, List.setIfInBounds_toArray, List.set_cons_zero, List.set_cons_succ, i64_w, i32_w]
            rfl
          refine pure_ (i := 4) (N := some 65) (v := ?_) (a' := ?_) #[true, true, true, true, true, false, true, true, false, false, false, false] rfl rfl (by kernel_rfl) (fun _ _ _ h => h) (Or.inl ⟨by rfl, ?_⟩) ?_ ?_
          rotate_left
          · intro w'
            go_simp
            with_reducible rfl
          rotate_left
          · simp only [Act.put, List.setIfInBounds_toArray, List.set_cons_zero, List.set_cons_succ, i64_w, i32_w]
            rfl
          refine take_ (i := 5) (N := some 66) (v := ?_) (a' := ?_) #[true, true, true, true, true, true, true, true, false, false, false, false] rfl rfl (by kernel_rfl) (fun _ _ _ h => h) (Or.inl ⟨by rfl, ?_⟩) hHeld ?_ ?_
          rotate_left
          · rintro w' ⟨s0, s1, s2, s3⟩
            go_simp
            with_reducible rfl
          rotate_left
          · simp only [Act.put, List.setIfInBounds_toArray, List.set_cons_zero, List.set_cons_succ, i64_w, i32_w]
            rfl
          refine one_ (i := 8) (N := some 69) #[true, true, true, true, true, true, true, true, true, false, false, false] rfl rfl (by kernel_rfl) (by decide) (fun K hK => ?_)
          refine call_ 30 #[.int .i64 (((j + 1 : Nat) : Int) - 1), .pointer (some ⟨w3.heap.size + 1, 0, none⟩), .pointer (some ⟨w3.heap.size, 0, none⟩)] (by rfl) rfl (by have he := enters_ (P := Try.prog) Try.func30 (by kernel_rfl) rfl; unfold execOp; simp [resolve, Deferred.ofValue, invoke, Act.eval, he]) ?_
          refine (vary30 _ v _ _ pr.1 pr.2 _ (by rw [show (((j + 1 : Nat) : Int) - 1) = (j : Int) by omega]; exact HV.out) hHeld.2.2.1 hHeld.2.2.2).mono ?_
          rintro e' w' ⟨rfl, rfl⟩
          refine ⟨_, rfl, ?_⟩
          refine hK.out _ _ hHeld (fun hHeld => ?_)
          clear hK K
          refine norm_ (a' := ?_) ?_ ?_
          rotate_left
          · show Act.put _ (some 69) _ = _
            simp only [Act.put, List.setIfInBounds_toArray, List.set_cons_zero, List.set_cons_succ, i64_w, i32_w]
            rfl
          refine one_ (i := 9) (N := some 70) #[true, true, true, true, true, true, true, true, true, true, false, false] rfl rfl (by kernel_rfl) (by decide) (fun K hK => ?_)
          refine goes_ Try.func31 (by kernel_rfl) rfl #[.int .u8 (rdOf 0 o (i : Int)), .int .u8 v] (by rfl) rfl rfl (by (try simp only [List.map_toArray, List.map_cons, List.map_nil]); first | done | rfl) ?_
          refine (side_turned.calls _ _ s _ HS2.out).mono ?_
          rintro e' w5 ⟨rfl, hb5⟩
          refine ⟨_, rfl, ?_⟩
          have hKOd : KeepsOthers wr wd := by rw [← hwd]; exact KeepsOthers.drew wr
          have hK5 : KeepsOthers wd w5 := ⟨hb5.size, fun k ob hk _ => (hb5.block k (Array.getElem?_eq_some_iff.1 hk).1).trans hk⟩
          have bL5 : Boxed w5 w.heap.size 22 (.slice A0 l0.length c0) := blk_below (by rw [← hwd]; exact BL) hb5
          have bS5 : Boxed w5 w1.heap.size 41 (.slice A4 st.length c4) := blk_below (by rw [← hwd]; exact BS) hb5
          have bO5 : Boxed w5 w2.heap.size 31 (.slice (some ⟨g, 0, none⟩) l1.length c2) := blk_below (by rw [← hwd]; exact BO) hb5
          have bB5 : Boxed w5 wc.heap.size 23 (.slice A1 l1.length c1) := blk_below (by rw [← hwd]; exact BB) hb5
          have hSt5 := Kd.R_below (show Kd.R (Kd.int .i64) 3 wd (w.heap.size + 1) (fun k => k < w1.heap.size) (.slice A4 st.length c4) st by rw [← hwd]; exact Kd.R_drew HST2.out) hb5
          have hO5 := Kd.R_below (show Kd.R (Kd.int .u8) 5 wd (w1.heap.size + 1) (fun k => k = g) (.slice (some ⟨g, 0, none⟩) l1.length c2) o by rw [← hwd]; exact Kd.R_drew HO2.out) hb5
          have hB5 : Below w.heap.size w w5 := below_step (by rw [← hwd]; exact HB3.out) hb5
          have hBW5 : Below w.heap.size W w5 := by
            have h1 : Below w.heap.size W wd := by rw [← hwd]; exact HBW.out.drew
            exact h1.trans (hb5.mono (by have := HB3.out.size; rw [hwd] at this; exact this))
          obtain ⟨hce5, hfe5⟩ := Kd.R_celln 0 hO5 e q0 q1
          have hP5 := Aside0.mk (Kd.R_putn hO5 e s)
          have hSt6 := Kd.R_far hSt5 (p := ⟨g, e.toNat, none⟩) (fun k hk => by dsimp only; omega) (.int .u8 s)
          obtain ⟨ad4, ea4, hc4⟩ := Kd.at_int (Kd.R_reads' hSt6).2.2 e q0 q2
          cases ea4
          have bL6 := box_far bL5 (p := ⟨g, e.toNat, none⟩) (by dsimp only; omega) (.int .u8 s)
          have bS6 := box_far bS5 (p := ⟨g, e.toNat, none⟩) (by dsimp only; omega) (.int .u8 s)
          have bO6 := box_far bO5 (p := ⟨g, e.toNat, none⟩) (by dsimp only; omega) (.int .u8 s)
          have bB6 := box_far bB5 (p := ⟨g, e.toNat, none⟩) (by dsimp only; omega) (.int .u8 s)
          have hcS6 := bS6.cell
          have hB6 := Aside0.mk (hB5.setCell (p := ⟨g, e.toNat, none⟩) (by dsimp only; omega) (.int .u8 s))
          have hBW6 := Aside0.mk (hBW5.setCell (p := ⟨g, e.toNat, none⟩) (by dsimp only; omega) (.int .u8 s))
          have hKO6 := Aside0.mk (((HKO.out.trans hKOd).trans hK5).trans (KeepsOthers.setCell _ ⟨g, e.toNat, none⟩ (.int .u8 s)))
          refine hK.out _ _ ⟨bO5.cell, (pw_cell_below hb5 hHeld.2.1), (pw_cell_below hb5 hHeld.2.2.1), (pw_cell_below hb5 hHeld.2.2.2)⟩ (fun hHeld => ?_)
          clear hK K
          refine norm_ (a' := ?_) ?_ ?_
          rotate_left
          · show Act.put _ (some 70) _ = _
            simp only [Act.put, List.setIfInBounds_toArray, List.set_cons_zero, List.set_cons_succ, i64_w, i32_w]
            rfl
          refine pure_ (i := 10) (N := some 71) (v := ?_) (a' := ?_) #[true, true, true, true, true, true, true, true, true, true, true, false] rfl rfl (by kernel_rfl) (fun _ _ _ h => h) (Or.inl ⟨by rfl, ?_⟩) ?_ ?_
          rotate_left
          · intro w'
            go_simp
            with_reducible rfl
          rotate_left
          · simp only [Act.put, List.setIfInBounds_toArray, List.set_cons_zero, List.set_cons_succ, i64_w, i32_w]
            rfl
          refine last_ (i := 11) (N := none) #[true, true, true, true, true, true, true, true, true, true, true, true] rfl rfl (by kernel_rfl) (by decide) (fun K hK => ?_)
          refine skip_ (w1 := ?_) (by rfl) rfl ?_ ?_
          rotate_left
          · go_simp
            rfl
          refine hK.out _ _ ?_
          clear hK K
          refine done_ (by kernel_rfl) ?_
          have hHS6 := Aside0.mk hSt6
          have hBP6 := Aside0.mk (And.intro (box_far (blk_below (show Boxed wd w3.heap.size 9 (.string pr.1) by rw [← hwd]; exact BP) hb5) (p := ⟨g, e.toNat, none⟩) (by dsimp only; omega) (.int .u8 s)) (box_far (blk_below (show Boxed wd (w3.heap.size + 1) 4 (.bool pr.2) by rw [← hwd]; exact BI) hb5) (p := ⟨g, e.toNat, none⟩) (by dsimp only; omega) (.int .u8 s)))
          have hBX6 := Aside0.mk (And.intro bL6 (And.intro bS6 (And.intro bO6 bB6)))
          clear hSt6 hSt5 hO5 bL5 bS5 bO5 bB5 bL6 bS6 bO6 bB6 hKOd hK5 hB5 hBW5 hce5 hfe5 hci hfi hce hfe hcO
          gi_wp2
          go_roundw
          case rel => exact ⟨j, _, _, by omega, by congr 1 <;> (unfold wrap64; omega), rfl, HI, ⟨by rw [List.length_set]; exact HOL.out⟩, ⟨hBX6.out, hBP6.out.1, hBP6.out.2⟩, hHS6, hP5, hB6, hBW6, hKO6⟩
          case measure => simp [intOf] <;> (unfold wrap64; omega)
    rw [if_neg h6] at hr2
    by_cases h3 : nd.f0 = 3
    · rw [if_pos h3] at hr2
      have e6 : (nd.f0 == 6) = false := beq_eq_false_iff_ne.mpr h6
      have e3 : (nd.f0 == 3) = true := beq_iff_eq.mpr h3
      replace hr2 := Option.bind_eq_some_iff.mp hr2
      obtain ⟨pr, hpr, hr2⟩ := hr2
      have HP := Aside0.mk hpr
      have HR2 := Aside0.mk hr2
      have hcL := kL.cell
      clear hr2 hpr h6 h3
      gi_wp2_with (refine ⟨trivial, ?_⟩; gi_at_call 29; refine (CallsIn.inRound l (callsIn_wide.2 (side_parts.calls A0 c0 l0 nd.f0 nd.f1 nd.f2 pr.1 pr.2 _ (Kd.C_below HR0.out hB) hc0 HP.out))).mono ?_; rintro e w3 ⟨rfl, hb3⟩)
      have hx3 : w3.heap.size + 1 + 1 = ((w3.alloc (.cells #[.string pr.1] 9)).alloc (.cells #[.bool pr.2] 4)).heap.size := by simp
      have hb4 : Below w3.heap.size w3 ((w3.alloc (.cells #[.string pr.1] 9)).alloc (.cells #[.bool pr.2] 4)) := below_alloc (below_alloc (Below.refl _ _) _) _
      have hb34 : Below W.heap.size W ((w3.alloc (.cells #[.string pr.1] 9)).alloc (.cells #[.bool pr.2] 4)) := below_step hb3 hb4
      have bp3 := (Boxed.new w3 9 (.string pr.1)).alloc (.cells #[.bool pr.2] 4)
      have bi3 := Boxed.new (w3.alloc (.cells #[.string pr.1] 9)) 4 (.bool pr.2)
      rw [World.size_alloc] at bi3
      have hgW : g < W.heap.size := by obtain ⟨cells, hcl⟩ := Kd.R_typed hO g rfl; exact blk_lt hcl
      have hsW := hb3.size
      gi_loopw [15, 16] (fun en k wr => ∃ (j : Nat) (e : Int) (o : List Int), (j : Int) ≤ 9223372036854775807 ∧ k = .int .i64 ((j : Int) - 1) ∧ en = .int .i64 e ∧ Aside0 (innerL st (varyAt true pr.1 pr.2) i j e o = some r2) ∧ Aside0 (o.length = l1.length) ∧
        Aside0 ((Boxed wr w.heap.size 22 (.slice A0 l0.length c0) ∧ Boxed wr w1.heap.size 41 (.slice A4 st.length c4) ∧ Boxed wr w2.heap.size 31 (.slice (some ⟨g, 0, none⟩) l1.length c2) ∧ Boxed wr wc.heap.size 23 (.slice A1 l1.length c1)) ∧ Boxed wr w3.heap.size 9 (.string pr.1) ∧ Boxed wr (w3.heap.size + 1) 4 (.bool pr.2)) ∧
        Aside0 (Kd.R (Kd.int .i64) 3 wr (w.heap.size + 1) (fun k => k < w1.heap.size) (.slice A4 st.length c4) st) ∧ Aside0 (Kd.R (Kd.int .u8) 5 wr (w1.heap.size + 1) (fun k => k = g) (.slice (some ⟨g, 0, none⟩) l1.length c2) o) ∧ Aside0 (Below w.heap.size w wr) ∧ Aside0 (Below w.heap.size W wr) ∧ Aside0 (KeepsOthers W wr))
        (fun _ k _ => (intOf k + 1).toNat)
      case atStart => exact ⟨nd.f2.toNat, _, out, by omega, by congr 1 <;> omega, rfl, HR2, HL, ⟨⟨blk_below kL hb34, blk_below kS hb34, blk_below kO hb34, blk_below kB hb34⟩, bp3, bi3⟩, ⟨Kd.R_below hSt hb34⟩, ⟨Kd.R_below hO hb34⟩, ⟨below_step hB hb34⟩, ⟨hb34.mono hB.size⟩, ⟨⟨hb34.size, fun k ob hk _ => (hb34.block k (Array.getElem?_eq_some_iff.1 hk).1).trans hk⟩⟩⟩
      case round =>
        obtain ⟨j, e, o, hjm, rfl, rfl, HA, HOL, HBX, HST2, HO2, HB2, HBW, HKO⟩ := hrel
        cases j with
        | zero =>
          have hneg : ¬ 0 ≤ ((0 : Nat) : Int) - 1 := by omega
          obtain rfl : o = r2 := Option.some.inj HA.out
          obtain ⟨⟨BL, BS, BO, BB⟩, BP, BI⟩ := HBX.out
          gi_wp2
          exact ⟨HKO.out.from _, ⟨fun _ => BB.cell, HBW.out⟩, ⟨BL, BS, BO, BB, HST2.out, by rw [HSN.out]; exact HO2.out⟩, HB2.out⟩
        | succ j =>
          have H := HA.out
          clear HA
          unfold innerL at H
          by_cases q0 : 0 ≤ e
          case neg => rw [if_neg q0] at H; cases H
          rw [if_pos q0] at H
          by_cases q1 : e < (o.length : Int)
          case neg => rw [if_neg q1] at H; cases H
          rw [if_pos q1] at H
          by_cases q2 : e < (st.length : Int)
          case neg => rw [if_neg q2] at H; cases H
          rw [if_pos q2] at H
          replace H := Option.bind_eq_some_iff.mp H
          obtain ⟨v, hv, H⟩ := H
          replace H := Option.bind_eq_some_iff.mp H
          obtain ⟨s, hs, H⟩ := H
          rw [HOL.out] at q1
          have HV := Aside0.mk hv
          have HS2 := Aside0.mk hs
          have HI := Aside0.mk H
          clear hv hs H
          have hge : 0 ≤ ((j + 1 : Nat) : Int) - 1 := by omega
          have hmx : Try.prog.follows .mixedOrders = true := by kernel_rfl
          obtain ⟨⟨BL, BS, BO, BB⟩, BP, BI⟩ := HBX.out
          have hcO := BO.cell
          obtain ⟨hci, hfi⟩ := Kd.R_celln 0 HO2.out (i : Int) (by omega) (by omega)
          obtain ⟨hce, hfe⟩ := Kd.R_celln 0 HO2.out e q0 q1
          rw [Int.toNat_natCast] at hci hfi
          have q1' : e.toNat < l1.length := by omega
          have hil : (i : Int) < (l1.length : Int) := by omega
          have HB3 := Aside0.mk (below_drew1 HB2.out)
          gi_upto_region 21 with (fail)
          have hno : ∀ x, x = 1 → x = 1 := fun x h => h
          refine start_round (k := 12) (S := fun w' => w'.cell? ⟨w2.heap.size, 0, none⟩ = some (.slice (some ⟨g, 0, none⟩) l1.length c2) ∧ w'.cell? ⟨g, i, none⟩ = some (.int .u8 (rdOf 0 o (i : Int))) ∧ w'.cell? ⟨w3.heap.size + 1, 0, none⟩ = some (.bool pr.2) ∧ w'.cell? ⟨w3.heap.size, 0, none⟩ = some (.string pr.1)) (ds := [11]) #[false, false, false, false, false, false, false, false, false, false, false, false] hmx (by kernel_rfl) ?hno rfl rfl ⟨hcO, hci, BI.cell, BP.cell⟩ (fun hHeld => ?_)
          case hno => exact fun ⟨_, _, h⟩ => (h : False)
          generalize hwd : wr.drew = wd at hHeld ⊢
          refine pure_ (i := 1) (N := some 62) (v := ?_) (a' := ?_) #[false, true, false, false, false, false, false, false, false, false, false, false] rfl rfl (by kernel_rfl) (fun _ _ _ h => h) (Or.inl ⟨by rfl, ?_⟩) ?_ ?_
          rotate_left
          · intro w'
            go_simp
            with_reducible rfl
          rotate_left
          · simp only [Act.put, List.setIfInBounds_toArray, List.set_cons_zero, List.set_cons_succ, i64_w, i32_w]
            rfl
          refine pure_ (i := 3) (N := some 64) (v := ?_) (a' := ?_) #[false, true, false, true, false, false, false, false, false, false, false, false] rfl rfl (by kernel_rfl) (fun _ _ _ h => h) (Or.inl ⟨by rfl, ?_⟩) ?_ ?_
          rotate_left
          · intro w'
            go_simp
            with_reducible rfl
          rotate_left
          · simp only [Act.put, List.setIfInBounds_toArray, List.set_cons_zero, List.set_cons_succ, i64_w, i32_w]
            rfl
          refine pure_ (i := 6) (N := some 67) (v := ?_) (a' := ?_) #[false, true, false, true, false, false, true, false, false, false, false, false] rfl rfl (by kernel_rfl) (fun _ _ _ h => h) (Or.inl ⟨by rfl, ?_⟩) ?_ ?_
          rotate_left
          · intro w'
            go_simp
            with_reducible rfl
          rotate_left
          · simp only [Act.put, List.setIfInBounds_toArray, List.set_cons_zero, List.set_cons_succ, i64_w, i32_w]
            rfl
          refine pure_ (i := 7) (N := some 68) (v := ?_) (a' := ?_) #[false, true, false, true, false, false, true, true, false, false, false, false] rfl rfl (by kernel_rfl) (fun _ _ _ h => h) (Or.inl ⟨by rfl, ?_⟩) ?_ ?_
          rotate_left
          · intro w'
            go_simp
            with_reducible rfl
          rotate_left
          · simp only [Act.put, List.setIfInBounds_toArray, List.set_cons_zero, List.set_cons_succ, i64_w, i32_w]
            rfl
          refine take_ (i := 0) (N := some 61) (v := ?_) (a' := ?_) #[true, true, false, true, false, false, true, true, false, false, false, false] rfl rfl (by kernel_rfl) (fun _ _ _ h => h) (Or.inl ⟨by rfl, ?_⟩) hHeld ?_ ?_
          rotate_left
          · rintro w' ⟨s0, s1, s2, s3⟩
            go_simp
            with_reducible rfl
          rotate_left
          · simp only [Act.put, List.setIfInBounds_toArray, List.set_cons_zero, List.set_cons_succ, i64_w, i32_w]
            rfl
          refine take_ (i := 2) (N := some 63) (v := ?_) (a' := ?_) #[true, true, true, true, false, false, true, true, false, false, false, false] rfl rfl (by kernel_rfl) (fun _ _ _ h => h) (Or.inl ⟨by rfl, ?_⟩) hHeld ?_ ?_
          rotate_left
          · rintro w' ⟨s0, s1, s2, s3⟩
            go_simp
            with_reducible rfl
          rotate_left
          · simp only [Act.put, List.setIfInBounds_toArray, List.set_cons_zero, List.set_cons_succ, i64_w, i32_w]
            rfl
          refine pure_ (i := 4) (N := some 65) (v := ?_) (a' := ?_) #[true, true, true, true, true, false, true, true, false, false, false, false] rfl rfl (by kernel_rfl) (fun _ _ _ h => h) (Or.inl ⟨by rfl, ?_⟩) ?_ ?_
          rotate_left
          · intro w'
            go_simp
            with_reducible rfl
          rotate_left
          · simp only [Act.put, List.setIfInBounds_toArray, List.set_cons_zero, List.set_cons_succ, i64_w, i32_w]
            rfl
          refine take_ (i := 5) (N := some 66) (v := ?_) (a' := ?_) #[true, true, true, true, true, true, true, true, false, false, false, false] rfl rfl (by kernel_rfl) (fun _ _ _ h => h) (Or.inl ⟨by rfl, ?_⟩) hHeld ?_ ?_
          rotate_left
          · rintro w' ⟨s0, s1, s2, s3⟩
            go_simp
            with_reducible rfl
          rotate_left
          · simp only [Act.put, List.setIfInBounds_toArray, List.set_cons_zero, List.set_cons_succ, i64_w, i32_w]
            rfl
          refine one_ (i := 8) (N := some 69) #[true, true, true, true, true, true, true, true, true, false, false, false] rfl rfl (by kernel_rfl) (by decide) (fun K hK => ?_)
          refine call_ 30 #[.int .i64 (((j + 1 : Nat) : Int) - 1), .pointer (some ⟨w3.heap.size + 1, 0, none⟩), .pointer (some ⟨w3.heap.size, 0, none⟩)] (by rfl) rfl (by have he := enters_ (P := Try.prog) Try.func30 (by kernel_rfl) rfl; unfold execOp; simp [resolve, Deferred.ofValue, invoke, Act.eval, he]) ?_
          refine (vary30 _ v _ _ pr.1 pr.2 _ (by rw [show (((j + 1 : Nat) : Int) - 1) = (j : Int) by omega]; exact HV.out) hHeld.2.2.1 hHeld.2.2.2).mono ?_
          rintro e' w' ⟨rfl, rfl⟩
          refine ⟨_, rfl, ?_⟩
          refine hK.out _ _ hHeld (fun hHeld => ?_)
          clear hK K
          refine norm_ (a' := ?_) ?_ ?_
          rotate_left
          · show Act.put _ (some 69) _ = _
            simp only [Act.put, List.setIfInBounds_toArray, List.set_cons_zero, List.set_cons_succ, i64_w, i32_w]
            rfl
          refine one_ (i := 9) (N := some 70) #[true, true, true, true, true, true, true, true, true, true, false, false] rfl rfl (by kernel_rfl) (by decide) (fun K hK => ?_)
          refine goes_ Try.func31 (by kernel_rfl) rfl #[.int .u8 (rdOf 0 o (i : Int)), .int .u8 v] (by rfl) rfl rfl (by (try simp only [List.map_toArray, List.map_cons, List.map_nil]); first | done | rfl) ?_
          refine (side_turned.calls _ _ s _ HS2.out).mono ?_
          rintro e' w5 ⟨rfl, hb5⟩
          refine ⟨_, rfl, ?_⟩
          have hKOd : KeepsOthers wr wd := by rw [← hwd]; exact KeepsOthers.drew wr
          have hK5 : KeepsOthers wd w5 := ⟨hb5.size, fun k ob hk _ => (hb5.block k (Array.getElem?_eq_some_iff.1 hk).1).trans hk⟩
          have bL5 : Boxed w5 w.heap.size 22 (.slice A0 l0.length c0) := blk_below (by rw [← hwd]; exact BL) hb5
          have bS5 : Boxed w5 w1.heap.size 41 (.slice A4 st.length c4) := blk_below (by rw [← hwd]; exact BS) hb5
          have bO5 : Boxed w5 w2.heap.size 31 (.slice (some ⟨g, 0, none⟩) l1.length c2) := blk_below (by rw [← hwd]; exact BO) hb5
          have bB5 : Boxed w5 wc.heap.size 23 (.slice A1 l1.length c1) := blk_below (by rw [← hwd]; exact BB) hb5
          have hSt5 := Kd.R_below (show Kd.R (Kd.int .i64) 3 wd (w.heap.size + 1) (fun k => k < w1.heap.size) (.slice A4 st.length c4) st by rw [← hwd]; exact Kd.R_drew HST2.out) hb5
          have hO5 := Kd.R_below (show Kd.R (Kd.int .u8) 5 wd (w1.heap.size + 1) (fun k => k = g) (.slice (some ⟨g, 0, none⟩) l1.length c2) o by rw [← hwd]; exact Kd.R_drew HO2.out) hb5
          have hB5 : Below w.heap.size w w5 := below_step (by rw [← hwd]; exact HB3.out) hb5
          have hBW5 : Below w.heap.size W w5 := by
            have h1 : Below w.heap.size W wd := by rw [← hwd]; exact HBW.out.drew
            exact h1.trans (hb5.mono (by have := HB3.out.size; rw [hwd] at this; exact this))
          obtain ⟨hce5, hfe5⟩ := Kd.R_celln 0 hO5 e q0 q1
          have hP5 := Aside0.mk (Kd.R_putn hO5 e s)
          have hSt6 := Kd.R_far hSt5 (p := ⟨g, e.toNat, none⟩) (fun k hk => by dsimp only; omega) (.int .u8 s)
          obtain ⟨ad4, ea4, hc4⟩ := Kd.at_int (Kd.R_reads' hSt6).2.2 e q0 q2
          cases ea4
          have bL6 := box_far bL5 (p := ⟨g, e.toNat, none⟩) (by dsimp only; omega) (.int .u8 s)
          have bS6 := box_far bS5 (p := ⟨g, e.toNat, none⟩) (by dsimp only; omega) (.int .u8 s)
          have bO6 := box_far bO5 (p := ⟨g, e.toNat, none⟩) (by dsimp only; omega) (.int .u8 s)
          have bB6 := box_far bB5 (p := ⟨g, e.toNat, none⟩) (by dsimp only; omega) (.int .u8 s)
          have hcS6 := bS6.cell
          have hB6 := Aside0.mk (hB5.setCell (p := ⟨g, e.toNat, none⟩) (by dsimp only; omega) (.int .u8 s))
          have hBW6 := Aside0.mk (hBW5.setCell (p := ⟨g, e.toNat, none⟩) (by dsimp only; omega) (.int .u8 s))
          have hKO6 := Aside0.mk (((HKO.out.trans hKOd).trans hK5).trans (KeepsOthers.setCell _ ⟨g, e.toNat, none⟩ (.int .u8 s)))
          refine hK.out _ _ ⟨bO5.cell, (pw_cell_below hb5 hHeld.2.1), (pw_cell_below hb5 hHeld.2.2.1), (pw_cell_below hb5 hHeld.2.2.2)⟩ (fun hHeld => ?_)
          clear hK K
          refine norm_ (a' := ?_) ?_ ?_
          rotate_left
          · show Act.put _ (some 70) _ = _
            simp only [Act.put, List.setIfInBounds_toArray, List.set_cons_zero, List.set_cons_succ, i64_w, i32_w]
            rfl
          refine pure_ (i := 10) (N := some 71) (v := ?_) (a' := ?_) #[true, true, true, true, true, true, true, true, true, true, true, false] rfl rfl (by kernel_rfl) (fun _ _ _ h => h) (Or.inl ⟨by rfl, ?_⟩) ?_ ?_
          rotate_left
          · intro w'
            go_simp
            with_reducible rfl
          rotate_left
          · simp only [Act.put, List.setIfInBounds_toArray, List.set_cons_zero, List.set_cons_succ, i64_w, i32_w]
            rfl
          refine last_ (i := 11) (N := none) #[true, true, true, true, true, true, true, true, true, true, true, true] rfl rfl (by kernel_rfl) (by decide) (fun K hK => ?_)
          refine skip_ (w1 := ?_) (by rfl) rfl ?_ ?_
          rotate_left
          · go_simp
            rfl
          refine hK.out _ _ ?_
          clear hK K
          refine done_ (by kernel_rfl) ?_
          have hHS6 := Aside0.mk hSt6
          have hBP6 := Aside0.mk (And.intro (box_far (blk_below (show Boxed wd w3.heap.size 9 (.string pr.1) by rw [← hwd]; exact BP) hb5) (p := ⟨g, e.toNat, none⟩) (by dsimp only; omega) (.int .u8 s)) (box_far (blk_below (show Boxed wd (w3.heap.size + 1) 4 (.bool pr.2) by rw [← hwd]; exact BI) hb5) (p := ⟨g, e.toNat, none⟩) (by dsimp only; omega) (.int .u8 s)))
          have hBX6 := Aside0.mk (And.intro bL6 (And.intro bS6 (And.intro bO6 bB6)))
          clear hSt6 hSt5 hO5 bL5 bS5 bO5 bB5 bL6 bS6 bO6 bB6 hKOd hK5 hB5 hBW5 hce5 hfe5 hci hfi hce hfe hcO
          gi_wp2
          go_roundw
          case rel => exact ⟨j, _, _, by omega, by congr 1 <;> (unfold wrap64; omega), rfl, HI, ⟨by rw [List.length_set]; exact HOL.out⟩, ⟨hBX6.out, hBP6.out.1, hBP6.out.2⟩, hHS6, hP5, hB6, hBW6, hKO6⟩
          case measure => simp [intOf] <;> (unfold wrap64; omega)
    · rw [if_neg h3] at hr2
      have e6 : (nd.f0 == 6) = false := beq_eq_false_iff_ne.mpr h6
      have e3 : (nd.f0 == 3) = false := beq_eq_false_iff_ne.mpr h3
      have HR2 := Aside0.mk hr2
      clear hr2 h6 h3
      gi_wp2
      gi_loopw [15, 16] (fun en k wr => ∃ (j : Nat) (e : Int) (o : List Int), (j : Int) ≤ 9223372036854775807 ∧ k = .int .i64 ((j : Int) - 1) ∧ en = .int .i64 e ∧ Aside0 (innerL st (varyAt false ByteArray.empty false) i j e o = some r2) ∧ Aside0 (o.length = l1.length) ∧
        Aside0 (Boxed wr w.heap.size 22 (.slice A0 l0.length c0) ∧ Boxed wr w1.heap.size 41 (.slice A4 st.length c4) ∧ Boxed wr w2.heap.size 31 (.slice (some ⟨g, 0, none⟩) l1.length c2) ∧ Boxed wr wc.heap.size 23 (.slice A1 l1.length c1)) ∧
        Aside0 (Kd.R (Kd.int .i64) 3 wr (w.heap.size + 1) (fun k => k < w1.heap.size) (.slice A4 st.length c4) st) ∧ Aside0 (Kd.R (Kd.int .u8) 5 wr (w1.heap.size + 1) (fun k => k = g) (.slice (some ⟨g, 0, none⟩) l1.length c2) o) ∧ Aside0 (Below w.heap.size w wr) ∧ Aside0 (Below w.heap.size W wr) ∧ Aside0 (KeepsOthers W wr))
        (fun _ k _ => (intOf k + 1).toNat)
      case atStart => exact ⟨nd.f2.toNat, _, out, by omega, by congr 1 <;> omega, rfl, HR2, HL, ⟨kL, kS, kO, kB⟩, ⟨hSt⟩, ⟨hO⟩, ⟨hB⟩, ⟨Below.refl _ _⟩, ⟨KeepsOthers.refl _⟩⟩
      case round =>
        obtain ⟨j, e, o, hjm, rfl, rfl, HA, HOL, HBX, HST2, HO2, HB2, HBW, HKO⟩ := hrel
        cases j with
        | zero =>
          have hneg : ¬ 0 ≤ ((0 : Nat) : Int) - 1 := by omega
          obtain rfl : o = r2 := Option.some.inj HA.out
          obtain ⟨BL, BS, BO, BB⟩ := HBX.out
          gi_wp2
          exact ⟨HKO.out.from _, ⟨fun _ => BB.cell, HBW.out⟩, ⟨BL, BS, BO, BB, HST2.out, by rw [HSN.out]; exact HO2.out⟩, HB2.out⟩
        | succ j =>
          have H := HA.out
          clear HA
          unfold innerL at H
          by_cases q0 : 0 ≤ e
          case neg => rw [if_neg q0] at H; cases H
          rw [if_pos q0] at H
          by_cases q1 : e < (o.length : Int)
          case neg => rw [if_neg q1] at H; cases H
          rw [if_pos q1] at H
          by_cases q2 : e < (st.length : Int)
          case neg => rw [if_neg q2] at H; cases H
          rw [if_pos q2] at H
          replace H := Option.bind_eq_some_iff.mp H
          obtain ⟨v, hv, H⟩ := H
          replace H := Option.bind_eq_some_iff.mp H
          obtain ⟨s, hs, H⟩ := H
          rw [HOL.out] at q1
          have HV := Aside0.mk hv
          have HS2 := Aside0.mk hs
          have HI := Aside0.mk H
          clear hv hs H
          have hge : 0 ≤ ((j + 1 : Nat) : Int) - 1 := by omega
          have hmx : Try.prog.follows .mixedOrders = true := by kernel_rfl
          obtain ⟨BL, BS, BO, BB⟩ := HBX.out
          have hcO := BO.cell
          obtain ⟨hci, hfi⟩ := Kd.R_celln 0 HO2.out (i : Int) (by omega) (by omega)
          obtain ⟨hce, hfe⟩ := Kd.R_celln 0 HO2.out e q0 q1
          rw [Int.toNat_natCast] at hci hfi
          have q1' : e.toNat < l1.length := by omega
          have hil : (i : Int) < (l1.length : Int) := by omega
          have hv43 : v = 43 := (Option.some.inj HV.out).symm
          subst hv43
          have HB3 := Aside0.mk (below_drew1 HB2.out)
          gi_upto_region 21 with (fail)
          have hno : ∀ x, x = 1 → x = 1 := fun x h => h
          refine start_round (k := 12) (S := fun w' => w'.cell? ⟨w2.heap.size, 0, none⟩ = some (.slice (some ⟨g, 0, none⟩) l1.length c2) ∧ w'.cell? ⟨g, i, none⟩ = some (.int .u8 (rdOf 0 o (i : Int)))) (ds := [11]) #[false, false, false, false, false, false, false, false, false, false, false, false] hmx (by kernel_rfl) ?hno rfl rfl ⟨hcO, hci⟩ (fun hHeld => ?_)
          case hno => exact fun ⟨_, _, h⟩ => (h : False)
          generalize hwd : wr.drew = wd at hHeld ⊢
          refine pure_ (i := 1) (N := some 62) (v := ?_) (a' := ?_) #[false, true, false, false, false, false, false, false, false, false, false, false] rfl rfl (by kernel_rfl) (fun _ _ _ h => h) (Or.inl ⟨by rfl, ?_⟩) ?_ ?_
          rotate_left
          · intro w'
            go_simp
            with_reducible rfl
          rotate_left
          · simp only [Act.put, List.setIfInBounds_toArray, List.set_cons_zero, List.set_cons_succ, i64_w, i32_w]
            rfl
          refine pure_ (i := 3) (N := some 64) (v := ?_) (a' := ?_) #[false, true, false, true, false, false, false, false, false, false, false, false] rfl rfl (by kernel_rfl) (fun _ _ _ h => h) (Or.inl ⟨by rfl, ?_⟩) ?_ ?_
          rotate_left
          · intro w'
            go_simp
            with_reducible rfl
          rotate_left
          · simp only [Act.put, List.setIfInBounds_toArray, List.set_cons_zero, List.set_cons_succ, i64_w, i32_w]
            rfl
          refine pure_ (i := 6) (N := some 67) (v := ?_) (a' := ?_) #[false, true, false, true, false, false, true, false, false, false, false, false] rfl rfl (by kernel_rfl) (fun _ _ _ h => h) (Or.inl ⟨by rfl, ?_⟩) ?_ ?_
          rotate_left
          · intro w'
            go_simp
            with_reducible rfl
          rotate_left
          · simp only [Act.put, List.setIfInBounds_toArray, List.set_cons_zero, List.set_cons_succ, i64_w, i32_w]
            rfl
          refine pure_ (i := 7) (N := some 68) (v := ?_) (a' := ?_) #[false, true, false, true, false, false, true, true, false, false, false, false] rfl rfl (by kernel_rfl) (fun _ _ _ h => h) (Or.inl ⟨by rfl, ?_⟩) ?_ ?_
          rotate_left
          · intro w'
            go_simp
            with_reducible rfl
          rotate_left
          · simp only [Act.put, List.setIfInBounds_toArray, List.set_cons_zero, List.set_cons_succ, i64_w, i32_w]
            rfl
          refine take_ (i := 0) (N := some 61) (v := ?_) (a' := ?_) #[true, true, false, true, false, false, true, true, false, false, false, false] rfl rfl (by kernel_rfl) (fun _ _ _ h => h) (Or.inl ⟨by rfl, ?_⟩) hHeld ?_ ?_
          rotate_left
          · rintro w' ⟨s0, s1⟩
            go_simp
            with_reducible rfl
          rotate_left
          · simp only [Act.put, List.setIfInBounds_toArray, List.set_cons_zero, List.set_cons_succ, i64_w, i32_w]
            rfl
          refine take_ (i := 2) (N := some 63) (v := ?_) (a' := ?_) #[true, true, true, true, false, false, true, true, false, false, false, false] rfl rfl (by kernel_rfl) (fun _ _ _ h => h) (Or.inl ⟨by rfl, ?_⟩) hHeld ?_ ?_
          rotate_left
          · rintro w' ⟨s0, s1⟩
            go_simp
            with_reducible rfl
          rotate_left
          · simp only [Act.put, List.setIfInBounds_toArray, List.set_cons_zero, List.set_cons_succ, i64_w, i32_w]
            rfl
          refine pure_ (i := 4) (N := some 65) (v := ?_) (a' := ?_) #[true, true, true, true, true, false, true, true, false, false, false, false] rfl rfl (by kernel_rfl) (fun _ _ _ h => h) (Or.inl ⟨by rfl, ?_⟩) ?_ ?_
          rotate_left
          · intro w'
            go_simp
            with_reducible rfl
          rotate_left
          · simp only [Act.put, List.setIfInBounds_toArray, List.set_cons_zero, List.set_cons_succ, i64_w, i32_w]
            rfl
          refine take_ (i := 5) (N := some 66) (v := ?_) (a' := ?_) #[true, true, true, true, true, true, true, true, false, false, false, false] rfl rfl (by kernel_rfl) (fun _ _ _ h => h) (Or.inl ⟨by rfl, ?_⟩) hHeld ?_ ?_
          rotate_left
          · rintro w' ⟨s0, s1⟩
            go_simp
            with_reducible rfl
          rotate_left
          · simp only [Act.put, List.setIfInBounds_toArray, List.set_cons_zero, List.set_cons_succ, i64_w, i32_w]
            rfl
          refine one_ (i := 8) (N := some 69) #[true, true, true, true, true, true, true, true, true, false, false, false] rfl rfl (by kernel_rfl) (by decide) (fun K hK => ?_)
          refine call_ 28 #[.int .i64 (((j + 1 : Nat) : Int) - 1)] (by rfl) rfl (by have he := enters_ (P := Try.prog) Try.func28 (by kernel_rfl) rfl; unfold execOp; simp [resolve, Deferred.ofValue, invoke, Act.eval, he]) ?_
          refine (vary28 _ _).mono ?_
          rintro e' w' ⟨rfl, rfl⟩
          refine ⟨_, rfl, ?_⟩
          refine hK.out _ _ hHeld (fun hHeld => ?_)
          clear hK K
          refine norm_ (a' := ?_) ?_ ?_
          rotate_left
          · show Act.put _ (some 69) _ = _
            simp only [Act.put, List.setIfInBounds_toArray, List.set_cons_zero, List.set_cons_succ, i64_w, i32_w]
            rfl
          refine one_ (i := 9) (N := some 70) #[true, true, true, true, true, true, true, true, true, true, false, false] rfl rfl (by kernel_rfl) (by decide) (fun K hK => ?_)
          refine goes_ Try.func31 (by kernel_rfl) rfl #[.int .u8 (rdOf 0 o (i : Int)), .int .u8 43] (by rfl) rfl rfl (by (try simp only [List.map_toArray, List.map_cons, List.map_nil]); first | done | rfl) ?_
          refine (side_turned.calls _ _ s _ HS2.out).mono ?_
          rintro e' w5 ⟨rfl, hb5⟩
          refine ⟨_, rfl, ?_⟩
          have hKOd : KeepsOthers wr wd := by rw [← hwd]; exact KeepsOthers.drew wr
          have hK5 : KeepsOthers wd w5 := ⟨hb5.size, fun k ob hk _ => (hb5.block k (Array.getElem?_eq_some_iff.1 hk).1).trans hk⟩
          have bL5 : Boxed w5 w.heap.size 22 (.slice A0 l0.length c0) := blk_below (by rw [← hwd]; exact BL) hb5
          have bS5 : Boxed w5 w1.heap.size 41 (.slice A4 st.length c4) := blk_below (by rw [← hwd]; exact BS) hb5
          have bO5 : Boxed w5 w2.heap.size 31 (.slice (some ⟨g, 0, none⟩) l1.length c2) := blk_below (by rw [← hwd]; exact BO) hb5
          have bB5 : Boxed w5 wc.heap.size 23 (.slice A1 l1.length c1) := blk_below (by rw [← hwd]; exact BB) hb5
          have hSt5 := Kd.R_below (show Kd.R (Kd.int .i64) 3 wd (w.heap.size + 1) (fun k => k < w1.heap.size) (.slice A4 st.length c4) st by rw [← hwd]; exact Kd.R_drew HST2.out) hb5
          have hO5 := Kd.R_below (show Kd.R (Kd.int .u8) 5 wd (w1.heap.size + 1) (fun k => k = g) (.slice (some ⟨g, 0, none⟩) l1.length c2) o by rw [← hwd]; exact Kd.R_drew HO2.out) hb5
          have hB5 : Below w.heap.size w w5 := below_step (by rw [← hwd]; exact HB3.out) hb5
          have hBW5 : Below w.heap.size W w5 := by
            have h1 : Below w.heap.size W wd := by rw [← hwd]; exact HBW.out.drew
            exact h1.trans (hb5.mono (by have := HB3.out.size; rw [hwd] at this; exact this))
          obtain ⟨hce5, hfe5⟩ := Kd.R_celln 0 hO5 e q0 q1
          have hP5 := Aside0.mk (Kd.R_putn hO5 e s)
          have hSt6 := Kd.R_far hSt5 (p := ⟨g, e.toNat, none⟩) (fun k hk => by dsimp only; omega) (.int .u8 s)
          obtain ⟨ad4, ea4, hc4⟩ := Kd.at_int (Kd.R_reads' hSt6).2.2 e q0 q2
          cases ea4
          have bL6 := box_far bL5 (p := ⟨g, e.toNat, none⟩) (by dsimp only; omega) (.int .u8 s)
          have bS6 := box_far bS5 (p := ⟨g, e.toNat, none⟩) (by dsimp only; omega) (.int .u8 s)
          have bO6 := box_far bO5 (p := ⟨g, e.toNat, none⟩) (by dsimp only; omega) (.int .u8 s)
          have bB6 := box_far bB5 (p := ⟨g, e.toNat, none⟩) (by dsimp only; omega) (.int .u8 s)
          have hcS6 := bS6.cell
          have hB6 := Aside0.mk (hB5.setCell (p := ⟨g, e.toNat, none⟩) (by dsimp only; omega) (.int .u8 s))
          have hBW6 := Aside0.mk (hBW5.setCell (p := ⟨g, e.toNat, none⟩) (by dsimp only; omega) (.int .u8 s))
          have hKO6 := Aside0.mk (((HKO.out.trans hKOd).trans hK5).trans (KeepsOthers.setCell _ ⟨g, e.toNat, none⟩ (.int .u8 s)))
          refine hK.out _ _ ⟨bO5.cell, (pw_cell_below hb5 hHeld.2)⟩ (fun hHeld => ?_)
          clear hK K
          refine norm_ (a' := ?_) ?_ ?_
          rotate_left
          · show Act.put _ (some 70) _ = _
            simp only [Act.put, List.setIfInBounds_toArray, List.set_cons_zero, List.set_cons_succ, i64_w, i32_w]
            rfl
          refine pure_ (i := 10) (N := some 71) (v := ?_) (a' := ?_) #[true, true, true, true, true, true, true, true, true, true, true, false] rfl rfl (by kernel_rfl) (fun _ _ _ h => h) (Or.inl ⟨by rfl, ?_⟩) ?_ ?_
          rotate_left
          · intro w'
            go_simp
            with_reducible rfl
          rotate_left
          · simp only [Act.put, List.setIfInBounds_toArray, List.set_cons_zero, List.set_cons_succ, i64_w, i32_w]
            rfl
          refine last_ (i := 11) (N := none) #[true, true, true, true, true, true, true, true, true, true, true, true] rfl rfl (by kernel_rfl) (by decide) (fun K hK => ?_)
          refine skip_ (w1 := ?_) (by rfl) rfl ?_ ?_
          rotate_left
          · go_simp
            rfl
          refine hK.out _ _ ?_
          clear hK K
          refine done_ (by kernel_rfl) ?_
          have hHS6 := Aside0.mk hSt6
          have hBX6 := Aside0.mk (And.intro bL6 (And.intro bS6 (And.intro bO6 bB6)))
          clear hSt6 hSt5 hO5 bL5 bS5 bO5 bB5 bL6 bS6 bO6 bB6 hKOd hK5 hB5 hBW5 hce5 hfe5 hci hfi hce hfe hcO
          gi_wp2
          go_roundw
          case rel => exact ⟨j, _, _, by omega, by congr 1 <;> (unfold wrap64; omega), rfl, HI, ⟨by rw [List.length_set]; exact HOL.out⟩, hBX6, hHS6, hP5, hB6, hBW6, hKO6⟩
          case measure => simp [intOf] <;> (unfold wrap64; omega)
  case done =>
    rintro D ys W hD hys ⟨⟨kL, kS, kO, kB, hSt, hO⟩, hB⟩ hK
    have hcO := kO.cell
    have hfin : outAt l0 l1 st ys ((List.replicate l1.length 0).set (l1.length - 1) sd) = r := outAt_down hys HF.out
    rw [hfin] at hO
    go_wp2
    refine ⟨by simp, .inl ⟨_, _, rfl, run_takeDeferred hK, ?_⟩⟩
    have hg := grownBy_putObj' W D (.deferred none)
    have hgr : ∀ r, some D = some r → ∃ o : Obj, W.heap[r]? = some o ∧ o.isCells = false := fun r e => by cases e; exact ⟨_, hK, rfl⟩
    exact ⟨_, results_tmp rfl _ _ _, _, rfl, Kd.R_lower (Kd.R_mono (R_keeps rfl hO hg hgr) (fun _ _ => trivial)) (by omega), hB.trans (belowK_b (w := w) (Nat.le_refl _) W D _ _ (by omega) hK rfl rfl)⟩
  case stop =>
    rintro D c pre W _ _ h _
    exact h.elim

end Go.Proofs.Ytgbickkmfjngbaa.K
