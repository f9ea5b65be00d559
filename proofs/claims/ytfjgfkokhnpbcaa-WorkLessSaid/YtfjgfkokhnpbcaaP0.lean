/- Plainly: words on rounds; comparisons of rows; where a key stands; hashing. -/
import Derived.Test.YtfjgfkokhnpbcaaUx0
import Derived.Test.YtfjgfkokhnpbcaaUx2
import Derived.Test.YtfjgfkokhnpbcaaUx3
import Derived.Test.YtfjgfkokhnpbcaaUx7
namespace Go.Proofs.Ytfjgfkokhnpbcaa.U
open Go.RowKit Go.Proofs.YtfjgfkokhnpbcaaW.PrintWords Go.Proofs.YtfjgfkokhnpbcaaW.PrintLast Go.Proofs.YtfjgfkokhnpbcaaW.PrintMore
set_option linter.unusedVariables false
set_option linter.unusedSimpArgs false

theorem w64 {n : Int} (h : -9223372036854775808 ≤ n ∧ n ≤ 9223372036854775807) : wrap64 n = n := by unfold wrap64; omega
theorem Ev.pos {α : Type} {c : Prop} [Decidable c] {f g : Nat → Option α} {r : α} (h : c) (k : Ev f r) : Ev (fun n => if c then f n else g n) r := by simpa only [h, if_true] using k
theorem Ev.neg {α : Type} {c : Prop} [Decidable c] {f g : Nat → Option α} {r : α} (h : ¬ c) (k : Ev g r) : Ev (fun n => if c then f n else g n) r := by simpa only [h, if_false] using k
theorem Ev.pure {α β : Type} {o : Option α} {f : Nat → α → Option β} {a : α} {r : β} (h : o = some a) (k : Ev (fun n => f n a) r) : Ev (fun n => o.bind (f n)) r := by simpa only [h, Option.bind_some] using k
theorem Ev.inj {α : Type} {g : Nat → Option α} {a b : α} (h : Ev g a) (k : Ev g b) : a = b := by
  obtain ⟨K, h⟩ := h
  obtain ⟨L, k⟩ := k
  exact Option.some.inj ((h (max K L) (by omega)).symm.trans (k (max K L) (by omega)))
/-- Either arm. -/
theorem Ev.ite {α : Type} {c : Prop} [Decidable c] {f g : Nat → Option α} {P : α → Prop} (h : c → ∃ r, Ev f r ∧ P r) (k : ¬ c → ∃ r, Ev g r ∧ P r) : ∃ r, Ev (fun n => if c then f n else g n) r ∧ P r := by
  by_cases e : c
  · obtain ⟨r, h1, h2⟩ := h e; exact ⟨r, Ev.pos e h1, h2⟩
  · obtain ⟨r, h1, h2⟩ := k e; exact ⟨r, Ev.neg e h1, h2⟩
theorem Ev.exBind {α β : Type} {g : Nat → Option α} {f : Nat → α → Option β} {a : α} {P : β → Prop} (h : Ev g a) (k : ∃ r, Ev (fun n => f n a) r ∧ P r) : ∃ r, Ev (fun n => (g n).bind (f n)) r ∧ P r := by
  obtain ⟨r, k1, k2⟩ := k; exact ⟨r, h.bind k1, k2⟩
theorem Ev.exPure {α β : Type} {o : Option α} {f : Nat → α → Option β} {a : α} {P : β → Prop} (h : o = some a) (k : ∃ r, Ev (fun n => f n a) r ∧ P r) : ∃ r, Ev (fun n => o.bind (f n)) r ∧ P r := by
  obtain ⟨r, k1, k2⟩ := k; exact ⟨r, Ev.pure h k1, k2⟩
theorem Ev.exStep {α : Type} {g f : Nat → Option α} {P : α → Prop} (h : ∀ k, g (k + 1) = f k) (k : ∃ r, Ev f r ∧ P r) : ∃ r, Ev g r ∧ P r := by
  obtain ⟨r, k1, k2⟩ := k; exact ⟨r, Ev.step h k1, k2⟩
theorem Ev.exNow {α : Type} {P : α → Prop} (r : α) (h : P r) : ∃ x, Ev (fun _ => some r) x ∧ P x := ⟨r, Ev.now r, h⟩

/-- Short enough for a row that lies in memory. -/
abbrev Sh {α : Type} (l : List α) : Prop := l.length ≤ 35184372088832
theorem rd_at {l : List Int} {i : Nat} (h : i < l.length) : rd l (i : Int) = l[i] := by simp [rd, List.getD_eq_getElem?_getD, h]
theorem rdL_at {l : List (List Int)} {i : Nat} (h : i < l.length) : rd_L1 l (i : Int) = l[i] := by simp [rd_L1, List.getD_eq_getElem?_getD, h]
theorem drop_at {α : Type} {l : List α} {i : Nat} (h : i < l.length) : l.drop i = l[i] :: l.drop (i + 1) := List.drop_eq_getElem_cons h

theorem dec_eq {x y : Int} {a b : List Int} (h : x = y) : decide (x :: a = y :: b) = decide (a = b) := by rw [h]; simp
theorem dec_ne {x y : Int} {a b : List Int} (h : x ≠ y) : decide (x :: a = y :: b) = false := by simp [h]
/-! ### Rows of whole numbers, compared -/
theorem ints_from {a b : List Int} (ha : Sh a) (hl : a.length = b.length) : ∀ (m i : Nat), i + m = a.length → Ev (fun k => tammyref02_Ints.l0 k a b (i : Int)) (decide (a.drop i = b.drop i))
  | 0, i, h => by
    refine Ev.step (fun k => tammyref02_Ints.l0.eq_2 a b i k) (Ev.neg (by omega) ?_)
    rw [List.drop_of_length_le (by omega), List.drop_of_length_le (by omega)]
    exact Ev.now _
  | m + 1, i, h => by
    have hi : i < a.length := by omega
    have hj : i < b.length := by omega
    refine Ev.step (fun k => tammyref02_Ints.l0.eq_2 a b i k) (Ev.pos (by omega) (Ev.pos (by omega) (Ev.pos (by omega) ?_)))
    rw [rd_at hi, rd_at hj, drop_at hi, drop_at hj]
    have hw : wrap64 ((i : Int) + 1) = ((i + 1 : Nat) : Int) := by unfold Sh at ha; rw [w64 (by omega)]; rfl
    rw [hw]
    by_cases e : a[i] = b[i]
    · refine Ev.pos e ?_
      rw [dec_eq e]
      exact ints_from ha hl m (i + 1) (by omega)
    · refine Ev.neg e ?_
      rw [dec_ne e]
      exact Ev.now false
theorem ints_ev {a b : List Int} (ha : Sh a) : Ev (fun k => tammyref02_Ints.f k a b) (decide (a = b)) := by
  unfold tammyref02_Ints.f
  by_cases e : (a.length : Int) = (b.length : Int)
  · refine Ev.pos e ?_
    have h := ints_from ha (by omega : a.length = b.length) a.length 0 (by omega)
    rw [List.drop_zero, List.drop_zero] at h
    exact h
  · refine Ev.neg e ?_
    have : a ≠ b := fun h => e (by rw [h])
    simpa [this] using Ev.now false
/-- With so many rounds the comparison has come to its end. -/
theorem equal_from {a b : List Int} (ha : Sh a) (hl : a.length = b.length) : ∀ (m i k : Nat), i + m = a.length → m < k → slices_Equal_int_int.l0 k a b (a.length : Int) (i : Int) = some (decide (a.drop i = b.drop i))
  | m, i, 0, h, hk => absurd hk (by omega)
  | 0, i, k + 1, h, hk => by
    rw [slices_Equal_int_int.l0, if_neg (by omega), List.drop_of_length_le (by omega), List.drop_of_length_le (by omega)]
    simp
  | m + 1, i, k + 1, h, hk => by
    have hi : i < a.length := by omega
    have hj : i < b.length := by omega
    rw [slices_Equal_int_int.l0, if_pos (by omega), if_pos (by omega), if_pos (by omega), if_pos (by omega), rd_at hi, rd_at hj, drop_at hi, drop_at hj]
    have hw : wrap64 ((i : Int) + 1) = ((i + 1 : Nat) : Int) := by unfold Sh at ha; rw [w64 (by omega)]; rfl
    rw [hw]
    by_cases e : a[i] = b[i]
    · rw [if_pos e, equal_from ha hl m (i + 1) k (by omega) (by omega), dec_eq e]
    · rw [if_neg e, dec_ne e]
theorem equal_at {a b : List Int} (ha : Sh a) {k : Nat} (hk : 35184372088832 < k) : slices_Equal_int_int.f k a b = some (decide (a = b)) := by
  unfold slices_Equal_int_int.f
  by_cases e : (a.length : Int) = (b.length : Int)
  · rw [if_pos e]
    have h := equal_from ha (by omega : a.length = b.length) a.length 0 k (by omega) (by unfold Sh at ha; omega)
    rw [List.drop_zero, List.drop_zero] at h
    exact h
  · have : a ≠ b := fun h => e (by rw [h])
    rw [if_neg e]; simp [this]
theorem equal_ev {a b : List Int} (ha : Sh a) : Ev (fun k => slices_Equal_int_int.f k a b) (decide (a = b)) := ⟨35184372088833, fun k hk => equal_at ha (by omega)⟩

/-! ### Where a key stands -/
def atI (key : List Int) : List (List Int) → Int → Int
  | [], _ => -1
  | q :: qs, i => if q = key then i else atI key qs (i + 1)
structure Keys (keys : List (List Int)) : Prop where
  len : Sh keys
  row : ∀ q ∈ keys, Sh q
theorem at_from {keys : List (List Int)} (H : Keys keys) (key : List Int) : ∀ (m i : Nat), i + m = keys.length → Ev (fun k => tammyref02_At.l0 k keys key (i : Int)) (atI key (keys.drop i) i)
  | 0, i, h => by
    refine Ev.step (fun k => tammyref02_At.l0.eq_2 keys key i k) (Ev.neg (by omega) ?_)
    rw [List.drop_of_length_le (by omega)]
    exact Ev.now _
  | m + 1, i, h => by
    have hi : i < keys.length := by omega
    refine Ev.step (fun k => tammyref02_At.l0.eq_2 keys key i k) (Ev.pos (by omega) (Ev.pos (by omega) ?_))
    rw [rdL_at hi, drop_at hi]
    refine (ints_ev (H.row _ (List.getElem_mem hi))).bind ?_
    have hw : wrap64 ((i : Int) + 1) = ((i + 1 : Nat) : Int) := by have := H.len; unfold Sh at this; rw [w64 (by omega)]; rfl
    rw [hw]
    by_cases e : keys[i] = key
    · refine Ev.pos (by simp [e]) ?_
      rw [atI, if_pos e]; exact Ev.now _
    · refine Ev.neg (by simp [e]) ?_
      rw [atI, if_neg e]; exact at_from H key m (i + 1) (by omega)
theorem at_ev {keys : List (List Int)} (H : Keys keys) (key : List Int) : Ev (fun k => tammyref02_At.f k keys key) (atI key keys 0) := at_from H key keys.length 0 (by omega)
theorem atI_none {key : List Int} : ∀ {keys : List (List Int)} {i : Int}, key ∉ keys → atI key keys i = -1
  | [], _, _ => rfl
  | q :: qs, i, h => by
    rw [atI, if_neg (fun e => h (by rw [e]; exact List.mem_cons_self))]
    exact atI_none (fun h2 => h (List.mem_cons_of_mem _ h2))
theorem atI_first {key : List Int} : ∀ {keys : List (List Int)} {i : Int} {j : Nat} (hj : j < keys.length), keys[j] = key → (∀ q (hq : q < j), keys[q]'(by omega) ≠ key) → atI key keys i = i + j
  | q :: qs, i, 0, hj, h, _ => by rw [atI, if_pos (by simpa using h)]; simp
  | q :: qs, i, j + 1, hj, h, hn => by
    have h0 : q ≠ key := by simpa using hn 0 (by omega)
    rw [atI, if_neg h0, atI_first (j := j) (by simpa using hj) (by simpa using h) (fun p hp => by simpa using hn (p + 1) (by omega))]
    omega
theorem atI_nonneg {key : List Int} {keys : List (List Int)} (h : 0 ≤ atI key keys 0) : key ∈ keys := by
  by_cases e : key ∈ keys
  · exact e
  · rw [atI_none e] at h; omega
theorem first_of {P : Nat → Prop} : ∀ n, P n → ∃ m, m ≤ n ∧ P m ∧ ∀ q, q < m → ¬ P q := by
  intro n
  induction n using Nat.strongRecOn with
  | _ n ih =>
    intro h
    by_cases e : ∃ q, q < n ∧ P q
    · obtain ⟨q, hq, hp⟩ := e
      obtain ⟨m, h1, h2, h3⟩ := ih q hq hp
      exact ⟨m, by omega, h2, h3⟩
    · exact ⟨n, Nat.le_refl _, h, fun q hq hp => e ⟨q, hq, hp⟩⟩
theorem atI_some {key : List Int} {keys : List (List Int)} (h : key ∈ keys) : ∃ j : Nat, ∃ hj : j < keys.length, atI key keys 0 = j ∧ keys[j] = key := by
  obtain ⟨n, hn, he⟩ := List.getElem_of_mem h
  obtain ⟨m, h1, ⟨h2, h3⟩, h4⟩ := first_of (P := fun n => ∃ h : n < keys.length, keys[n] = key) n ⟨hn, he⟩
  refine ⟨m, h2, ?_, h3⟩
  rw [atI_first h2 h3 (fun q hq e => h4 q hq ⟨by omega, e⟩)]
  omega

/-! ### Hashing -/
def hstep (h b : Int) : Int := (Go.bits .xor .u32 h b * 16777619) % 4294967296
def hfrom (n : Int) : Nat → Nat → Int → Int
  | 0, _, h => h
  | d + 1, j, h => hfrom n d (j + 1) (hstep h (n / 256 ^ j % 256))
def hrow : List Int → Int → Int
  | [], h => h
  | n :: ns, h => hrow ns (hfrom (IntKind.u64.wrap n) 8 0 h)
def hs (key : List Int) : Int := hrow key 2166136261
theorem hstep_range (h b : Int) : 0 ≤ hstep h b ∧ hstep h b < 4294967296 := by unfold hstep; omega
theorem hfrom_range (n : Int) : ∀ (d j : Nat) (h : Int), 0 ≤ h ∧ h < 4294967296 → 0 ≤ hfrom n d j h ∧ hfrom n d j h < 4294967296
  | 0, _, _, hh => hh
  | d + 1, j, h, _ => hfrom_range n d (j + 1) _ (hstep_range _ _)
theorem hrow_range : ∀ (l : List Int) (h : Int), 0 ≤ h ∧ h < 4294967296 → 0 ≤ hrow l h ∧ hrow l h < 4294967296
  | [], _, hh => hh
  | n :: ns, h, hh => hrow_range ns _ (hfrom_range _ _ _ _ hh)
theorem hs_range (key : List Int) : 0 ≤ hs key ∧ hs key < 4294967296 := hrow_range key _ (by omega)
theorem u64_range (n : Int) : 0 ≤ IntKind.u64.wrap n ∧ IntKind.u64.wrap n < 18446744073709551616 := by
  have : IntKind.u64.wrap n = n % 18446744073709551616 := rfl
  omega
theorem u64_id {n : Int} (h : 0 ≤ n ∧ n < 18446744073709551616) : IntKind.u64.wrap n = n := by
  have : IntKind.u64.wrap n = n % 18446744073709551616 := rfl
  omega
theorem pow256 (j : Nat) : (256 : Int) ^ j = 2 ^ (8 * j) := by rw [Int.pow_mul]; rfl
theorem hash_l1 (xs : List Int) (x5 : Int) (n m : Int) {r : Int} : ∀ (d j : Nat) (h : Int), j + d = 8 → Ev (fun k => hash_Hash.l0 k (hfrom (IntKind.u64.wrap x5) d j h) xs n (wrap64 (m + 1))) r →
    Ev (fun k => hash_Hash.l1 k h x5 ((8 * j : Nat) : Int) xs n m) r
  | 0, j, h, hj, hk => by
    refine Ev.step (fun k => hash_Hash.l1.eq_2 h x5 _ xs n m k) (Ev.neg (by omega) hk)
  | d + 1, j, h, hj, hk => by
    refine Ev.step (fun k => hash_Hash.l1.eq_2 h x5 _ xs n m k) (Ev.pos (by omega) (Ev.pos (by omega) ?_))
    have hw : wrap64 (((8 * j : Nat) : Int) + 8) = ((8 * (j + 1) : Nat) : Int) := by rw [w64 (by omega)]; omega
    have hb : shr .u64 (IntKind.u64.wrap x5) ((8 * j : Nat) : Int) = IntKind.u64.wrap x5 / 256 ^ j := by
      unfold shr
      rw [Int.toNat_natCast, Nat.min_eq_left (show 8 * j ≤ IntKind.u64.bits from by show 8 * j ≤ 64; omega), pow256]
    rw [hw, hb]
    exact hash_l1 xs x5 n m d (j + 1) _ (by omega) hk
theorem hash_from {xs : List Int} (hx : Sh xs) : ∀ (m i : Nat) (h : Int), i + m = xs.length → Ev (fun k => hash_Hash.l0 k h xs (xs.length : Int) (i : Int)) (hrow (xs.drop i) h)
  | 0, i, h, hi => by
    refine Ev.step (fun k => hash_Hash.l0.eq_2 h xs _ i k) (Ev.neg (by omega) ?_)
    rw [List.drop_of_length_le (by omega)]
    exact Ev.now _
  | m + 1, i, h, hi => by
    have hlt : i < xs.length := by omega
    refine Ev.step (fun k => hash_Hash.l0.eq_2 h xs _ i k) (Ev.pos (by omega) (Ev.pos (by omega) (Ev.pos (by omega) ?_)))
    rw [rd_at hlt, drop_at hlt]
    refine hash_l1 xs xs[i] _ _ 8 0 h (by omega) ?_
    have hw : wrap64 ((i : Int) + 1) = ((i + 1 : Nat) : Int) := by unfold Sh at hx; rw [w64 (by omega)]; rfl
    rw [hw]
    exact hash_from hx m (i + 1) _ (by omega)
theorem hash_ev {xs : List Int} (hx : Sh xs) : Ev (fun k => hash_Hash.f k xs) (hs xs) := hash_from hx xs.length 0 _ (by omega)
theorem rhash_l1 (xs : List Int) (i : Int) (u : Int) (hu : 0 ≤ u ∧ u < 18446744073709551616) {r : Int} : ∀ (d j : Nat) (h : Int), j + d = 8 → Ev (fun k => tammyref02_Hash.l0 k xs (hfrom u d j h) (wrap64 (i + 1))) r →
    Ev (fun k => tammyref02_Hash.l1 k xs h i (u / 256 ^ j) ((j : Nat) : Int)) r
  | 0, j, h, hj, hk => Ev.step (fun k => tammyref02_Hash.l1.eq_2 xs h i _ _ k) (Ev.neg (by omega) hk)
  | d + 1, j, h, hj, hk => by
    refine Ev.step (fun k => tammyref02_Hash.l1.eq_2 xs h i _ _ k) (Ev.pos (by omega) ?_)
    have hp : (0 : Int) < 256 ^ j := Int.pow_pos (by omega)
    have h0 : 0 ≤ u / 256 ^ j := Int.ediv_nonneg hu.1 (by omega)
    have h1 : u / 256 ^ j ≤ u := Int.ediv_le_self _ hu.1
    have hw : wrap64 (((j : Nat) : Int) + 1) = ((j + 1 : Nat) : Int) := by rw [w64 (by omega)]; rfl
    have ht : Int.tmod (u / 256 ^ j) 256 % 4294967296 = u / 256 ^ j % 256 := by rw [Int.tmod_eq_emod_of_nonneg h0]; omega
    have hd : IntKind.u64.wrap (Int.tdiv (u / 256 ^ j) 256) = u / 256 ^ (j + 1) := by
      rw [Int.tdiv_eq_ediv_of_nonneg h0, u64_id (by omega), Int.ediv_ediv_of_nonneg (by omega), Int.pow_succ]
    rw [hw, ht, hd]
    exact rhash_l1 xs i u hu d (j + 1) _ (by omega) hk
theorem rhash_from {xs : List Int} (hx : Sh xs) : ∀ (m i : Nat) (h : Int), i + m = xs.length → Ev (fun k => tammyref02_Hash.l0 k xs h (i : Int)) (hrow (xs.drop i) h)
  | 0, i, h, hi => by
    refine Ev.step (fun k => tammyref02_Hash.l0.eq_2 xs h i k) (Ev.neg (by omega) ?_)
    rw [List.drop_of_length_le (by omega)]
    exact Ev.now _
  | m + 1, i, h, hi => by
    have hlt : i < xs.length := by omega
    refine Ev.step (fun k => tammyref02_Hash.l0.eq_2 xs h i k) (Ev.pos (by omega) (Ev.pos (by omega) ?_))
    rw [rd_at hlt, drop_at hlt]
    have hw : wrap64 ((i : Int) + 1) = ((i + 1 : Nat) : Int) := by unfold Sh at hx; rw [w64 (by omega)]; rfl
    have := rhash_l1 xs i (IntKind.u64.wrap xs[i]) (u64_range _) 8 0 h (by omega) (r := hrow (xs.drop (i + 1)) (hfrom (IntKind.u64.wrap xs[i]) 8 0 h)) (by rw [hw]; exact rhash_from hx m (i + 1) _ (by omega))
    rw [Int.pow_zero, Int.ediv_one] at this
    exact this
theorem rhash_ev {xs : List Int} (hx : Sh xs) : Ev (fun k => tammyref02_Hash.f k xs) (hs xs) := rhash_from hx xs.length 0 _ (by omega)
end Go.Proofs.Ytfjgfkokhnpbcaa.U
