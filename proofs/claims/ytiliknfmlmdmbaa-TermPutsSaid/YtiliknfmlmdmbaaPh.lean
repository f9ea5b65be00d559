/- Plainly: TermPuts. -/
import Derived.Test.YtiliknfmlmdmbaaPe
import Derived.Test.YtiliknfmlmdmbaaPg
import Derived.Test.YtiliknfmlmdmbaaHn
import Derived.Test.YtiliknfmlmdmbaaTx0
import Derived.Test.YtiliknfmlmdmbaaTx2
import Derived.Test.YtiliknfmlmdmbaaTx6
import Derived.Test.YtiliknfmlmdmbaaTx13
import Derived.Test.YtiliknfmlmdmbaaTx16
namespace Go.Proofs.Ytiliknfmlmdmbaa.T
open Go.RowKit Go.Proofs.YtiliknfmlmdmbaaW.PrintWords Go.Proofs.YtiliknfmlmdmbaaW.PrintLast Go.Proofs.YtiliknfmlmdmbaaW.PrintMore
set_option linter.unusedVariables false
set_option linter.unusedSimpArgs false

theorem rkey_is (a b c : Int) {l : List Int} (h : l.length ≤ 2000) : tammyref03_Key.f a b c l = some (a :: b :: c :: l) := by
  unfold tammyref03_Key.f
  simp only [Option.bind_some]
  rw [if_pos (by simp; omega)]
  rfl
/-! ### TermPuts -/
theorem layS_sh {keys : List (List Int)} (hn : keys.length ≤ 6000) : Sh (layS keys) := by
  have := (layS_inv hn).2
  have := sizeN_spec hn
  unfold Sh; omega
theorem puts_ev {l : List S62} {keys : List (List Int)} (S : Store l keys) (k sym part : Int) (hk : (Lit.int .i64 k).wf = true) {args : List Int} (ha : args.length ≤ 100) (limit : Int) :
    ∃ x, Ev (fun q => term_Put.f q l keys (layS keys) k sym part args limit) x ∧ Ev (fun q => tammyref03_Put.f q l keys (layS keys) k sym part args limit) x ∧ Keys x.1 ∧ x.2.1 = layS x.1 ∧ x.1.length ≤ 2001 := by
  have hn := S.len
  have hmay : term_May.f l keys (layS keys) k sym part args = some (mayS l keys.length k sym part args) := by unfold term_May.f; rw [may_is hk]; rfl
  have hmay2 : Ev (fun q => tammyref03_May.f q l keys (layS keys) k sym part args) (mayS l keys.length k sym part args) := by
    unfold tammyref03_May.f
    exact (rmay_ev l _ k sym part (by unfold Sh; omega)).bind (Ev.now _)
  have hkl : (k :: sym :: part :: args).length < 17592186044416 := by simp; omega
  have hks : Sh (k :: sym :: part :: args) := by unfold Sh; simp; omega
  have hp := put_ev S.K (by omega) S.nodup (k :: sym :: part :: args) hkl
  have hp2 := rput_ev S.K (by omega) (k :: sym :: part :: args) hks
  have hat := at_ev S.K (k :: sym :: part :: args)
  unfold term_Put.f tammyref03_Put.f
  rw [hmay]
  by_cases e : mayS l keys.length k sym part args = true
  · by_cases e2 : 0 ≤ atI (k :: sym :: part :: args) keys 0
    · have pe : putS keys (k :: sym :: part :: args) = (keys, layS keys, atI (k :: sym :: part :: args) keys 0, false) := by unfold putS; rw [if_pos e2]
      rw [pe] at hp hp2
      refine ⟨(keys, layS keys, atI (k :: sym :: part :: args) keys 0, 0), ?_, ?_, S.K, rfl, by show keys.length ≤ 2001; omega⟩
      · refine Ev.pure rfl (Ev.pos e ?_)
        exact Ev.pure (key_is k sym part (by omega)) (hp.bind (Ev.neg (fun h => by cases h) (Ev.now _)))
      · refine hmay2.bind (Ev.pos e ?_)
        exact Ev.pure (rkey_is k sym part (by omega)) (hat.bind (Ev.neg (by omega) (hp2.bind (Ev.now _))))
    · have pe : putS keys (k :: sym :: part :: args) = (keys ++ [k :: sym :: part :: args], layS (keys ++ [k :: sym :: part :: args]), (keys.length : Int), true) := by unfold putS; rw [if_neg e2]
      rw [pe] at hp hp2
      by_cases e3 : (keys.length : Int) ≥ limit
      · refine ⟨(keys, layS keys, 0, 7), ?_, ?_, S.K, rfl, by show keys.length ≤ 2001; omega⟩
        · refine Ev.pure rfl (Ev.pos e ?_)
          exact Ev.pure (key_is k sym part (by omega)) (hp.bind (Ev.pos rfl (Ev.pos e3 (Ev.now _))))
        · refine hmay2.bind (Ev.pos e ?_)
          exact Ev.pure (rkey_is k sym part (by omega)) (hat.bind (Ev.pos ⟨by omega, e3⟩ (Ev.now _)))
      · refine ⟨(keys ++ [k :: sym :: part :: args], layS (keys ++ [k :: sym :: part :: args]), (keys.length : Int), 0), ?_, ?_, S.K.snoc (by omega) hks, rfl, by simp; omega⟩
        · refine Ev.pure rfl (Ev.pos e ?_)
          exact Ev.pure (key_is k sym part (by omega)) (hp.bind (Ev.pos rfl (Ev.neg e3 (Ev.now _))))
        · refine hmay2.bind (Ev.pos e ?_)
          exact Ev.pure (rkey_is k sym part (by omega)) (hat.bind (Ev.neg (fun h => e3 h.2) (hp2.bind (Ev.now _))))
  · refine ⟨(keys, layS keys, 0, 1), ?_, ?_, S.K, rfl, by show keys.length ≤ 2001; omega⟩
    · exact Ev.pure rfl (Ev.neg e (Ev.now _))
    · exact hmay2.bind (Ev.neg e (Ev.now _))
theorem belows_ev {l : List S62} {keys : List (List Int)} {slots : List Int} (S : Store l keys) (id : Int) : ∃ r, Ev (fun q => term_Below.f q keys slots id) r ∧ Ev (fun q => tammyref03_Below.f q keys slots id) r ∧ Sh r := by
  by_cases h : id < 0 ∨ (keys.length : Int) ≤ id
  · exact ⟨[], tBelow_out h, rBelow_out h, by decide⟩
  · obtain ⟨n, rfl⟩ : ∃ n : Nat, id = n := ⟨id.toNat, by omega⟩
    have hn : n < keys.length := by omega
    have hlen := S.len
    obtain ⟨r, hr, hb⟩ := tBelow_ev (slots := slots) S hn
    refine ⟨r, hr, rBelow_ev S hn hb, ?_⟩
    have := nodup_le (n + 1) r (hb.sorted.imp (fun h => by omega)) (fun x hx => by
      obtain ⟨q, rfl, hq⟩ := (hb.mem x).1 hx
      have := reach_le S hn hq
      omega)
    unfold Sh; omega
theorem TermPuts_true (l : List S62) (keys : List (List Int)) (slots : List Int) (k sym part : Int) (args : List Int) (limit id : Int) (hl : l.length ≤ 9223372036854775807) (hs : ∀ x ∈ l, x.f1.size ≤ 9223372036854775807) (H : Keys keys) (hsl : Sh slots) (hk : (Lit.int .i64 k).wf = true) :
    ∃ q, tammylaw03_TermPuts.f q l keys slots k sym part args limit id = some true := by
  refine Ev.rounds (g := fun q => tammylaw03_TermPuts.f q l keys slots k sym part args limit id) ?_
  unfold tammylaw03_TermPuts.f
  refine shown_ev.bind ?_
  obtain ⟨b, hb, hst⟩ := of_ev l hl hs H hsl
  refine hb.bind (Ev.pos rfl ?_)
  by_cases e : b = true ∧ (args.length : Int) ≤ 100
  · obtain ⟨S, rfl⟩ := hst e.1
    refine Ev.pos e ?_
    obtain ⟨x, h1, h2, h3, h4, h5⟩ := puts_ev S k sym part hk (args := args) (by omega) limit
    obtain ⟨r, h6, h7, h8⟩ := belows_ev (slots := layS keys) S id
    have h9 := same_ev (slots := x.2.1) h3 (by rw [h4]; exact layS_sh (by omega))
    have h10 := ints_ev (b := r) h8
    rw [decide_eq_true rfl] at h10
    exact h1.bind (h2.bind (h9.bind (h6.bind (h7.bind (h10.bind (Ev.pos ⟨rfl, rfl, rfl, rfl⟩ (Ev.now _)))))))
  · exact Ev.neg e (Ev.now _)
end Go.Proofs.Ytiliknfmlmdmbaa.T
