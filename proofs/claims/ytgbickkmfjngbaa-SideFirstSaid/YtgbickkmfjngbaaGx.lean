/- A cell of a row of one's own stays where a row of another type is appended to. -/
import Derived.Test.YtgbickkmfjngbaaWWords
namespace Go.Proofs.YtgbickkmfjngbaaG.Words
open Go.RowKit Go.Proofs.YtgbickkmfjngbaaW.PrintWords
theorem add_blk (a : Addr) (i : Nat) : (a.add i).block = a.block := by unfold Addr.add; split <;> rfl
theorem Kd.cell_apart {α β : Type} {d : Kd α} {d' : Kd β} {e e' : TypeId} {W w1 : World} {base base' : Nat} {ok ok' : Nat → Prop} {v : Value} {xs : List α} {ys : List β} {ad : Addr} {n c i : Nat} {u : Value}
    (h : d.R e W base ok v xs) (h' : d'.R e' W base' ok' (.slice (some ad) n c) ys) (hne : e ≠ e') (hg : W.grownBy w1 v.ownBlock) (hc : W.cell? (ad.add i) = some u) : w1.cell? (ad.add i) = some u := by
  obtain ⟨inner, ho⟩ := Kd.R_own h'
  rcases ho.2 with ⟨hv, _⟩ | ⟨g, cap, cur, hv, hb, hh, r⟩
  · cases hv
  · injection hv with ha _ _
    injection ha with ha
    subst ha
    have hblk := hg.block g (by have := World.block_lt_of_cell? W _ hc; rwa [add_blk] at this) (fun he => by
      obtain ⟨cells, hcells⟩ := Kd.R_typed h g he.symm
      rw [hcells] at hh
      injection hh with hh
      injection hh with _ hh
      exact hne hh)
    have hb2 : w1.heap[((⟨g, 0, none⟩ : Addr).add i).block]? = W.heap[((⟨g, 0, none⟩ : Addr).add i).block]? := by rw [add_blk]; exact hblk
    have h2 : w1.cell? ((⟨g, 0, none⟩ : Addr).add i) = W.cell? ((⟨g, 0, none⟩ : Addr).add i) := by unfold World.cell?; rw [hb2]
    rw [h2]; exact hc
end Go.Proofs.YtgbickkmfjngbaaG.Words
