/- The text Dl. -/
import Derived.Test.YtkdhdhkfkgjcnaaDoorKPdBlockRoundTrip
import Derived.Test.YtkdhdhkfkgjcnaaDoorKfBlockRoundTrip
import Derived.ChangeSame
namespace Go.Proofs.YtkdhdhkfkgjcnaaDoor.PBlockRoundTrip
open Go.RowKit Go.Proofs.YtkdhdhkfkgjcnaaDoorW.PrintWords Go.Proofs.YtkdhdhkfkgjcnaaDoorW.PrintMore
set_option linter.unusedSimpArgs false
set_option linter.unusedVariables false

/-- Bytes lie in a row, whatever they are; the row may be written; its block is of base or behind. -/
structure Wr (base : Nat) (w : World) (A : Option Addr) (n : Nat) : Prop where
  c : 0 < n → ∃ g o : Nat, A = some ⟨g, o, none⟩ ∧ base ≤ g ∧ (∃ cs, w.heap[g]? = some (.cells cs 5 (0, 0))) ∧ ∀ j, j < n → ∃ x : Int, w.cell? ⟨g, o + j, none⟩ = some (.int .u8 x)
theorem Wr.below {base : Nat} {w w' : World} {A : Option Addr} {n : Nat} (h : Wr base w A n) (hb : Below w.heap.size w w') : Wr base w' A n :=
  ⟨fun hn => by
    obtain ⟨g, o, e, h1, ⟨cs, h2⟩, h3⟩ := h.c hn
    refine ⟨g, o, e, h1, ⟨cs, blk_below h2 hb⟩, fun j hj => ?_⟩
    obtain ⟨x, hx⟩ := h3 j hj
    exact ⟨x, pw_cell_below hb hx⟩⟩
theorem Wr.set {base : Nat} {w : World} {A : Option Addr} {n : Nat} (h : Wr base w A n) (g' k : Nat) (v : Int) : Wr base (w.setCell ⟨g', k, none⟩ (.int .u8 v)) A n :=
  ⟨fun hn => by
    obtain ⟨g, o, e, h1, ⟨cs, h2⟩, h3⟩ := h.c hn
    refine ⟨g, o, e, h1, ?_, fun j hj => ?_⟩
    · by_cases hp : g = g'
      · subst hp
        exact ⟨_, blk_set h2 k _⟩
      · exact ⟨cs, blk_farN h2 hp _⟩
    · obtain ⟨x, hx⟩ := h3 j hj
      by_cases hp : (⟨g', k, none⟩ : Addr) = ⟨g, o + j, none⟩
      · rw [hp]
        exact ⟨v, World.cell?_setCell_same _ _ _ hx⟩
      · exact ⟨x, by rw [World.cell?_setCell_other _ _ _ _ hp]; exact hx⟩⟩
theorem Wr.of {base : Nat} {w : World} {D A : Option Addr} {cd : Nat} {d xs : List Int} {lo : Int} (hD : Kd.R (Kd.int .u8) 5 w base (fun _ => True) (.slice D d.length cd) d) (hp : PartOf D lo A) (hC : Kd.C (Kd.int .u8) w A xs.length xs) : Wr base w A xs.length :=
  ⟨fun hn => by
    obtain ⟨ad, rfl, hcell⟩ := hC.2.2 hn
    have hc : ∀ j, j < xs.length → ∃ x : Int, w.cell? (ad.add j) = some (.int .u8 x) := by
      intro j hj
      obtain ⟨c, hl, hK, hcc⟩ := hcell j xs[j] (List.getElem?_eq_getElem hj)
      obtain rfl : c = [Value.int .u8 xs[j]] := hK
      have := hcc 0 _ rfl
      rw [show (Kd.int .u8).sz = 1 from rfl, Nat.mul_one, Nat.add_zero] at this
      exact ⟨_, this⟩
    have key : ∀ x, D = some x → base ≤ x.block ∧ ∃ cs, w.heap[x.block]? = some (.cells cs 5 (0, 0)) := by
      intro x hx
      subst hx
      have hb1 := (Kd.R_bound hD).1 x.block rfl
      obtain ⟨-, h2, -, q, hq, cs, h4⟩ := hb1
      have : q = 5 := by
        rcases List.mem_cons.1 hq with rfl | hq
        · rfl
        · cases hq
      subst this
      exact ⟨h2, cs, h4⟩
    have hblk : base ≤ ad.block ∧ ∃ cs, w.heap[ad.block]? = some (.cells cs 5 (0, 0)) := by
      rcases hp with h1 | h1
      · exact key ad h1.symm
      · rcases D with _ | x
        · cases h1
        · have h2 := Option.some.inj h1
          rw [h2, add_blk]
          exact key x rfl
    obtain ⟨x0, hx0⟩ := hc 0 hn
    obtain ⟨g, o, sp⟩ := ad
    have hsp : sp = none := by simpa [Addr.add] using World.cell?_spot hx0
    subst hsp
    refine ⟨g, o, rfl, hblk.1, hblk.2, fun j hj => ?_⟩
    obtain ⟨x, hx⟩ := hc j hj
    refine ⟨x, ?_⟩
    rw [← hx]
    congr 1
    unfold Addr.add
    split <;> simp_all⟩
end Go.Proofs.YtkdhdhkfkgjcnaaDoor.PBlockRoundTrip
