/- The text Aw. -/
import Derived.Test.YtkdhdhkfkgjcnaaDoorKfBlockRoundTrip
namespace Go.Proofs.YtkdhdhkfkgjcnaaDoor.PBlockRoundTrip
open Go.RowKit Go.Proofs.YtkdhdhkfkgjcnaaDoorW.PrintWords Go.Proofs.YtkdhdhkfkgjcnaaDoorW.PrintMore
set_option linter.unusedSimpArgs false
set_option linter.unusedVariables false

theorem run_mkT : ∀ W : World, (Instr.makeSlice 30 (.int .i64 1) (.int .i64 1)).run Tryd.prog W = .ok (.slice (some ⟨W.heap.size, 0, none⟩) 1 1) (W.alloc (.cells #[.int .i32 0, .bool false, .int .u8 0] 55)) := fun _ => by kernel_rfl

theorem run_mk7 : ∀ W : World, (Instr.makeSlice 22 (.int .i64 7) (.int .i64 7)).run Tryd.prog W = .ok (.slice (some ⟨W.heap.size, 0, none⟩) 7 7) (W.alloc (.cells #[.int .u8 0, .int .u8 0, .int .u8 0, .int .u8 0, .int .u8 0, .int .u8 0, .int .u8 0] 5)) := fun _ => by kernel_rfl
def slV (g : Nat) : BV := ⟨none, 0, none, 0, some ⟨g, 0, none⟩, 1, some ⟨g + 1, 0, none⟩, 1, none, 0, none, 0, none, 0⟩
theorem sl_C (w : World) (o : Obj) : BlkC (((w.alloc (.cells #[.int .i32 0, .bool false, .int .u8 0] 55)).alloc (.cells #[.int .u8 0] 5)).alloc o) (slV w.heap.size) slB := by
  have h0 := blk_alloc (blk_alloc (blk_new w (.cells #[.int .i32 0, .bool false, .int .u8 0] 55)) (.cells #[.int .u8 0] 5)) o
  have h1 := blk_alloc (blk_new (w.alloc (.cells #[.int .i32 0, .bool false, .int .u8 0] 55)) (.cells #[.int .u8 0] 5)) o
  rw [World.size_alloc] at h1
  exact ⟨Kd.C_nil _ _, Kd.C_nil _ _, C_types1 ⟨0, false, 0⟩ h0, C_ints [0] h1 (by simp), Kd.C_nil _ _, Kd.C_nil _ _, Kd.C_nil _ _, Nat.le_refl _, Nat.le_refl _, Nat.le_refl _, Nat.le_refl _, Nat.le_refl _, Nat.le_refl _, Nat.le_refl _⟩
def xV (g : Nat) : BV := ⟨some ⟨g, 0, none⟩, 1, some ⟨g + 1, 0, none⟩, 1, some ⟨g + 1 + 1, 0, none⟩, 2, some ⟨g + 1 + 1 + 1, 0, none⟩, 2, none, 0, some ⟨g + 1 + 1 + 1 + 1, 0, none⟩, 2, none, 0⟩
theorem x_C (w : World) (o : Obj) : BlkC ((((((w.alloc (.cells #[.int .i64 (-1)] 2)).alloc (.cells #[.int .u8 1] 5)).alloc (.cells #[.int .i32 0, .bool false, .int .u8 0, .int .i32 60, .bool true, .int .u8 1] 55)).alloc (.cells #[.int .u8 0, .int .u8 0] 5)).alloc (.cells #[.bool false, .bool true] 4)).alloc o) (xV w.heap.size) xB := by
  have h0 := blk_new w (.cells #[.int .i64 (-1)] 2)
  have h1 := blk_new (w.alloc (.cells #[.int .i64 (-1)] 2)) (.cells #[.int .u8 1] 5)
  have h2 := blk_new ((w.alloc (.cells #[.int .i64 (-1)] 2)).alloc (.cells #[.int .u8 1] 5)) (.cells #[.int .i32 0, .bool false, .int .u8 0, .int .i32 60, .bool true, .int .u8 1] 55)
  have h3 := blk_new (((w.alloc (.cells #[.int .i64 (-1)] 2)).alloc (.cells #[.int .u8 1] 5)).alloc (.cells #[.int .i32 0, .bool false, .int .u8 0, .int .i32 60, .bool true, .int .u8 1] 55)) (.cells #[.int .u8 0, .int .u8 0] 5)
  have h4 := blk_new ((((w.alloc (.cells #[.int .i64 (-1)] 2)).alloc (.cells #[.int .u8 1] 5)).alloc (.cells #[.int .i32 0, .bool false, .int .u8 0, .int .i32 60, .bool true, .int .u8 1] 55)).alloc (.cells #[.int .u8 0, .int .u8 0] 5)) (.cells #[.bool false, .bool true] 4)
  simp only [World.size_alloc] at h1 h2 h3 h4
  exact ⟨C_ints [-1] (blk_alloc (blk_alloc (blk_alloc (blk_alloc (blk_alloc h0 _) _) _) _) _) (by simp), C_ints [1] (blk_alloc (blk_alloc (blk_alloc (blk_alloc h1 _) _) _) _) (by simp), C_types2 ⟨0, false, 0⟩ ⟨60, true, 1⟩ (blk_alloc (blk_alloc (blk_alloc h2 _) _) _), C_ints [0, 0] (blk_alloc (blk_alloc h3 _) _) (by simp), Kd.C_nil _ _, C_bools [false, true] (blk_alloc h4 _) (by simp), Kd.C_nil _ _,
    Nat.le_refl _, Nat.le_refl _, Nat.le_refl _, Nat.le_refl _, Nat.le_refl _, Nat.le_refl _, Nat.le_refl _⟩

theorem LB.allx {w : World} {g g' : Nat} (h : LB w g (xV g') xB) : w.cell? ⟨g, 0, none⟩ = some (.slice (some ⟨g', 0, none⟩) 1 1) ∧ w.cell? ⟨g, 1, none⟩ = some (.slice (some ⟨g' + 1, 0, none⟩) 1 1) ∧ w.cell? ⟨g, 2, none⟩ = some (.slice (some ⟨g' + 1 + 1, 0, none⟩) 2 2) ∧ w.cell? ⟨g, 3, none⟩ = some (.slice (some ⟨g' + 1 + 1 + 1, 0, none⟩) 2 2) ∧ w.cell? ⟨g, 4, none⟩ = some (.slice none 0 0) ∧ w.cell? ⟨g, 5, none⟩ = some (.slice (some ⟨g' + 1 + 1 + 1 + 1, 0, none⟩) 2 2) ∧ w.cell? ⟨g, 6, none⟩ = some (.slice none 0 0) := h.all
theorem LB.allsl {w : World} {g g' : Nat} (h : LB w g (slV g') slB) : w.cell? ⟨g, 0, none⟩ = some (.slice none 0 0) ∧ w.cell? ⟨g, 1, none⟩ = some (.slice none 0 0) ∧ w.cell? ⟨g, 2, none⟩ = some (.slice (some ⟨g', 0, none⟩) 1 1) ∧ w.cell? ⟨g, 3, none⟩ = some (.slice (some ⟨g' + 1, 0, none⟩) 1 1) ∧ w.cell? ⟨g, 4, none⟩ = some (.slice none 0 0) ∧ w.cell? ⟨g, 5, none⟩ = some (.slice none 0 0) ∧ w.cell? ⟨g, 6, none⟩ = some (.slice none 0 0) := h.all
theorem LB.ally {w : World} {g : Nat} {y : BV} (h : LB w g y xB) : w.cell? ⟨g, 0, none⟩ = some (.slice y.A0 1 y.c0) ∧ w.cell? ⟨g, 1, none⟩ = some (.slice y.A1 1 y.c1) ∧ w.cell? ⟨g, 2, none⟩ = some (.slice y.A2 2 y.c2) ∧ w.cell? ⟨g, 3, none⟩ = some (.slice y.A3 2 y.c3) ∧ w.cell? ⟨g, 4, none⟩ = some (.slice y.A4 0 y.c4) ∧ w.cell? ⟨g, 5, none⟩ = some (.slice y.A5 2 y.c5) ∧ w.cell? ⟨g, 6, none⟩ = some (.slice y.A6 0 y.c6) := h.all
theorem LB.allz {w : World} {g : Nat} {y : BV} (h : LB w g y zB) : w.cell? ⟨g, 0, none⟩ = some (.slice y.A0 0 y.c0) ∧ w.cell? ⟨g, 1, none⟩ = some (.slice y.A1 0 y.c1) ∧ w.cell? ⟨g, 2, none⟩ = some (.slice y.A2 0 y.c2) ∧ w.cell? ⟨g, 3, none⟩ = some (.slice y.A3 0 y.c3) ∧ w.cell? ⟨g, 4, none⟩ = some (.slice y.A4 0 y.c4) ∧ w.cell? ⟨g, 5, none⟩ = some (.slice y.A5 0 y.c5) ∧ w.cell? ⟨g, 6, none⟩ = some (.slice y.A6 0 y.c6) := h.all
theorem LH.allx {w : World} {g : Nat} (h : LH w g 2 0 2 0 1 2 2) : w.cell? ⟨g, 0, none⟩ = some (.int .i64 2) ∧ w.cell? ⟨g, 1, none⟩ = some (.int .u32 0) ∧ w.cell? ⟨g, 2, none⟩ = some (.int .u32 2) ∧ w.cell? ⟨g, 3, none⟩ = some (.int .u32 0) ∧ w.cell? ⟨g, 4, none⟩ = some (.int .u32 1) ∧ w.cell? ⟨g, 5, none⟩ = some (.int .u32 2) ∧ w.cell? ⟨g, 6, none⟩ = some (.int .u32 2) := h.all
/-- What holds in awake behind its first three calls. -/
structure AS (w W : World) (g0 g1 g2 g3 gh : Nat) (Ae : Option Addr) (ce : Nat) (Af : Option Addr) (cf : Nat) : Prop where
  x : BlkC W (xV g2) xB
  lx : LB W g3 (xV g2) xB
  s : BlkC W (slV g0) slB
  ls : LB W g1 (slV g0) slB
  e : 7 ≤ ce ∧ Kd.C (Kd.int .u8) W Ae 7 (List.replicate 7 0)
  f : 21 ≤ cf ∧ Kd.C (Kd.int .u8) W Af 21 fB
  b : Below w.heap.size w W
  g : Gl W
  h : LH W gh 2 0 2 0 1 2 2
section
variable {w W W' : World} {g0 g1 g2 g3 gh ce cf : Nat} {Ae Af : Option Addr}
theorem AS.below (h : AS w W g0 g1 g2 g3 gh Ae ce Af cf) (hb : Below W.heap.size W W') : AS w W' g0 g1 g2 g3 gh Ae ce Af cf :=
  ⟨h.x.below hb, h.lx.below hb, h.s.below hb, h.ls.below hb, ⟨h.e.1, Kd.C_below h.e.2 hb⟩, ⟨h.f.1, Kd.C_below h.f.2 hb⟩, h.b.trans (hb.mono h.b.size), h.g.below hb, h.h.below hb⟩
theorem AS.drew (h : AS w W g0 g1 g2 g3 gh Ae ce Af cf) : AS w W.drew g0 g1 g2 g3 gh Ae ce Af cf := h.below (Below.refl _ W).drew
theorem AS.drewN (h : AS w W g0 g1 g2 g3 gh Ae ce Af cf) (k : Nat) : AS w (W.drewN k) g0 g1 g2 g3 gh Ae ce Af cf := h.below (pw_below_drewN (Below.refl _ W) k)
theorem AS.alloc (h : AS w W g0 g1 g2 g3 gh Ae ce Af cf) (o : Obj) : AS w (W.alloc o) g0 g1 g2 g3 gh Ae ce Af cf := h.below (below_alloc (Below.refl _ W) o)
end
theorem enc_slim (g : Nat) (W : World) (h : BlkC W (slV g) slB) :
    Calls Tryd.prog 21 #[.agg #[.slice none 0 0, .slice none 0 0, .slice (some ⟨g, 0, none⟩) 1 1, .slice (some ⟨g + 1, 0, none⟩) 1 1, .slice none 0 0, .slice none 0 0, .slice none 0 0], .int .i64 8] W fun e w' => ∃ A c, e = .returned (.slice A 7 c) ∧ Aside0 (7 ≤ c ∧ Kd.C (Kd.int .u8) w' A 7 (List.replicate 7 0)) ∧ Below W.heap.size W w' := by
  refine (Encode_c (slV g) slB 8 (by omega) W h sl_sw.sm).mono ?_
  rintro e w' ⟨A, c, rfl, hr, hb⟩
  rw [enc_sl] at hr
  exact ⟨A, c, by rw [enc_sl]; rfl, ⟨(R_le hr).2, (R_le hr).1⟩, hb⟩
theorem enc_xx (g : Nat) (W : World) (h : BlkC W (xV g) xB) :
    Calls Tryd.prog 21 #[.agg #[.slice (some ⟨g, 0, none⟩) 1 1, .slice (some ⟨g + 1, 0, none⟩) 1 1, .slice (some ⟨g + 1 + 1, 0, none⟩) 2 2, .slice (some ⟨g + 1 + 1 + 1, 0, none⟩) 2 2, .slice none 0 0, .slice (some ⟨g + 1 + 1 + 1 + 1, 0, none⟩) 2 2, .slice none 0 0], .int .i64 4] W fun e w' => ∃ A c, e = .returned (.slice A 21 c) ∧ Aside0 (21 ≤ c ∧ Kd.C (Kd.int .u8) w' A 21 fB) ∧ Below W.heap.size W w' := by
  refine (Encode_c (xV g) xB 4 (by omega) W h x_sw.sm).mono ?_
  rintro e w' ⟨A, c, rfl, hr, hb⟩
  rw [enc_x] at hr
  exact ⟨A, c, by rw [enc_x]; rfl, ⟨(R_le hr).2, (R_le hr).1⟩, hb⟩
theorem hdr_x (g : Nat) (W : World) (h : BlkC W (xV g) xB) :
    Calls Tryd.prog 16 #[.agg #[.slice (some ⟨g, 0, none⟩) 1 1, .slice (some ⟨g + 1, 0, none⟩) 1 1, .slice (some ⟨g + 1 + 1, 0, none⟩) 2 2, .slice (some ⟨g + 1 + 1 + 1, 0, none⟩) 2 2, .slice none 0 0, .slice (some ⟨g + 1 + 1 + 1 + 1, 0, none⟩) 2 2, .slice none 0 0], .int .i64 2] W fun e w' => e = .returned (.agg #[.int .i64 2, .int .u32 0, .int .u32 2, .int .u32 0, .int .u32 1, .int .u32 2, .int .u32 2]) ∧ Below W.heap.size W w' :=
  Header_c (xV g) xB 2 W h x_sw
theorem dec_fc (A : Option Addr) (c : Nat) (W : World) (h : 21 ≤ c ∧ Kd.C (Kd.int .u8) W A 21 fB) (hG : Gl W) :
    Calls Tryd.prog 12 #[.agg #[.slice A 21 c, .int .i64 0, .int .i64 0, .int .i64 0], .agg #[.int .i64 2, .int .u32 0, .int .u32 2, .int .u32 0, .int .u32 1, .int .u32 2, .int .u32 2], .int .i64 4, .int .i64 7] W fun e w' =>
      ∃ y : BV, e = .returned (.tuple #[.agg #[.slice y.A0 1 y.c0, .slice y.A1 1 y.c1, .slice y.A2 2 y.c2, .slice y.A3 2 y.c3, .slice y.A4 0 y.c4, .slice y.A5 2 y.c5, .slice y.A6 0 y.c6], .agg #[.slice A 21 c, .int .i64 21, .int .i64 0, .int .i64 0]]) ∧ Aside0 (BlkR W.heap.size w' y xB) ∧ Below W.heap.size W w' := by
  refine (Decode_c A c fB 0 0 2 0 2 0 1 2 2 7 4 (.inl rfl) W h.2 h.1 byt_f hG hd_x (by omega) (by decide +kernel) (by decide +kernel)).mono ?_
  rintro e w' ⟨y, b, q, er, u, rfl, hd, hr, hb⟩
  obtain ⟨rfl, rfl, rfl, rfl⟩ := dec_f hd.out
  exact ⟨y, rfl, hr, hb⟩
theorem dec_cc (A : Option Addr) (c : Nat) (W : World) (h : 21 ≤ c ∧ Kd.C (Kd.int .u8) W A 21 fB) (hG : Gl W) :
    Calls Tryd.prog 12 #[.agg #[.slice A 20 c, .int .i64 0, .int .i64 0, .int .i64 0], .agg #[.int .i64 2, .int .u32 0, .int .u32 2, .int .u32 0, .int .u32 1, .int .u32 2, .int .u32 2], .int .i64 4, .int .i64 7] W fun e w' =>
      ∃ y : BV, e = .returned (.tuple #[.agg #[.slice y.A0 0 y.c0, .slice y.A1 0 y.c1, .slice y.A2 0 y.c2, .slice y.A3 0 y.c3, .slice y.A4 0 y.c4, .slice y.A5 0 y.c5, .slice y.A6 0 y.c6], .agg #[.slice A 20 c, .int .i64 0, .int .i64 1, .int .i64 20]]) ∧ Aside0 (BlkR W.heap.size w' y zB) ∧ Below W.heap.size W w' := by
  have hc : Kd.C (Kd.int .u8) W A (fB.take 20).length (fB.take 20) := by
    have h2 := C_cut (d := Kd.int .u8) (w := W) (A := A) (xs := fB) h.2 0 20 20 (by omega) (by decide) (by omega)
    have h3 : Kd.C (Kd.int .u8) W A 20 (fB.take 20) := by simpa [Addr.add] using h2
    exact h3
  refine (Decode_c A c (fB.take 20) 0 0 2 0 2 0 1 2 2 7 4 (.inl rfl) W hc (by have := h.1; show 20 ≤ c; omega) (byt_f.take 20) hG hd_x (by omega) (by decide +kernel) (by decide +kernel)).mono ?_
  rintro e w' ⟨y, b, q, er, u, rfl, hd, hr, hb⟩
  obtain ⟨rfl, rfl, rfl, rfl⟩ := dec_cut hd.out
  exact ⟨y, rfl, hr, hb⟩
theorem dec_bc (A : Option Addr) (c : Nat) (W : World) (hlc : 21 ≤ c) (h : Kd.C (Kd.int .u8) W A 21 (fB.set 20 2)) (hG : Gl W) :
    Calls Tryd.prog 12 #[.agg #[.slice A 21 c, .int .i64 0, .int .i64 0, .int .i64 0], .agg #[.int .i64 2, .int .u32 0, .int .u32 2, .int .u32 0, .int .u32 1, .int .u32 2, .int .u32 2], .int .i64 4, .int .i64 7] W fun e w' =>
      ∃ y : BV, e = .returned (.tuple #[.agg #[.slice y.A0 0 y.c0, .slice y.A1 0 y.c1, .slice y.A2 0 y.c2, .slice y.A3 0 y.c3, .slice y.A4 0 y.c4, .slice y.A5 0 y.c5, .slice y.A6 0 y.c6], .agg #[.slice A 21 c, .int .i64 21, .int .i64 10, .int .i64 7]]) ∧ Aside0 (BlkR W.heap.size w' y zB) ∧ Below W.heap.size W w' := by
  refine (Decode_c A c (fB.set 20 2) 0 0 2 0 2 0 1 2 2 7 4 (.inl rfl) W h hlc (by unfold Byt; decide +kernel) hG hd_x (by omega) (by decide +kernel) (by decide +kernel)).mono ?_
  rintro e w' ⟨y, b, q, er, u, rfl, hd, hr, hb⟩
  obtain ⟨rfl, rfl, rfl, rfl⟩ := dec_bad hd.out
  exact ⟨y, rfl, hr, hb⟩
theorem same_e (A A' : Option Addr) (c c' : Nat) (W : World) (h : Kd.C (Kd.int .u8) W A 7 (List.replicate 7 0)) (hc : 7 ≤ c) (h' : Kd.C (Kd.int .u8) W A' 7 (List.replicate 7 0)) (hc' : 7 ≤ c') :
    Calls Tryd.prog 20 #[.slice A 7 c, .slice A' 7 c'] W fun e w' => e = .returned (.bool true) ∧ Drawn0 W w' :=
  zoneinforef01_Same.calls 8 A c (List.replicate 7 0) A' c' (List.replicate 7 0) true W h hc h' hc' (by rw [zoneinforef01_Same_e _ _ (by simp) 8 (by simp), eqB_true rfl])
theorem req_xy (g : Nat) (y : BV) (W : World) (h : BlkC W (xV g) xB) (h' : BlkC W y xB) :
    Calls Tryd.prog 14 #[.agg #[.slice (some ⟨g, 0, none⟩) 1 1, .slice (some ⟨g + 1, 0, none⟩) 1 1, .slice (some ⟨g + 1 + 1, 0, none⟩) 2 2, .slice (some ⟨g + 1 + 1 + 1, 0, none⟩) 2 2, .slice none 0 0, .slice (some ⟨g + 1 + 1 + 1 + 1, 0, none⟩) 2 2, .slice none 0 0], .agg #[.slice y.A0 1 y.c0, .slice y.A1 1 y.c1, .slice y.A2 2 y.c2, .slice y.A3 2 y.c3, .slice y.A4 0 y.c4, .slice y.A5 2 y.c5, .slice y.A6 0 y.c6]] W fun e w' => e = .returned (.bool true) ∧ Below W.heap.size W w' := by
  have h2 := REqual_c (xV g) y xB xB W h h' x_sw.sm
  rw [eqB_true rfl] at h2
  exact h2
theorem eq_xy (g : Nat) (y : BV) (W : World) (h : BlkC W (xV g) xB) (h' : BlkC W y xB) :
    Calls Tryd.prog 18 #[.agg #[.slice (some ⟨g, 0, none⟩) 1 1, .slice (some ⟨g + 1, 0, none⟩) 1 1, .slice (some ⟨g + 1 + 1, 0, none⟩) 2 2, .slice (some ⟨g + 1 + 1 + 1, 0, none⟩) 2 2, .slice none 0 0, .slice (some ⟨g + 1 + 1 + 1 + 1, 0, none⟩) 2 2, .slice none 0 0], .agg #[.slice y.A0 1 y.c0, .slice y.A1 1 y.c1, .slice y.A2 2 y.c2, .slice y.A3 2 y.c3, .slice y.A4 0 y.c4, .slice y.A5 2 y.c5, .slice y.A6 0 y.c6]] W fun e w' => e = .returned (.bool true) ∧ Below W.heap.size W w' := by
  have h2 := Equal_c (xV g) y xB xB W h h' x_sw.sm
  rw [eqB_true rfl] at h2
  exact h2
theorem eq_xs (g g' : Nat) (W : World) (h : BlkC W (xV g) xB) (h' : BlkC W (slV g') slB) :
    Calls Tryd.prog 18 #[.agg #[.slice (some ⟨g, 0, none⟩) 1 1, .slice (some ⟨g + 1, 0, none⟩) 1 1, .slice (some ⟨g + 1 + 1, 0, none⟩) 2 2, .slice (some ⟨g + 1 + 1 + 1, 0, none⟩) 2 2, .slice none 0 0, .slice (some ⟨g + 1 + 1 + 1 + 1, 0, none⟩) 2 2, .slice none 0 0], .agg #[.slice none 0 0, .slice none 0 0, .slice (some ⟨g', 0, none⟩) 1 1, .slice (some ⟨g' + 1, 0, none⟩) 1 1, .slice none 0 0, .slice none 0 0, .slice none 0 0]] W fun e w' => e = .returned (.bool false) ∧ Below W.heap.size W w' := by
  have h2 := Equal_c (xV g) (slV g') xB slB W h h' x_sw.sm
  rw [x_ne] at h2
  exact h2
end Go.Proofs.YtkdhdhkfkgjcnaaDoor.PBlockRoundTrip
