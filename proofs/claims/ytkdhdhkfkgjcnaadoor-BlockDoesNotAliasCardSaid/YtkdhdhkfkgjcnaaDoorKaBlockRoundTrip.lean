/- The texts H1 H2 H3 H4 H5. -/
import Derived.Test.YtkdhdhkfkgjcnaaDoorPBlockRoundTripx
import Derived.Outline
import Derived.RegionTactic
import Derived.Laws.MathBits
import Derived.Laws.Bits64
import Derived.Laws.Externs
import Derived.WalkMore
import Derived.Deep.LoopGhost

section
namespace Go.Proofs.YtkdhdhkfkgjcnaaDoor.PBlockRoundTrip
open Go.RowKit Go.Proofs.YtkdhdhkfkgjcnaaDoorW.PrintWords

/-- The counts of a header fit 32 bits. -/
structure Hd (a1 a2 a3 a4 a5 a6 : Int) : Prop where
  l1 : 0 ≤ a1
  u1 : a1 ≤ 4294967295
  l2 : 0 ≤ a2
  u2 : a2 ≤ 4294967295
  l3 : 0 ≤ a3
  u3 : a3 ≤ 4294967295
  l4 : 0 ≤ a4
  u4 : a4 ≤ 4294967295
  l5 : 0 ≤ a5
  u5 : a5 ≤ 4294967295
  l6 : 0 ≤ a6
  u6 : a6 ≤ 4294967295

theorem parts_c (v a1 a2 a3 a4 a5 a6 s : Int) (w : World) (h : Hd a1 a2 a3 a4 a5 a6) (hs : 4 ≤ s) (hs' : s ≤ 8) :
    Calls Tryd.prog 62 #[.agg #[.int .i64 v, .int .u32 a1, .int .u32 a2, .int .u32 a3, .int .u32 a4, .int .u32 a5, .int .u32 a6], .int .i64 s] w fun e w' =>
      e = .returned (.tuple #[.agg #[.int .u64 a4, .int .u64 a4, .int .u64 a5, .int .u64 a6, .int .u64 a3, .int .u64 a2, .int .u64 a1], .agg #[.int .u64 s, .int .u64 1, .int .u64 6, .int .u64 1, .int .u64 (s + 4), .int .u64 1, .int .u64 1]]) ∧ Below w.heap.size w w' := by
  obtain ⟨h1, h1', h2, h2', h3, h3', h4, h4', h5, h5', h6, h6'⟩ := h
  go_enter Tryd.func62, Tryd.ntmps62
  go_wp2
  refine bodyPost_ret (v := .tuple #[.agg #[.int .u64 a4, .int .u64 a4, .int .u64 a5, .int .u64 a6, .int .u64 a3, .int .u64 a2, .int .u64 a1], .agg #[.int .u64 s, .int .u64 1, .int .u64 6, .int .u64 1, .int .u64 (s + 4), .int .u64 1, .int .u64 1]]) (by simp [results, Tryd.results62, go_sem]) rfl ⟨rfl, ?_⟩
  exact (((Below.refl _ _).alloc (by simp) _).alloc (by simp) _).alloc (by simp; omega) _

theorem mul_bd (a b c d : Int) (h0 : 0 ≤ a) (h1 : a ≤ c) (h2 : 0 ≤ b) (h3 : b ≤ d) : 0 ≤ a * b ∧ a * b ≤ c * d :=
  ⟨Int.mul_nonneg h0 h2, Int.mul_le_mul h1 h3 h2 (by omega)⟩

set_option maxHeartbeats 1000000 in
theorem Lengths_c (v a1 a2 a3 a4 a5 a6 s : Int) (w : World) (h : Hd a1 a2 a3 a4 a5 a6) (hs : 4 ≤ s) (hs' : s ≤ 8) :
    Calls Tryd.prog 65 #[.agg #[.int .i64 v, .int .u32 a1, .int .u32 a2, .int .u32 a3, .int .u32 a4, .int .u32 a5, .int .u32 a6], .int .i64 s] w fun e w' =>
      e = .returned (.agg #[.int .u64 (a4 * s), .int .u64 a4, .int .u64 (a5 * 6), .int .u64 a6, .int .u64 (a3 * (s + 4)), .int .u64 a2, .int .u64 a1]) ∧ Below w.heap.size w w' := by
  have hp := parts_c v a1 a2 a3 a4 a5 a6 s (w := (w.alloc (.cells #[.int .i64 v, .int .u32 a1, .int .u32 a2, .int .u32 a3, .int .u32 a4, .int .u32 a5, .int .u32 a6] 28)).alloc (.cells #[.int .u64 0, .int .u64 0, .int .u64 0, .int .u64 0, .int .u64 0, .int .u64 0, .int .u64 0] 71)) h hs hs'
  obtain ⟨h1, h1', h2, h2', h3, h3', h4, h4', h5, h5', h6, h6'⟩ := h
  obtain ⟨m1, m1'⟩ := mul_bd a4 s 4294967295 8 h4 h4' (by omega) hs'
  obtain ⟨m2, m2'⟩ := mul_bd a3 (s + 4) 4294967295 12 h3 h3' (by omega) (by omega)
  have HP := Aside0.mk hp
  clear hp
  go_enter Tryd.func65, Tryd.ntmps65
  go_wp2_with (fail)
  refine HP.out.mono ?_
  rintro e w' ⟨rfl, hb⟩
  have hc := fun j => hb.cell (p := ⟨w.heap.size + 1, j, none⟩) (by simp)
  have hf := fun j => hb.frozen (p := ⟨w.heap.size + 1, j, none⟩) (by simp)
  have hz : w.heap.size + 1 < w'.heap.size := by have := hb.size; simp at this; omega
  have hz2 : w.heap.size < w'.heap.size := by omega
  have HB := Aside0.mk hb
  clear hb HP
  go_wp2
  refine wp_loop_rounds 8 ?_
  iterate 7 (rw [rounds_succ]; go_wp2; go_region; go_wp2)
  rw [rounds_succ]
  go_wp2
  refine bodyPost_ret (v := .agg #[.int .u64 (a4 * s), .int .u64 a4, .int .u64 (a5 * 6), .int .u64 a6, .int .u64 (a3 * (s + 4)), .int .u64 a2, .int .u64 a1]) (by simp [results, Tryd.results65, go_sem, hc, hz, hz2]) rfl ⟨rfl, ?_⟩
  have hb1 := (((Below.refl w.heap.size w).alloc (Nat.le_refl _) _).alloc (by simp <;> omega) _).trans (HB.out.mono (by simp <;> omega))
  repeat (first | (with_reducible exact hb1) | (with_reducible refine Below.drew ?_) | (with_reducible refine Below.setCell ?_ (by simp <;> omega) _) | (with_reducible refine Below.alloc ?_ (by simp <;> omega) _))

end Go.Proofs.YtkdhdhkfkgjcnaaDoor.PBlockRoundTrip
end

section
namespace Go.Proofs.YtkdhdhkfkgjcnaaDoor.PBlockRoundTrip
open Go.RowKit Go.Proofs.YtkdhdhkfkgjcnaaDoorW.PrintWords

set_option maxRecDepth 20000 in
set_option maxHeartbeats 1000000 in
theorem Offsets_c (v a1 a2 a3 a4 a5 a6 s : Int) (w : World) (h : Hd a1 a2 a3 a4 a5 a6) (hs : 4 ≤ s) (hs' : s ≤ 8) :
    Calls Tryd.prog 29 #[.agg #[.int .i64 v, .int .u32 a1, .int .u32 a2, .int .u32 a3, .int .u32 a4, .int .u32 a5, .int .u32 a6], .int .i64 s] w fun e w' =>
      e = .returned (.agg #[.int .u64 0, .int .u64 (a4 * s), .int .u64 (a4 * s + a4), .int .u64 (a4 * s + a4 + a5 * 6), .int .u64 (a4 * s + a4 + a5 * 6 + a6), .int .u64 (a4 * s + a4 + a5 * 6 + a6 + a3 * (s + 4)), .int .u64 (a4 * s + a4 + a5 * 6 + a6 + a3 * (s + 4) + a2), .int .u64 (a4 * s + a4 + a5 * 6 + a6 + a3 * (s + 4) + a2 + a1)]) ∧ Below w.heap.size w w' := by
  have hp := fun W => Lengths_c v a1 a2 a3 a4 a5 a6 s (w := W) h hs hs'
  obtain ⟨h1, h1', h2, h2', h3, h3', h4, h4', h5, h5', h6, h6'⟩ := h
  obtain ⟨m1, m1'⟩ := mul_bd a4 s 4294967295 8 h4 h4' (by omega) hs'
  obtain ⟨m2, m2'⟩ := mul_bd a3 (s + 4) 4294967295 12 h3 h3' (by omega) (by omega)
  obtain ⟨q1, hq1⟩ : ∃ q, a4 * s = q := ⟨_, rfl⟩
  obtain ⟨q2, hq2⟩ : ∃ q, a3 * (s + 4) = q := ⟨_, rfl⟩
  rw [hq1, hq2] at hp
  rw [hq1] at m1 m1'
  rw [hq2] at m2 m2'
  rw [hq1, hq2]
  clear hq1 hq2
  have i0 : ∀ W, (Instr.index 71 (.agg #[.int .u64 q1, .int .u64 a4, .int .u64 (a5 * 6), .int .u64 a6, .int .u64 q2, .int .u64 a2, .int .u64 a1]) (.int .i64 0)).run Tryd.prog W = .ok (.int .u64 q1) W := fun _ => by kernel_rfl
  have i1 : ∀ W, (Instr.index 71 (.agg #[.int .u64 q1, .int .u64 a4, .int .u64 (a5 * 6), .int .u64 a6, .int .u64 q2, .int .u64 a2, .int .u64 a1]) (.int .i64 1)).run Tryd.prog W = .ok (.int .u64 a4) W := fun _ => by kernel_rfl
  have i2 : ∀ W, (Instr.index 71 (.agg #[.int .u64 q1, .int .u64 a4, .int .u64 (a5 * 6), .int .u64 a6, .int .u64 q2, .int .u64 a2, .int .u64 a1]) (.int .i64 2)).run Tryd.prog W = .ok (.int .u64 (a5 * 6)) W := fun _ => by kernel_rfl
  have i3 : ∀ W, (Instr.index 71 (.agg #[.int .u64 q1, .int .u64 a4, .int .u64 (a5 * 6), .int .u64 a6, .int .u64 q2, .int .u64 a2, .int .u64 a1]) (.int .i64 3)).run Tryd.prog W = .ok (.int .u64 a6) W := fun _ => by kernel_rfl
  have i4 : ∀ W, (Instr.index 71 (.agg #[.int .u64 q1, .int .u64 a4, .int .u64 (a5 * 6), .int .u64 a6, .int .u64 q2, .int .u64 a2, .int .u64 a1]) (.int .i64 4)).run Tryd.prog W = .ok (.int .u64 q2) W := fun _ => by kernel_rfl
  have i5 : ∀ W, (Instr.index 71 (.agg #[.int .u64 q1, .int .u64 a4, .int .u64 (a5 * 6), .int .u64 a6, .int .u64 q2, .int .u64 a2, .int .u64 a1]) (.int .i64 5)).run Tryd.prog W = .ok (.int .u64 a2) W := fun _ => by kernel_rfl
  have i6 : ∀ W, (Instr.index 71 (.agg #[.int .u64 q1, .int .u64 a4, .int .u64 (a5 * 6), .int .u64 a6, .int .u64 q2, .int .u64 a2, .int .u64 a1]) (.int .i64 6)).run Tryd.prog W = .ok (.int .u64 a1) W := fun _ => by kernel_rfl
  have HP := Aside0.mk hp
  clear hp
  go_enter Tryd.func29, Tryd.ntmps29
  go_wp2_with (fail)
  refine (HP.out _).mono ?_
  rintro e w' ⟨rfl, hb⟩
  have hc4 := fun j => hb.cell (p := ⟨w.heap.size + 1, j, none⟩) (by simp)
  have hf4 := fun j => hb.frozen (p := ⟨w.heap.size + 1, j, none⟩) (by simp)
  have hc5 := fun j => hb.cell (p := ⟨w.heap.size + 1 + 1, j, none⟩) (by simp)
  have hf5 := fun j => hb.frozen (p := ⟨w.heap.size + 1 + 1, j, none⟩) (by simp)
  have hz : w.heap.size + 1 + 1 < w'.heap.size := by have := hb.size; simp at this; omega
  have hz2 : w.heap.size + 1 < w'.heap.size := by omega
  have hz3 : w.heap.size < w'.heap.size := by omega
  have HB := Aside0.mk hb
  clear hb HP
  go_wp2
  refine wp_loop_rounds 8 ?_
  iterate 7 (rw [rounds_succ]; go_wp2)
  rw [rounds_succ]
  go_wp2
  refine bodyPost_ret (v := .agg #[.int .u64 0, .int .u64 q1, .int .u64 (q1 + a4), .int .u64 (q1 + a4 + a5 * 6), .int .u64 (q1 + a4 + a5 * 6 + a6), .int .u64 (q1 + a4 + a5 * 6 + a6 + q2), .int .u64 (q1 + a4 + a5 * 6 + a6 + q2 + a2), .int .u64 (q1 + a4 + a5 * 6 + a6 + q2 + a2 + a1)]) (by simp [results, Tryd.results29, go_sem, hc4]) rfl ⟨rfl, ?_⟩
  have hb1 := ((((Below.refl w.heap.size w).alloc (Nat.le_refl _) _).alloc (by simp <;> omega) _).alloc (by simp <;> omega) _).trans (HB.out.mono (by simp <;> omega))
  repeat (first | (with_reducible exact hb1) | (with_reducible refine Below.drew ?_) | (with_reducible refine Below.setCell ?_ (by simp <;> omega) _) | (with_reducible refine Below.alloc ?_ (by simp <;> omega) _))
end Go.Proofs.YtkdhdhkfkgjcnaaDoor.PBlockRoundTrip
end

section
namespace Go.Proofs.YtkdhdhkfkgjcnaaDoor.PBlockRoundTrip
open Go.RowKit Go.Proofs.YtkdhdhkfkgjcnaaDoorW.PrintWords
set_option linter.unusedSimpArgs false
set_option linter.unusedVariables false

theorem mul64_f (a b : Int) (h0 : 0 ≤ a) (h1 : a ≤ 4294967295) (h2 : 0 ≤ b) (h3 : b ≤ 12) : bits_Mul64.f a b = some (0, a * b) := by
  obtain ⟨m1, m2⟩ := mul_bd a b 4294967295 12 h0 h1 h2 h3
  unfold bits_Mul64.f
  have e1 : a / 4294967296 = 0 := by omega
  have e2 : b / 4294967296 = 0 := by omega
  rw [e1, e2, and_low32 a h0 (by omega), and_low32 b h2 (by omega)]
  simp only [IntKind.wrap_u64]
  have e3 : a % 4294967296 = a := by omega
  have e4 : b % 4294967296 = b := by omega
  rw [e3, e4]
  simp only [Int.zero_mul, Int.mul_zero, Int.zero_emod, Int.zero_add]
  rw [and_low32 _ (by omega) (by omega)]
  congr 2 <;> omega

theorem Mul_c (a b l : Int) (w : World) (h0 : 0 ≤ a) (h1 : a ≤ 4294967295) (h2 : 0 ≤ b) (h3 : b ≤ 12) :
    Calls Tryd.prog 74 #[.int .u64 a, .int .u64 b, .int .u64 l] w fun e w' =>
      e = .returned (.tuple #[.int .u64 (if a * b > l then 0 else a * b), .bool (decide (a * b ≤ l))]) ∧ ∃ n, w' = w.drewN n := by
  by_cases h : a * b > l
  · refine (sizes_Mul.calls a b l 0 false w (by unfold sizes_Mul.f; rw [mul64_f a b h0 h1 h2 h3]; simp [h])).mono ?_
    rintro e w' ⟨rfl, hd⟩
    exact ⟨by rw [if_pos h, decide_eq_false (by omega)], hd.out⟩
  · refine (sizes_Mul.calls a b l (a * b) true w (by unfold sizes_Mul.f; rw [mul64_f a b h0 h1 h2 h3]; simp [h])).mono ?_
    rintro e w' ⟨rfl, hd⟩
    exact ⟨by rw [if_neg h, decide_eq_true (by omega)], hd.out⟩

theorem Add_c (a b l : Int) (w : World) (h0 : 0 ≤ a) (h1 : a ≤ 281474976710656) (h2 : 0 ≤ b) (h3 : b ≤ 281474976710656) :
    Calls Tryd.prog 75 #[.int .u64 a, .int .u64 b, .int .u64 l] w fun e w' =>
      e = .returned (.tuple #[.int .u64 (if a + b > l then 0 else a + b), .bool (decide (a + b ≤ l))]) ∧ ∃ n, w' = w.drewN n := by
  have hx : ∀ W, (callFunc 84 #[.int .u64 a, .int .u64 b, .int .u64 0]).run Tryd.prog W = .ok (.value (.tuple #[.int .u64 (a + b), .int .u64 0])) W := by
    intro W
    rw [run_callFunc_extern Tryd.func84 (by kernel_rfl) (by kernel_rfl) (by kernel_rfl) (e := add64Entry) (by kernel_rfl), run_add64 a b 0 h0 h2 (by omega) (by omega)]
    simp only [Result.andThen]
    rw [show (a + b + 0) % 18446744073709551616 = a + b from by omega, show (a + b + 0) / 18446744073709551616 = 0 from by omega]
  by_cases h : l < a + b
  · rw [show (if a + b > l then 0 else a + b) = 0 from if_pos h, show decide (a + b ≤ l) = false from decide_eq_false (by omega)]
    go_enter Tryd.func75, Tryd.ntmps75
    go_wp2
    go_ret2
    exact ⟨rfl, 0, rfl⟩
  · rw [show (if a + b > l then 0 else a + b) = a + b from if_neg (by omega), show decide (a + b ≤ l) = true from decide_eq_true (by omega)]
    go_enter Tryd.func75, Tryd.ntmps75
    go_wp2
    go_ret2
    exact ⟨rfl, 0, rfl⟩
end Go.Proofs.YtkdhdhkfkgjcnaaDoor.PBlockRoundTrip
end

section
namespace Go.Proofs.YtkdhdhkfkgjcnaaDoor.PBlockRoundTrip
open Go.RowKit Go.Proofs.YtkdhdhkfkgjcnaaDoorW.PrintWords
set_option linter.unusedSimpArgs false
set_option linter.unusedVariables false

/-- The sum of the products of the first k pairs. -/
def sumP (cs ws : List Int) : Nat → Int
  | 0 => 0
  | k + 1 => sumP cs ws k + rd cs k * rd ws k
theorem sumP_bd (cs ws : List Int) (hc : ∀ i : Nat, 0 ≤ rd cs i ∧ rd cs i ≤ 4294967295) (hw : ∀ i : Nat, 0 ≤ rd ws i ∧ rd ws i ≤ 12) (k : Nat) : 0 ≤ sumP cs ws k ∧ sumP cs ws k ≤ k * 51539607540 := by
  induction k with
  | zero => exact ⟨Int.le_refl _, by simp [sumP]⟩
  | succ k ih =>
    obtain ⟨m1, m2⟩ := mul_bd (rd cs k) (rd ws k) 4294967295 12 (hc k).1 (hc k).2 (hw k).1 (hw k).2
    simp only [sumP]
    omega
theorem sumP_mono (cs ws : List Int) (hc : ∀ i : Nat, 0 ≤ rd cs i ∧ rd cs i ≤ 4294967295) (hw : ∀ i : Nat, 0 ≤ rd ws i ∧ rd ws i ≤ 12) (k m : Nat) (h : k ≤ m) : sumP cs ws k ≤ sumP cs ws m := by
  induction m with
  | zero => obtain rfl : k = 0 := by omega
            exact Int.le_refl _
  | succ m ih =>
    by_cases e : k = m + 1
    · subst e; exact Int.le_refl _
    · have := ih (by omega)
      obtain ⟨m1, m2⟩ := mul_bd (rd cs m) (rd ws m) 4294967295 12 (hc m).1 (hc m).2 (hw m).1 (hw m).2
      simp only [sumP]
      omega

theorem drawnC {α : Type} {d : Kd α} {w w' : World} {A : Option Addr} {n : Nat} {xs : List α} (h : d.C w A n xs) (hD : Drawn0 w w') : d.C w' A n xs := by
  obtain ⟨m, rfl⟩ := hD
  exact Kd.C_drewN h m

set_option maxHeartbeats 1000000 in
theorem Total_c (A B : Option Addr) (c d : Nat) (cs ws : List Int) (l : Int) (w : World) (hA : Kd.C (Kd.int .u64) w A cs.length cs) (hB : Kd.C (Kd.int .u64) w B ws.length ws) (hlen : ws.length = cs.length) (hn : cs.length ≤ 100)
    (hc : ∀ i : Nat, 0 ≤ rd cs i ∧ rd cs i ≤ 4294967295) (hw : ∀ i : Nat, 0 ≤ rd ws i ∧ rd ws i ≤ 12) (hl : 0 ≤ l) :
    Calls Tryd.prog 63 #[.slice A cs.length c, .slice B ws.length d, .int .u64 l] w fun e w' =>
      e = .returned (.tuple #[.int .u64 (if sumP cs ws cs.length ≤ l then sumP cs ws cs.length else 0), .bool (decide (sumP cs ws cs.length ≤ l))]) ∧ Drawn0 w w' := by
  have HA := Aside0.mk hA
  have HB := Aside0.mk hB
  have HC := Aside0.mk hc
  have HW := Aside0.mk hw
  clear hA hB hc hw
  rw [hlen]
  have HL := Aside0.mk hlen
  clear hlen
  obtain ⟨R, hR⟩ : ∃ R, (if sumP cs ws cs.length ≤ l then sumP cs ws cs.length else 0) = R := ⟨_, rfl⟩
  obtain ⟨T, hT⟩ : ∃ T, decide (sumP cs ws cs.length ≤ l) = T := ⟨_, rfl⟩
  rw [hR, hT]
  have HR := Aside0.mk hR
  have HT := Aside0.mk hT
  clear hR hT
  go_enter Tryd.func63, Tryd.ntmps63
  go_wp2
  go_step3
  go_wp2
  go_step3
  go_wp2
  go_loopw [8, 9, 18] (fun s o i wr => ∃ k : Nat, k ≤ cs.length ∧ i = .int .i64 k ∧ s = .int .u64 (sumP cs ws k) ∧ o = .bool true ∧ sumP cs ws k ≤ l ∧ Drawn0 w wr) (fun _ _ i _ => cs.length - (intOf i).toNat)
  case atStart => exact ⟨0, by omega, rfl, rfl, rfl, hl, Drawn0.refl _⟩
  case round =>
    obtain ⟨k, hk, rfl, rfl, rfl, hs, hD⟩ := hrel
    have HD := Aside0.mk hD
    by_cases hlt : k < cs.length
    · obtain ⟨ad, rfl, hcA⟩ := Kd.at_int (drawnC HA.out hD) (k : Int) (by omega) (by omega)
      obtain ⟨bd, rfl, hcB⟩ := Kd.at_int (drawnC HB.out hD) (k : Int) (by omega) (by have := HL.out; omega)
      rw [Int.toNat_natCast] at hcA hcB
      have hs0 := (sumP_bd cs ws HC.out HW.out k).1
      have hs1 := (sumP_bd cs ws HC.out HW.out k).2
      obtain ⟨m1, m2⟩ := mul_bd (rd cs k) (rd ws k) 4294967295 12 (HC.out k).1 (HC.out k).2 (HW.out k).1 (HW.out k).2
      clear hD
      by_cases h1 : sumP cs ws (k + 1) ≤ l
      · have h2 : rd cs k * rd ws k ≤ l := by simp only [sumP] at h1; omega
        have HM := Aside0.mk (fun W => Mul_c (rd cs k) (rd ws k) l W (HC.out k).1 (HC.out k).2 (HW.out k).1 (HW.out k).2)
        rw [if_neg (by omega), decide_eq_true h2] at HM
        have HS := Aside0.mk (fun W => Add_c (sumP cs ws k) (rd cs k * rd ws k) l W hs0 (by omega) m1 (by omega))
        rw [if_neg (by simp only [sumP] at h1; omega), decide_eq_true (by simp only [sumP] at h1; omega)] at HS
        go_wp2
        go_quiet ((go_at_call 74; exact Calls.quiet_of (HM.out _)))
        go_wp2_with (go_at_call 75; refine (HS.out _).mono ?_; rintro e w' ⟨rfl, n1, rfl⟩)
        go_roundw
        case rel => exact ⟨k + 1, by omega, by go_num, rfl, rfl, h1, by repeat (first | exact HD.out | apply Drawn0.step)⟩
        case measure => simp [intOf]; omega
      · have h0 : ¬ sumP cs ws cs.length ≤ l := by
          have := sumP_mono cs ws HC.out HW.out (k + 1) cs.length (by omega)
          omega
        have eR := Aside0.mk (HR.out.symm.trans (if_neg h0))
        have eT := Aside0.mk (HT.out.symm.trans (decide_eq_false h0))
        by_cases h2 : rd cs k * rd ws k ≤ l
        · have HM := Aside0.mk (fun W => Mul_c (rd cs k) (rd ws k) l W (HC.out k).1 (HC.out k).2 (HW.out k).1 (HW.out k).2)
          rw [if_neg (by omega), decide_eq_true h2] at HM
          have HS := Aside0.mk (fun W => Add_c (sumP cs ws k) (rd cs k * rd ws k) l W hs0 (by omega) m1 (by omega))
          rw [if_pos (by simp only [sumP] at h1; omega), decide_eq_false (by simp only [sumP] at h1; omega)] at HS
          clear h0 h1
          go_wp2
          go_quiet ((go_at_call 74; exact Calls.quiet_of (HM.out _)))
          go_wp2_with (go_at_call 75; refine (HS.out _).mono ?_; rintro e w' ⟨rfl, n1, rfl⟩)
          rw [Exit.noGoto_ret]
          go_ret2
          exact ⟨by rw [eR.out, eT.out]; rfl, by repeat (first | exact HD.out | apply Drawn0.step)⟩
        · have HM := Aside0.mk (fun W => Mul_c (rd cs k) (rd ws k) l W (HC.out k).1 (HC.out k).2 (HW.out k).1 (HW.out k).2)
          rw [if_pos (by omega), decide_eq_false h2] at HM
          have HS := Aside0.mk (fun W => Add_c (sumP cs ws k) 0 l W hs0 (by omega) (by omega) (by omega))
          rw [if_neg (by omega), decide_eq_true (by omega)] at HS
          clear h0 h1
          go_wp2
          go_quiet ((go_at_call 74; exact Calls.quiet_of (HM.out _)))
          go_wp2_with (go_at_call 75; refine (HS.out _).mono ?_; rintro e w' ⟨rfl, n1, rfl⟩)
          rw [Exit.noGoto_ret]
          go_ret2
          exact ⟨by rw [eR.out, eT.out]; rfl, by repeat (first | exact HD.out | apply Drawn0.step)⟩
    · obtain rfl : k = cs.length := by omega
      have eR := Aside0.mk (HR.out.symm.trans (if_pos hs))
      have eT := Aside0.mk (HT.out.symm.trans (decide_eq_true hs))
      go_wp2
      rw [Exit.noGoto_ret]
      go_ret2
      exact ⟨by rw [eR.out, eT.out]; rfl, HD.out⟩
end Go.Proofs.YtkdhdhkfkgjcnaaDoor.PBlockRoundTrip
end

section
namespace Go.Proofs.YtkdhdhkfkgjcnaaDoor.PBlockRoundTrip
open Go.RowKit Go.Proofs.YtkdhdhkfkgjcnaaDoorW.PrintWords
set_option linter.unusedSimpArgs false
set_option linter.unusedVariables false

theorem add0 (g n : Nat) : Addr.add ⟨g, 0, none⟩ n = ⟨g, n, none⟩ := by
  unfold Addr.add
  split
  · subst n; rfl
  · simp
theorem C_blk {k : IntKind} {w : World} {g : Nat} {cs : Array Value} {t : TypeId} {fr : Nat × Nat} (xs : List Int) (h : w.heap[g]? = some (.cells cs t fr)) (hcs : ∀ (j : Nat) (x : Int), xs[j]? = some x → cs[j]? = some (Value.int k x)) (hl : xs.length ≤ 9223372036854775807) :
    Kd.C (Kd.int k) w (some ⟨g, 0, none⟩) xs.length xs :=
  ⟨rfl, hl, fun _ => ⟨_, rfl, fun j p hj => ⟨[Value.int k p], rfl, rfl, fun i u hu => by
    have hi : i = 0 := by
      rcases i with _ | i
      · rfl
      · simp at hu
    subst hi
    obtain rfl : Value.int k p = u := by simpa using hu
    rw [show (Kd.int k).sz = 1 from rfl, Nat.mul_one, Nat.add_zero, add0, cell_of_row w g j cs t fr h]
    exact hcs j p hj⟩⟩⟩

/-- The length of a data block. -/
def tot (a1 a2 a3 a4 a5 a6 s : Int) : Int := a4 * s + a4 + a5 * 6 + a6 + a3 * (s + 4) + a2 + a1
theorem tot_sum (a1 a2 a3 a4 a5 a6 s : Int) : sumP [a4, a4, a5, a6, a3, a2, a1] [s, 1, 6, 1, s + 4, 1, 1] 7 = tot a1 a2 a3 a4 a5 a6 s := by
  simp [sumP, rd, tot]

theorem rd_bd (l : List Int) (lo hi : Int) (h0 : lo ≤ 0) (h1 : 0 ≤ hi) (h : ∀ x ∈ l, lo ≤ x ∧ x ≤ hi) (i : Nat) : lo ≤ rd l i ∧ rd l i ≤ hi := by
  unfold rd
  rw [List.getD_eq_getElem?_getD]
  rcases h2 : l[(i : Int).toNat]? with _ | x
  · exact ⟨h0, h1⟩
  · exact h x (List.mem_of_getElem? h2)

set_option maxHeartbeats 1000000 in
theorem LTotal_c (v a1 a2 a3 a4 a5 a6 s l : Int) (w : World) (h : Hd a1 a2 a3 a4 a5 a6) (hs : 4 ≤ s) (hs' : s ≤ 8) (hl : 0 ≤ l) :
    Calls Tryd.prog 25 #[.agg #[.int .i64 v, .int .u32 a1, .int .u32 a2, .int .u32 a3, .int .u32 a4, .int .u32 a5, .int .u32 a6], .int .i64 s, .int .u64 l] w fun e w' =>
      e = .returned (.tuple #[.int .u64 (if tot a1 a2 a3 a4 a5 a6 s ≤ l then tot a1 a2 a3 a4 a5 a6 s else 0), .bool (decide (tot a1 a2 a3 a4 a5 a6 s ≤ l))]) ∧ Below w.heap.size w w' := by
  have hp := Aside0.mk (fun W => parts_c v a1 a2 a3 a4 a5 a6 s (w := W) h hs hs')
  have hT := Aside0.mk (fun A B W hA hB => Total_c A B 7 7 [a4, a4, a5, a6, a3, a2, a1] [s, 1, 6, 1, s + 4, 1, 1] l W hA hB rfl (by simp)
    (rd_bd _ 0 4294967295 (by omega) (by omega) (by obtain ⟨h1, h1', h2, h2', h3, h3', h4, h4', h5, h5', h6, h6'⟩ := h; simp; omega))
    (rd_bd _ 0 12 (by omega) (by omega) (by simp; omega)) hl)
  rw [show ([a4, a4, a5, a6, a3, a2, a1] : List Int).length = 7 from rfl, show ([s, 1, 6, 1, s + 4, 1, 1] : List Int).length = 7 from rfl, tot_sum] at hT
  clear h
  obtain ⟨R, hR⟩ : ∃ R, (if tot a1 a2 a3 a4 a5 a6 s ≤ l then tot a1 a2 a3 a4 a5 a6 s else 0) = R := ⟨_, rfl⟩
  obtain ⟨T, hT'⟩ : ∃ T, decide (tot a1 a2 a3 a4 a5 a6 s ≤ l) = T := ⟨_, rfl⟩
  rw [hR, hT'] at hT ⊢
  clear hR hT'
  go_enter Tryd.func25, Tryd.ntmps25
  go_wp2_with (go_at_call 62; refine (hp.out _).mono ?_; rintro e w1 ⟨rfl, hb⟩)
  have HB := Aside0.mk hb
  clear hb
  have hA := Aside0.mk (C_blk (k := .u64) (w := (w1.alloc (.cells #[.int .u64 a4, .int .u64 a4, .int .u64 a5, .int .u64 a6, .int .u64 a3, .int .u64 a2, .int .u64 a1] 71)).alloc (.cells #[.int .u64 s, .int .u64 1, .int .u64 6, .int .u64 1, .int .u64 (s + 4), .int .u64 1, .int .u64 1] 71)) (g := w1.heap.size) [a4, a4, a5, a6, a3, a2, a1] (by rw [Below.heap_alloc _ _ _ (by simp)]; exact heap_alloc_new _ _) (by
    intro j x hj; rcases j with _ | _ | _ | _ | _ | _ | _ | j <;> simp_all) (by simp))
  have hB := Aside0.mk (C_blk (k := .u64) (w := (w1.alloc (.cells #[.int .u64 a4, .int .u64 a4, .int .u64 a5, .int .u64 a6, .int .u64 a3, .int .u64 a2, .int .u64 a1] 71)).alloc (.cells #[.int .u64 s, .int .u64 1, .int .u64 6, .int .u64 1, .int .u64 (s + 4), .int .u64 1, .int .u64 1] 71)) (g := w1.heap.size + 1) [s, 1, 6, 1, s + 4, 1, 1] (by have := heap_alloc_new (w1.alloc (.cells #[.int .u64 a4, .int .u64 a4, .int .u64 a5, .int .u64 a6, .int .u64 a3, .int .u64 a2, .int .u64 a1] 71)) (.cells #[.int .u64 s, .int .u64 1, .int .u64 6, .int .u64 1, .int .u64 (s + 4), .int .u64 1, .int .u64 1] 71); rw [World.size_alloc] at this; exact this) (by
    intro j x hj; rcases j with _ | _ | _ | _ | _ | _ | _ | j <;> simp_all) (by simp))
  go_quiet ((go_at_call 63; exact Calls.quiet_of ((hT.out _ _ _ (Kd.C_drewN hA.out _) (Kd.C_drewN hB.out _)).mono fun _ _ hh => ⟨hh.1, hh.2.out⟩)))
  go_wp2
  go_ret2
  refine ⟨rfl, ?_⟩
  have hb1 := ((Below.refl w.heap.size w).alloc (Nat.le_refl _) _).trans (HB.out.mono (by simp <;> omega))
  repeat (first | (with_reducible exact hb1) | (with_reducible refine Below.drew ?_) | (with_reducible refine pw_below_drewN ?_ _) | (with_reducible refine Below.setCell ?_ (by simp <;> omega) _) | (with_reducible refine below_alloc ?_ _))
end Go.Proofs.YtkdhdhkfkgjcnaaDoor.PBlockRoundTrip
end
