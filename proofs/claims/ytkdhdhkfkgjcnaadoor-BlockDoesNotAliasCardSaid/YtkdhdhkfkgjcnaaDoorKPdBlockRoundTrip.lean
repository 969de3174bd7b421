/- The texts Pd Dv Su. -/
import Derived.Test.YtkdhdhkfkgjcnaaDoorKfBlockRoundTrip

section
namespace Go.Proofs.YtkdhdhkfkgjcnaaDoor.PBlockRoundTrip
open Go.RowKit Go.Proofs.YtkdhdhkfkgjcnaaDoorW.PrintWords Go.Proofs.YtkdhdhkfkgjcnaaDoorW.PrintMore
set_option linter.unusedSimpArgs false
set_option linter.unusedVariables false

theorem sec_join (d : List Int) (O : Nat → Int) (i : Nat) (h0 : 0 ≤ O i) (h1 : O i ≤ O (i + 1)) : d.take (O i).toNat ++ sec d O i = d.take (O (i + 1)).toNat := by
  have e : (O (i + 1)).toNat = (O i).toNat + ((O (i + 1)).toNat - (O i).toNat) := by omega
  rw [e, List.take_add, sec, show (O (i + 1)).toNat - (O i).toNat = (O (i + 1)).toNat - (O i).toNat from rfl]
/-- The sections make up the data. -/
theorem secs_all (d : List Int) (O : Nat → Int) (h : ∀ i, i ≤ 6 → 0 ≤ O i ∧ O i ≤ O (i + 1)) (hz : O 0 = 0) : sec d O 0 ++ sec d O 1 ++ sec d O 2 ++ sec d O 3 ++ sec d O 4 ++ sec d O 5 ++ sec d O 6 = d.take (O 7).toNat := by
  have j0 := sec_join d O 0 (h 0 (by omega)).1 (h 0 (by omega)).2
  have j1 := sec_join d O 1 (h 1 (by omega)).1 (h 1 (by omega)).2
  have j2 := sec_join d O 2 (h 2 (by omega)).1 (h 2 (by omega)).2
  have j3 := sec_join d O 3 (h 3 (by omega)).1 (h 3 (by omega)).2
  have j4 := sec_join d O 4 (h 4 (by omega)).1 (h 4 (by omega)).2
  have j5 := sec_join d O 5 (h 5 (by omega)).1 (h 5 (by omega)).2
  have j6 := sec_join d O 6 (h 6 (by omega)).1 (h 6 (by omega)).2
  rw [hz] at j0
  simp only [Int.toNat_zero, List.take_zero, List.nil_append] at j0
  rw [← j6, ← j5, ← j4, ← j3, ← j2, ← j1, ← j0]
theorem sec_size {d : List Int} {a1 a2 a3 a4 a5 a6 s : Int} (hH : Hd a1 a2 a3 a4 a5 a6) (hs : 4 ≤ s) (hs' : s ≤ 8) (hl : (d.length : Int) = tot a1 a2 a3 a4 a5 a6 s) (i : Nat) (hi : i ≤ 6) : ((sec d (offs a1 a2 a3 a4 a5 a6 s) i).length : Int) = offs a1 a2 a3 a4 a5 a6 s (i + 1) - offs a1 a2 a3 a4 a5 a6 s i := by
  obtain ⟨h0, h1, h2⟩ := offs_bd hH hs hs' i hi
  rw [sec_len h0 h1 (by omega)]
  omega
theorem div_of {n : Nat} {a : Int} {k : Nat} (h : (n : Int) = a * k) (hk : 0 < k) : ((n / k : Nat) : Int) = a ∧ k * (n / k) = n := by
  have e : (n : Int) / (k : Int) = a := by rw [h]; exact Int.mul_ediv_cancel a (by omega)
  have e2 : ((n / k : Nat) : Int) = a := by rw [← e]; push_cast; rfl
  refine ⟨e2, ?_⟩
  have e3 : ((k * (n / k) : Nat) : Int) = (n : Int) := by push_cast; rw [h]; push_cast at e2; rw [← h, e2, h, Int.mul_comm]
  exact_mod_cast e3
/-- The counts of a block are a header's. -/
structure Cnt (b : PB) (a1 a2 a3 a4 a5 a6 : Int) : Prop where
  c1 : (b.ut.length : Int) = a1
  c2 : (b.std.length : Int) = a2
  c3 : (b.leaps.length : Int) = a3
  c4 : (b.times.length : Int) = a4
  c4i : (b.index.length : Int) = a4
  c5 : (b.types.length : Int) = a5
  c6 : (b.chars.length : Int) = a6
theorem cnt_dec {d : List Int} {a1 a2 a3 a4 a5 a6 : Int} {s : Nat} (hH : Hd a1 a2 a3 a4 a5 a6) (hs : s = 4 ∨ s = 8) (hl : (d.length : Int) = tot a1 a2 a3 a4 a5 a6 s) : Cnt (decB d (offs a1 a2 a3 a4 a5 a6 s) s) a1 a2 a3 a4 a5 a6 := by
  have hs4 : (4 : Int) ≤ s := by omega
  have hs8 : (s : Int) ≤ 8 := by omega
  have z := fun i hi => sec_size hH hs4 hs8 hl i hi
  have z0 := z 0 (by omega)
  have z1 := z 1 (by omega)
  have z2 := z 2 (by omega)
  have z3 := z 3 (by omega)
  have z4 := z 4 (by omega)
  have z5 := z 5 (by omega)
  have z6 := z 6 (by omega)
  simp only [offs] at z0 z1 z2 z3 z4 z5 z6
  have d0 := (div_of (n := (sec d (offs a1 a2 a3 a4 a5 a6 s) 0).length) (a := a4) (k := s) (by omega) (by omega)).1
  have d2 := (div_of (n := (sec d (offs a1 a2 a3 a4 a5 a6 s) 2).length) (a := a5) (k := 6) (by omega) (by omega)).1
  have d4 := (div_of (n := (sec d (offs a1 a2 a3 a4 a5 a6 s) 4).length) (a := a3) (k := s + 4) (by rw [show ((s + 4 : Nat) : Int) = (s : Int) + 4 from by omega]; omega) (by omega)).1
  exact ⟨by simp [decB, flagsOf]; omega, by simp [decB, flagsOf]; omega, by rw [decB, leapsOf_len]; exact d4, by rw [decB, timesOf_len]; exact d0, by simp only [decB]; omega, by rw [decB, typesOf_len]; exact d2, by simp only [decB]; omega⟩
theorem enc_dec {d : List Int} {a1 a2 a3 a4 a5 a6 : Int} {s : Nat} (hB : Byt d) (hH : Hd a1 a2 a3 a4 a5 a6) (hs : s = 4 ∨ s = 8) (hl : (d.length : Int) = tot a1 a2 a3 a4 a5 a6 s) (hg : Good d (offs a1 a2 a3 a4 a5 a6 s)) : encB (decB d (offs a1 a2 a3 a4 a5 a6 s) s) s = d := by
  have hs4 : (4 : Int) ≤ s := by omega
  have hs8 : (s : Int) ≤ 8 := by omega
  have hO := fun i hi => offs_bd hH hs4 hs8 i hi
  have z := fun i hi => sec_size hH hs4 hs8 hl i hi
  have z0 := z 0 (by omega)
  have z2 := z 2 (by omega)
  have z4 := z 4 (by omega)
  have hall := secs_all d (offs a1 a2 a3 a4 a5 a6 s) (fun i hi => ⟨(hO i hi).1, (hO i hi).2.1⟩) rfl
  have h7 : (offs a1 a2 a3 a4 a5 a6 s 7).toNat = d.length := by
    have : offs a1 a2 a3 a4 a5 a6 s 7 = tot a1 a2 a3 a4 a5 a6 s := rfl
    omega
  rw [h7, List.take_length] at hall
  have hb := fun i => sec_byt hB (offs a1 a2 a3 a4 a5 a6 s) i
  have q0 := (div_of (n := (sec d (offs a1 a2 a3 a4 a5 a6 s) 0).length) (a := a4) (k := s) (by simp only [offs] at z0; omega) (by omega)).2
  have q2 := (div_of (n := (sec d (offs a1 a2 a3 a4 a5 a6 s) 2).length) (a := a5) (k := 6) (by simp only [offs] at z2; omega) (by omega)).2
  have q4 := (div_of (n := (sec d (offs a1 a2 a3 a4 a5 a6 s) 4).length) (a := a3) (k := s + 4) (by simp only [offs] at z4; rw [show ((s + 4 : Nat) : Int) = (s : Int) + 4 from by omega]; omega) (by omega)).2
  have e0 := encT_times (hb 0) s hs _ (Nat.le_of_eq q0)
  have e2 := encY_types (hb 2) _ (Nat.le_of_eq q2) hg.1
  have e4 := encL_leaps (hb 4) s hs _ (Nat.le_of_eq q4)
  have e5 := encF_flags (hb 5) hg.2.1
  have e6 := encF_flags (hb 6) hg.2.2
  rw [q0, List.take_length] at e0
  rw [q2, List.take_length] at e2
  rw [q4, List.take_length] at e4
  conv => rhs; rw [← hall]
  unfold encB decB
  rw [e0, e2, e4, e5, e6]
end Go.Proofs.YtkdhdhkfkgjcnaaDoor.PBlockRoundTrip
end

section
namespace Go.Proofs.YtkdhdhkfkgjcnaaDoor.PBlockRoundTrip
open Go.RowKit Go.Proofs.YtkdhdhkfkgjcnaaDoorW.PrintWords Go.Proofs.YtkdhdhkfkgjcnaaDoorW.PrintMore
set_option linter.unusedSimpArgs false
set_option linter.unusedVariables false

theorem Cnt.sw {b : PB} {a1 a2 a3 a4 a5 a6 : Int} {s : Int} (h : Cnt b a1 a2 a3 a4 a5 a6) (hH : Hd a1 a2 a3 a4 a5 a6) (hs : 4 ≤ s) (hs' : s ≤ 8) (ht : tot a1 a2 a3 a4 a5 a6 s ≤ 1000000) : Sw b := by
  obtain ⟨c1, c2, c3, c4, c4i, c5, c6⟩ := h
  obtain ⟨h1, h1', h2, h2', h3, h3', h4, h4', h5, h5', h6, h6'⟩ := hH
  obtain ⟨m1, m1'⟩ := mul_bd a4 s 4294967295 8 h4 h4' (by omega) hs'
  obtain ⟨m2, m2'⟩ := mul_bd a3 (s + 4) 4294967295 12 h3 h3' (by omega) (by omega)
  have m3 : a3 * 1 ≤ a3 * (s + 4) := Int.mul_le_mul_of_nonneg_left (by omega) h3
  unfold tot at ht
  constructor <;> omega
theorem tot_nn {a1 a2 a3 a4 a5 a6 s : Int} (hH : Hd a1 a2 a3 a4 a5 a6) (hs : 4 ≤ s) (hs' : s ≤ 8) : 0 ≤ tot a1 a2 a3 a4 a5 a6 s := (tot_bd hH hs hs').1
/-- The three answers of a decoding from the start. -/
theorem DecRes.view {l : List Int} {a1 a2 a3 a4 a5 a6 : Int} {s : Nat} {at_ : Int} {b : PB} {q er u : Int} (h : DecRes l 0 0 a1 a2 a3 a4 a5 a6 s at_ b q er u) (hB : Byt l) (hH : Hd a1 a2 a3 a4 a5 a6) (hs : s = 4 ∨ s = 8) (hl : l.length ≤ 1000000) :
    (er = 1 ∧ u = l.length ∧ q = 0 ∧ b = zB ∧ (l.length : Int) < tot a1 a2 a3 a4 a5 a6 s) ∨ (er = 10 ∧ u = at_ ∧ b = zB ∧ 0 ≤ q ∧ q ≤ l.length) ∨
      (er = 0 ∧ u = 0 ∧ 0 ≤ q ∧ q ≤ l.length ∧ encB b s = l.take q.toNat ∧ Cnt b a1 a2 a3 a4 a5 a6 ∧ Sw b ∧ q = tot a1 a2 a3 a4 a5 a6 s) := by
  have hs4 : (4 : Int) ≤ s := by omega
  have hs8 : (s : Int) ≤ 8 := by omega
  have h0 := tot_nn hH hs4 hs8
  cases h with
  | short h => exact .inl ⟨rfl, rfl, rfl, rfl, by omega⟩
  | bad h1 h2 => exact .inr (.inl ⟨rfl, rfl, rfl, by omega, by omega⟩)
  | good h1 h2 =>
    have hd : (((l.drop (0 : Int).toNat).take (tot a1 a2 a3 a4 a5 a6 s).toNat).length : Int) = tot a1 a2 a3 a4 a5 a6 s := by
      rw [List.length_take, List.length_drop]
      simp
      omega
    have hc := cnt_dec hH hs hd
    refine .inr (.inr ⟨rfl, rfl, by omega, by omega, ?_, hc, hc.sw hH hs4 hs8 (by omega), by omega⟩)
    rw [enc_dec ((hB.drop _).take _) hH hs hd h2]
    simp
theorem DecRes.det {l : List Int} {p t a1 a2 a3 a4 a5 a6 : Int} {s : Nat} {at_ : Int} {b b' : PB} {q er u q' er' u' : Int} (h : DecRes l p t a1 a2 a3 a4 a5 a6 s at_ b q er u) (h' : DecRes l p t a1 a2 a3 a4 a5 a6 s at_ b' q' er' u') : b = b' ∧ q = q' ∧ er = er' ∧ u = u' := by
  cases h with
  | short h => cases h' with
    | short _ => exact ⟨rfl, rfl, rfl, rfl⟩
    | bad h1 _ => exact absurd h1 h
    | good h1 _ => exact absurd h1 h
  | bad h1 h2 => cases h' with
    | short h => exact absurd h1 h
    | bad _ _ => exact ⟨rfl, rfl, rfl, rfl⟩
    | good _ h3 => exact absurd h3 h2
  | good h1 h2 => cases h' with
    | short h => exact absurd h1 h
    | bad _ h3 => exact absurd h2 h3
    | good _ _ => exact ⟨rfl, rfl, rfl, rfl⟩
end Go.Proofs.YtkdhdhkfkgjcnaaDoor.PBlockRoundTrip
end

section
namespace Go.Proofs.YtkdhdhkfkgjcnaaDoor.PBlockRoundTrip
open Go.RowKit Go.Proofs.YtkdhdhkfkgjcnaaDoorW.PrintWords Go.Proofs.YtkdhdhkfkgjcnaaDoorW.PrintMore
set_option linter.unusedSimpArgs false
set_option linter.unusedVariables false

set_option maxHeartbeats 2000000 in
theorem RLengths_c (v a1 a2 a3 a4 a5 a6 s : Int) (w : World) (h : Hd a1 a2 a3 a4 a5 a6) (hs : 4 ≤ s) (hs' : s ≤ 8) :
    Calls Tryd.prog 36 #[.agg #[.int .i64 v, .int .u32 a1, .int .u32 a2, .int .u32 a3, .int .u32 a4, .int .u32 a5, .int .u32 a6], .int .i64 s] w fun e w' =>
      e = .returned (.agg #[.int .u64 (a4 * s), .int .u64 a4, .int .u64 (6 * a5), .int .u64 a6, .int .u64 (a3 * (s + 4)), .int .u64 a2, .int .u64 a1]) ∧ Below w.heap.size w w' := by
  obtain ⟨h1, h1', h2, h2', h3, h3', h4, h4', h5, h5', h6, h6'⟩ := h
  obtain ⟨m1, m1'⟩ := mul_bd a4 s 4294967295 8 h4 h4' (by omega) hs'
  obtain ⟨m2, m2'⟩ := mul_bd a3 (s + 4) 4294967295 12 h3 h3' (by omega) (by omega)
  go_enter Tryd.func36, Tryd.ntmps36
  go_wp2
  refine bodyPost_ret (v := .agg #[.int .u64 (a4 * s), .int .u64 a4, .int .u64 (6 * a5), .int .u64 a6, .int .u64 (a3 * (s + 4)), .int .u64 a2, .int .u64 a1]) (by simp [results, Tryd.results36, go_sem]) rfl ⟨rfl, ?_⟩
  repeat (first | (with_reducible exact Below.refl _ _) | (with_reducible refine pw_below_drewN ?_ _) | (with_reducible refine Below.drew ?_) | (with_reducible refine Below.setCell ?_ (by simp <;> omega) _) | (with_reducible refine below_alloc ?_ _))

set_option maxRecDepth 20000 in
set_option maxHeartbeats 4000000 in
theorem RSum_c (v a1 a2 a3 a4 a5 a6 s : Int) (w : World) (h : Hd a1 a2 a3 a4 a5 a6) (hs : 4 ≤ s) (hs' : s ≤ 8) :
    Calls Tryd.prog 24 #[.agg #[.int .i64 v, .int .u32 a1, .int .u32 a2, .int .u32 a3, .int .u32 a4, .int .u32 a5, .int .u32 a6], .int .i64 s] w fun e w' =>
      e = .returned (.int .u64 (tot a1 a2 a3 a4 a5 a6 s)) ∧ Below w.heap.size w w' := by
  have hp := fun W => RLengths_c v a1 a2 a3 a4 a5 a6 s (w := W) h hs hs'
  obtain ⟨h1, h1', h2, h2', h3, h3', h4, h4', h5, h5', h6, h6'⟩ := h
  obtain ⟨m1, m1'⟩ := mul_bd a4 s 4294967295 8 h4 h4' (by omega) hs'
  obtain ⟨m2, m2'⟩ := mul_bd a3 (s + 4) 4294967295 12 h3 h3' (by omega) (by omega)
  have ht : tot a1 a2 a3 a4 a5 a6 s = a4 * s + a4 + 6 * a5 + a6 + a3 * (s + 4) + a2 + a1 := by unfold tot; omega
  rw [ht]
  clear ht
  obtain ⟨q1, hq1⟩ : ∃ q, a4 * s = q := ⟨_, rfl⟩
  obtain ⟨q2, hq2⟩ : ∃ q, a3 * (s + 4) = q := ⟨_, rfl⟩
  rw [hq1, hq2] at hp
  rw [hq1] at m1 m1'
  rw [hq2] at m2 m2'
  rw [hq1, hq2]
  clear hq1 hq2
  have HP := Aside0.mk hp
  clear hp
  go_enter Tryd.func24, Tryd.ntmps24
  go_wp2_with (fail)
  refine (HP.out _).mono ?_
  rintro e w' ⟨rfl, hb⟩
  have HB := Aside0.mk hb
  clear hb HP
  go_wp2
  refine wp_loop_rounds 8 ?_
  iterate 7 (rw [rounds_succ]; go_wp2)
  rw [rounds_succ]
  go_wp2
  go_ret
  exact ⟨rfl, below_alloc ((below_alloc (Below.refl w.heap.size w) _).trans (HB.out.mono (by simp))) _⟩
end Go.Proofs.YtkdhdhkfkgjcnaaDoor.PBlockRoundTrip
end
