/- The texts Ac Pb En O1 O. -/
import Derived.Test.YtkdhdhkfkgjcnaaDoorKdBlockRoundTrip
import Derived.Lib.AppendZeros
import Derived.Test.YtkdhdhkfkgjcnaaDoorKcBlockRoundTrip

section
namespace Go.Proofs.YtkdhdhkfkgjcnaaDoor.PBlockRoundTrip
open Go.RowKit Go.Proofs.YtkdhdhkfkgjcnaaDoorW.PrintWords Go.Proofs.YtkdhdhkfkgjcnaaDoorW.PrintMore
set_option linter.unusedSimpArgs false
set_option linter.unusedVariables false

theorem size_zeros (n : Nat) : (Builtin.zeroCells (Value.int .u8 0).cells n).size = n := by simp [Builtin.zeroCells, Value.cells]

/-- slices.Grow of nil. -/
theorem Grow_c (n : Nat) (w : World) (hn : n ≤ 140737488355328) :
    Calls Tryd.prog 71 #[.slice none 0 0, .int .i64 n] w fun e w' => ∃ r, e = .returned r ∧ Aside0 (Kd.R (Kd.int .u8) 5 w' w.heap.size (fun _ => True) r []) ∧ Below w.heap.size w w' := by
  by_cases h0 : n = 0
  · subst h0
    go_enter Tryd.func71, Tryd.ntmps71
    go_wp2
    go_ret
    exact ⟨_, rfl, ⟨Kd.R_nil _ _ _ _ _⟩, Below.refl _ _⟩
  · obtain ⟨i0, hi0, hz0, hz1, hz2⟩ := info_parts info5
    have hr := fun ty (W : World) => Lib.run_append_nil_zeros (P := Tryd.prog) W 22 3 ty 5 i0 (.int .u8 0) .i64 .i64 Tryd.underlying22 Tryd.underlying3 hi0 hz0 n (by omega) (by omega) (by omega) (by rw [hz2]; omega)
    have hge := grownCap_ge w n 0 5
    have hle := grownCap_le_maxLen w n 0 5 (by unfold maxLen; omega)
    obtain ⟨q, hq⟩ : ∃ q, grownCap w n 0 5 = q := ⟨_, rfl⟩
    have hrw := hr 22 w
    rw [hq] at hge hle hrw
    have HR := Aside0.mk hrw
    have HM := Aside0.mk (show (w.drew.alloc (.cells (Builtin.zeroCells (Value.int .u8 0).cells n ++ Builtin.zeroCells (Value.int .u8 0).cells (q - n)) 5)).ownsRow w.heap.size 5 1 (.slice (some ⟨w.heap.size, 0, none⟩) 0 q) 0 [] from
      ⟨rfl, .inr ⟨w.heap.size, q, _, rfl, Nat.le_refl _, blk_new w.drew _, Nat.zero_le _, hle, by rw [Array.size_append, size_zeros, size_zeros]; omega, rfl⟩⟩)
    have HO := Aside0.mk (R_of_nums (k := .u8) (xs := []) HM.out rfl)
    unfold maxLen at hle
    clear hr hrw hq HM hi0 hz0 hz1 hz2
    have h1 : 0 < n := by omega
    clear h0
    go_enter Tryd.func71, Tryd.ntmps71
    go_wp2_with (at_builtin; refine Lib.wpList_append_run _ rfl (.tmp 20) (.tmp 21) _ _ rfl _ _ rfl rfl _ _ HR.out ?_)
    go_ret
    exact ⟨_, rfl, ⟨HO.out⟩, below_alloc (Below.drew (Below.refl _ w)) _⟩

/-- A part that is joined: where it lies, its capacity, its bytes. -/
abbrev Pt := Option Addr × Nat × List Int
/-- The joined bytes. -/
def catB (ps : List Pt) : List Int := ps.flatMap fun p => p.2.2
theorem catB_succ (ps : List Pt) (k : Nat) (p : Pt) (h : ps[k]? = some p) : catB (ps.take (k + 1)) = catB (ps.take k) ++ p.2.2 := by
  obtain ⟨hk, rfl⟩ := List.getElem?_eq_some_iff.1 h
  rw [List.take_succ_eq_append_getElem hk, catB, List.flatMap_append, List.flatMap_singleton]
  rfl
theorem catB_le (ps : List Pt) (k : Nat) : (catB (ps.take k)).length ≤ (catB ps).length := by
  conv => rhs; rw [← List.take_append_drop k ps]
  rw [catB, catB, List.flatMap_append, List.length_append]
  omega
/-- The parts lie in a block, and their rows are read. -/
structure Pts (w : World) (g : Nat) (ps : List Pt) : Prop where
  cell : ∀ (k : Nat) (p : Pt), ps[k]? = some p → w.cell? ⟨g, k, none⟩ = some (.slice p.1 p.2.2.length p.2.1)
  row : ∀ p ∈ ps, Kd.C (Kd.int .u8) w p.1 p.2.2.length p.2.2
theorem Pts.below {w w' : World} {g : Nat} {ps : List Pt} (h : Pts w g ps) (hb : Below w.heap.size w w') : Pts w' g ps :=
  ⟨fun k p hp => pw_cell_below hb (h.cell k p hp), fun p hp => Kd.C_below (h.row p hp) hb⟩

set_option maxRecDepth 50000 in
set_option maxHeartbeats 2000000 in
theorem Concat_c (g : Nat) (ps : List Pt) (w : World) (hp : Pts w g ps) (hl : (catB ps).length ≤ 140737488355328) (hn : ps.length ≤ 1048576) :
    Calls Tryd.prog 53 #[.slice (some ⟨g, 0, none⟩) ps.length ps.length] w fun e w' => ∃ r, e = .returned r ∧ Kd.R (Kd.int .u8) 5 w' w.heap.size (fun _ => True) r (catB ps) ∧ Below w.heap.size w w' := by
  have HP := Aside0.mk hp
  have HL := Aside0.mk hl
  clear hp hl
  go_enter Tryd.func53, Tryd.ntmps53
  go_wp2
  go_loop [3, 5, 11] (fun s u i => ∃ k q : Nat, k ≤ ps.length ∧ i = .int .i64 k ∧ s = .int .i64 q ∧ Aside0 (q = (catB (ps.take k)).length)) (fun _ _ i => ps.length - (intOf i).toNat)
  case atStart => exact ⟨0, 0, by omega, rfl, rfl, ⟨rfl⟩⟩
  case round =>
    obtain ⟨k, q, hk, rfl, rfl, HQ⟩ := hrel
    by_cases hlt : k < ps.length
    · obtain ⟨p, hpk⟩ : ∃ p, ps[k]? = some p := ⟨_, List.getElem?_eq_getElem hlt⟩
      have hc := HP.out.cell k p hpk
      have hs := catB_succ ps k p hpk
      have hle := catB_le ps (k + 1)
      have hq2 : q + p.2.2.length ≤ 140737488355328 := by have := HL.out; have := HQ.out; rw [hs, List.length_append] at hle; omega
      have HQ2 : Aside0 (q + p.2.2.length = (catB (ps.take (k + 1))).length) := ⟨by rw [hs, List.length_append, HQ.out]⟩
      clear hs hle hpk
      go_wp2
      go_round
      case rel => exact ⟨k + 1, q + p.2.2.length, by omega, by go_num, by go_num, HQ2⟩
      case measure => simp [intOf]; omega
    · obtain rfl : k = ps.length := by omega
      have hq2 : q ≤ 140737488355328 := by have := HL.out; have h2 := HQ.out; rw [List.take_length] at h2; omega
      have HG := Aside0.mk (fun W => Grow_c q W hq2)
      clear HQ
      go_wp2_with (go_at_call 71; (with_reducible refine (HG.out _).mono ?_); rintro e w1 ⟨r, rfl, HR1, hb⟩; have HB1 := Aside0.mk hb; clear hb)
      go_loopw [6, 8, 27] (fun v u i wr => ∃ k : Nat, k ≤ ps.length ∧ i = .int .i64 k ∧ Aside0 (Kd.R (Kd.int .u8) 5 wr w.heap.size (fun _ => True) v (catB (ps.take k))) ∧ Aside0 (Below w.heap.size w wr)) (fun _ _ i _ => ps.length - (intOf i).toNat)
      case atStart => exact ⟨0, by omega, rfl, ⟨by simpa [catB] using HR1.out⟩, HB1⟩
      case round =>
        obtain ⟨k, hk, rfl, HR, HB⟩ := hrel
        by_cases hlt : k < ps.length
        · obtain ⟨p, hpk⟩ : ∃ p, ps[k]? = some p := ⟨_, List.getElem?_eq_getElem hlt⟩
          have HPw := HP.out.below HB.out
          have hc := HPw.cell k p hpk
          have HS := Aside0.mk (catB_succ ps k p hpk)
          have HCp := Aside0.mk (HPw.row p (List.mem_of_getElem? hpk))
          have HLp : Aside0 ((catB (ps.take k)).length + p.2.2.length ≤ 140737488355328) := ⟨by have := catB_le ps (k + 1); rw [HS.out, List.length_append] at this; have := HL.out; omega⟩
          clear HPw hpk
          go_wp2_with (at_builtin; refine wpList_append_R _ rfl (.tmp 31) (.tmp 32) 22 rfl w.heap.size 5 Tryd.underlying22 info5 u6 (catB (ps.take k)) p.2.2 (by rfl) HR.out p.1 p.2.2.length p.2.1 (by rfl) HCp.out HLp.out HB.out.size ?_; intro v2 w2 hr2 hg2 hat2)
          go_roundw
          case rel => exact ⟨k + 1, by omega, by go_num, ⟨by rw [HS.out]; exact hr2⟩, ⟨HB.out.grown hg2 HB.out.size (Kd.R_base HR.out)⟩⟩
          case measure => simp [intOf]; omega
        · obtain rfl : k = ps.length := by omega
          go_wp2
          go_ret
          exact ⟨_, rfl, by have := HR.out; rwa [List.take_length] at this, HB.out⟩
end Go.Proofs.YtkdhdhkfkgjcnaaDoor.PBlockRoundTrip
end

section
namespace Go.Proofs.YtkdhdhkfkgjcnaaDoor.PBlockRoundTrip
open Go.RowKit Go.Proofs.YtkdhdhkfkgjcnaaDoorW.PrintWords Go.Proofs.YtkdhdhkfkgjcnaaDoorW.PrintMore
set_option linter.unusedSimpArgs false
set_option linter.unusedVariables false

/-- A block as plain data. -/
structure PB where
  times : List Int
  index : List Int
  types : List S55
  chars : List Int
  leaps : List S79
  std : List Bool
  ut : List Bool
theorem PB.same {a b : PB} (h0 : a.times = b.times) (h1 : a.index = b.index) (h2 : a.types = b.types) (h3 : a.chars = b.chars) (h4 : a.leaps = b.leaps) (h5 : a.std = b.std) (h6 : a.ut = b.ut) : a = b := by
  cases a; cases b; simp_all
/-- Where a block's rows lie. -/
structure BV where
  A0 : Option Addr
  c0 : Nat
  A1 : Option Addr
  c1 : Nat
  A2 : Option Addr
  c2 : Nat
  A3 : Option Addr
  c3 : Nat
  A4 : Option Addr
  c4 : Nat
  A5 : Option Addr
  c5 : Nat
  A6 : Option Addr
  c6 : Nat
/-- The block is read. -/
structure BlkC (w : World) (x : BV) (b : PB) : Prop where
  r0 : Kd.C (Kd.int .i64) w x.A0 b.times.length b.times
  r1 : Kd.C (Kd.int .u8) w x.A1 b.index.length b.index
  r2 : Kd.C k55 w x.A2 b.types.length b.types
  r3 : Kd.C (Kd.int .u8) w x.A3 b.chars.length b.chars
  r4 : Kd.C k79 w x.A4 b.leaps.length b.leaps
  r5 : Kd.C Kd.bool w x.A5 b.std.length b.std
  r6 : Kd.C Kd.bool w x.A6 b.ut.length b.ut
  n0 : b.times.length ≤ x.c0
  n1 : b.index.length ≤ x.c1
  n2 : b.types.length ≤ x.c2
  n3 : b.chars.length ≤ x.c3
  n4 : b.leaps.length ≤ x.c4
  n5 : b.std.length ≤ x.c5
  n6 : b.ut.length ≤ x.c6
theorem BlkC.below {w w' : World} {x : BV} {b : PB} (h : BlkC w x b) (hb : Below w.heap.size w w') : BlkC w' x b :=
  ⟨Kd.C_below h.r0 hb, Kd.C_below h.r1 hb, Kd.C_below h.r2 hb, Kd.C_below h.r3 hb, Kd.C_below h.r4 hb, Kd.C_below h.r5 hb, Kd.C_below h.r6 hb, h.n0, h.n1, h.n2, h.n3, h.n4, h.n5, h.n6⟩
/-- The block's lists are no longer than 2 ^ 35. -/
structure Sm (b : PB) : Prop where
  m0 : b.times.length ≤ 34359738368
  m1 : b.index.length ≤ 34359738368
  m2 : b.types.length ≤ 34359738368
  m3 : b.chars.length ≤ 34359738368
  m4 : b.leaps.length ≤ 34359738368
  m5 : b.std.length ≤ 34359738368
  m6 : b.ut.length ≤ 34359738368
/-- The bytes of a block. -/
def encB (b : PB) (s : Nat) : List Int := encT b.times s ++ b.index ++ encY b.types ++ b.chars ++ encL b.leaps s ++ encF b.std ++ encF b.ut
theorem encB_len (b : PB) (s : Nat) : (encB b s).length = b.times.length * s + b.index.length + b.types.length * 6 + b.chars.length + b.leaps.length * (s + 4) + b.std.length + b.ut.length := by
  simp only [encB, List.length_append, encT_len, encY_len, encL_len, encF_len]
theorem encB_small (b : PB) (s : Nat) (hs : s ≤ 8) (h : Sm b) : (encB b s).length ≤ 140737488355328 := by
  obtain ⟨m0, m1, m2, m3, m4, m5, m6⟩ := h
  have h1 : b.times.length * s ≤ 34359738368 * 8 := Nat.mul_le_mul m0 hs
  have h2 : b.leaps.length * (s + 4) ≤ 34359738368 * 12 := Nat.mul_le_mul m4 (by omega)
  rw [encB_len]
  omega
theorem btr {a b c : World} (h1 : Below a.heap.size a b) (h2 : Below b.heap.size b c) : Below a.heap.size a c := h1.trans (h2.mono h1.size)
/-- The world in which block.Encode has boxed its block. -/
structure Bx (w W : World) (x : BV) (b : PB) : Prop where
  bk : W.heap[w.heap.size]? = some (.cells #[.slice x.A0 b.times.length x.c0, .slice x.A1 b.index.length x.c1, .slice x.A2 b.types.length x.c2, .slice x.A3 b.chars.length x.c3, .slice x.A4 b.leaps.length x.c4, .slice x.A5 b.std.length x.c5, .slice x.A6 b.ut.length x.c6] 34 (0, 0))
  bw : Below w.heap.size w W
section
variable {w W W' : World} {x : BV} {b : PB}
theorem Bx.new (w : World) (x : BV) (b : PB) : Bx w (w.alloc (.cells #[.slice x.A0 b.times.length x.c0, .slice x.A1 b.index.length x.c1, .slice x.A2 b.types.length x.c2, .slice x.A3 b.chars.length x.c3, .slice x.A4 b.leaps.length x.c4, .slice x.A5 b.std.length x.c5, .slice x.A6 b.ut.length x.c6] 34)) x b :=
  ⟨blk_new _ _, below_alloc (Below.refl _ _) _⟩
theorem Bx.below (h : Bx w W x b) (hb : Below W.heap.size W W') : Bx w W' x b := ⟨blk_below h.bk hb, h.bw.trans (hb.mono h.bw.size)⟩
theorem Bx.drew (h : Bx w W x b) : Bx w W.drew x b := h.below (Below.refl _ W).drew
theorem Bx.drewN (h : Bx w W x b) (k : Nat) : Bx w (W.drewN k) x b := h.below (pw_below_drewN (Below.refl _ W) k)
theorem Bx.alloc (h : Bx w W x b) (o : Obj) : Bx w (W.alloc o) x b := h.below (below_alloc (Below.refl _ W) o)
theorem Bx.all (h : Bx w W x b) : W.cell? ⟨w.heap.size, 0, none⟩ = some (.slice x.A0 b.times.length x.c0) ∧ W.cell? ⟨w.heap.size, 1, none⟩ = some (.slice x.A1 b.index.length x.c1) ∧ W.cell? ⟨w.heap.size, 2, none⟩ = some (.slice x.A2 b.types.length x.c2) ∧ W.cell? ⟨w.heap.size, 3, none⟩ = some (.slice x.A3 b.chars.length x.c3) ∧
    W.cell? ⟨w.heap.size, 4, none⟩ = some (.slice x.A4 b.leaps.length x.c4) ∧ W.cell? ⟨w.heap.size, 5, none⟩ = some (.slice x.A5 b.std.length x.c5) ∧ W.cell? ⟨w.heap.size, 6, none⟩ = some (.slice x.A6 b.ut.length x.c6) :=
  ⟨blk_cell h.bk 0, blk_cell h.bk 1, blk_cell h.bk 2, blk_cell h.bk 3, blk_cell h.bk 4, blk_cell h.bk 5, blk_cell h.bk 6⟩
end
/-- indicators.Encode. -/
theorem IEncode_c (A : Option Addr) (c : Nat) (l : List Bool) (w : World) (hA : Kd.C Kd.bool w A l.length l) (hlc : l.length ≤ c) (hm : l.length ≤ 34359738368) :
    Calls Tryd.prog 57 #[.slice A l.length c] w fun e w' => ∃ r, e = .returned r ∧ Kd.R (Kd.int .u8) 5 w' w.heap.size (fun _ => True) r (encF l) ∧ Below w.heap.size w w' := by
  refine (indicators_Encode.calls (l.length + 1) A c l _ w hA hlc (ienc_f l (by omega))).mono ?_
  rintro e w' ⟨r, rfl, h1, h2⟩
  exact ⟨r, rfl, h1, h2⟩
/-- Seven parts in a block. -/
theorem Pts.seven {W : World} {g t : Nat} {A0 A1 A2 A3 A4 A5 A6 : Option Addr} {c0 c1 c2 c3 c4 c5 c6 : Nat} {l0 l1 l2 l3 l4 l5 l6 : List Int}
    (h : W.heap[g]? = some (.cells #[.slice A0 l0.length c0, .slice A1 l1.length c1, .slice A2 l2.length c2, .slice A3 l3.length c3, .slice A4 l4.length c4, .slice A5 l5.length c5, .slice A6 l6.length c6] t (0, 0)))
    (h0 : Kd.C (Kd.int .u8) W A0 l0.length l0) (h1 : Kd.C (Kd.int .u8) W A1 l1.length l1) (h2 : Kd.C (Kd.int .u8) W A2 l2.length l2) (h3 : Kd.C (Kd.int .u8) W A3 l3.length l3) (h4 : Kd.C (Kd.int .u8) W A4 l4.length l4) (h5 : Kd.C (Kd.int .u8) W A5 l5.length l5) (h6 : Kd.C (Kd.int .u8) W A6 l6.length l6) :
    Pts W g [(A0, c0, l0), (A1, c1, l1), (A2, c2, l2), (A3, c3, l3), (A4, c4, l4), (A5, c5, l5), (A6, c6, l6)] := by
  refine ⟨fun k p hp => ?_, fun p hp => ?_⟩
  · rw [blk_cell h k]
    rcases k with _ | _ | _ | _ | _ | _ | _ | k
    · obtain rfl := Option.some.inj hp; rfl
    · obtain rfl := Option.some.inj hp; rfl
    · obtain rfl := Option.some.inj hp; rfl
    · obtain rfl := Option.some.inj hp; rfl
    · obtain rfl := Option.some.inj hp; rfl
    · obtain rfl := Option.some.inj hp; rfl
    · obtain rfl := Option.some.inj hp; rfl
    · simp at hp
  · simp only [List.mem_cons, List.not_mem_nil, or_false] at hp
    rcases hp with rfl | rfl | rfl | rfl | rfl | rfl | rfl <;> assumption
end Go.Proofs.YtkdhdhkfkgjcnaaDoor.PBlockRoundTrip
end

section
namespace Go.Proofs.YtkdhdhkfkgjcnaaDoor.PBlockRoundTrip
open Go.RowKit Go.Proofs.YtkdhdhkfkgjcnaaDoorW.PrintWords Go.Proofs.YtkdhdhkfkgjcnaaDoorW.PrintMore
set_option linter.unusedSimpArgs false
set_option linter.unusedVariables false

set_option maxRecDepth 50000 in
set_option maxHeartbeats 4000000 in
theorem Encode_c (x : BV) (b : PB) (s : Nat) (hs : s ≤ 8) (w : World) (hb : BlkC w x b) (hm : Sm b) :
    Calls Tryd.prog 21 #[.agg #[.slice x.A0 b.times.length x.c0, .slice x.A1 b.index.length x.c1, .slice x.A2 b.types.length x.c2, .slice x.A3 b.chars.length x.c3, .slice x.A4 b.leaps.length x.c4, .slice x.A5 b.std.length x.c5, .slice x.A6 b.ut.length x.c6], .int .i64 s] w fun e w' =>
      ∃ A c, e = .returned (.slice A (encB b s).length c) ∧ Kd.R (Kd.int .u8) 5 w' w.heap.size (fun _ => True) (.slice A (encB b s).length c) (encB b s) ∧ Below w.heap.size w w' := by
  have HC := Aside0.mk (fun W (h : Below w.heap.size w W) => hb.below h)
  have H0 := Aside0.mk (fun W (h : Below w.heap.size w W) => TEncode_c x.A0 x.c0 b.times s W (hb.below h).r0 (Nat.le_trans hm.m0 (by omega)) hs)
  have H2 := Aside0.mk (fun W (h : Below w.heap.size w W) => YEncode_c x.A2 x.c2 b.types W (hb.below h).r2 hm.m2)
  have H4 := Aside0.mk (fun W (h : Below w.heap.size w W) => LEncode_c x.A4 x.c4 b.leaps s W (hb.below h).r4 hm.m4 hs)
  have H5 := Aside0.mk (fun W (h : Below w.heap.size w W) => IEncode_c x.A5 x.c5 b.std W (hb.below h).r5 hb.n5 hm.m5)
  have H6 := Aside0.mk (fun W (h : Below w.heap.size w W) => IEncode_c x.A6 x.c6 b.ut W (hb.below h).r6 hb.n6 hm.m6)
  have HL := Aside0.mk (encB_small b s hs hm)
  obtain ⟨b0, hb0⟩ : ∃ q, encT b.times s = q := ⟨_, rfl⟩
  obtain ⟨b2, hb2⟩ : ∃ q, encY b.types = q := ⟨_, rfl⟩
  obtain ⟨b4, hb4⟩ : ∃ q, encL b.leaps s = q := ⟨_, rfl⟩
  obtain ⟨b5, hb5⟩ : ∃ q, encF b.std = q := ⟨_, rfl⟩
  obtain ⟨b6, hb6⟩ : ∃ q, encF b.ut = q := ⟨_, rfl⟩
  have HE : Aside0 (encB b s = b0 ++ b.index ++ b2 ++ b.chars ++ b4 ++ b5 ++ b6) := ⟨by rw [encB, hb0, hb2, hb4, hb5, hb6]⟩
  have HCAT : Aside0 (∀ (D0 D2 D4 D5 D6 : Option Addr) (d0 d2 d4 d5 d6 : Nat) (g W), Pts W g [(D0, d0, b0), (x.A1, x.c1, b.index), (D2, d2, b2), (x.A3, x.c3, b.chars), (D4, d4, b4), (D5, d5, b5), (D6, d6, b6)] → Calls Tryd.prog 53 #[.slice (some ⟨g, 0, none⟩) 7 7] W fun e w' => ∃ r, e = .returned r ∧ Kd.R (Kd.int .u8) 5 w' W.heap.size (fun _ => True) r (encB b s) ∧ Below W.heap.size W w') := ⟨fun D0 D2 D4 D5 D6 d0 d2 d4 d5 d6 g W h => by
    have e : catB [(D0, d0, b0), (x.A1, x.c1, b.index), (D2, d2, b2), (x.A3, x.c3, b.chars), (D4, d4, b4), (D5, d5, b5), (D6, d6, b6)] = encB b s := by rw [HE.out]; simp [catB, List.append_assoc]
    have h2 := Concat_c g _ W h (by rw [e]; exact HL.out) (by simp)
    rw [e] at h2
    exact h2⟩
  rw [hb0] at H0
  rw [hb2] at H2
  rw [hb4] at H4
  rw [hb5] at H5
  rw [hb6] at H6
  have HB0 := Aside0.mk (Bx.new w x b)
  obtain ⟨W0, hW0⟩ : ∃ W, (w.alloc (.cells #[.slice x.A0 b.times.length x.c0, .slice x.A1 b.index.length x.c1, .slice x.A2 b.types.length x.c2, .slice x.A3 b.chars.length x.c3, .slice x.A4 b.leaps.length x.c4, .slice x.A5 b.std.length x.c5, .slice x.A6 b.ut.length x.c6] 34)) = W := ⟨_, rfl⟩
  have HW0 := Aside0.mk hW0
  rw [hW0] at HB0
  clear hb hb0 hb2 hb4 hb5 hb6 hm hW0
  go_enter Tryd.func21, Tryd.ntmps21
  go_wp2_with (fail)
  rw [HW0.out]
  clear HW0
  go_region_held3 (fun W => W.cell? ⟨w.heap.size, 0, none⟩ = some (.slice x.A0 b.times.length x.c0) ∧ W.cell? ⟨w.heap.size, 1, none⟩ = some (.slice x.A1 b.index.length x.c1) ∧ W.cell? ⟨w.heap.size, 2, none⟩ = some (.slice x.A2 b.types.length x.c2) ∧ W.cell? ⟨w.heap.size, 3, none⟩ = some (.slice x.A3 b.chars.length x.c3) ∧
    W.cell? ⟨w.heap.size, 4, none⟩ = some (.slice x.A4 b.leaps.length x.c4) ∧ W.cell? ⟨w.heap.size, 5, none⟩ = some (.slice x.A5 b.std.length x.c5) ∧ W.cell? ⟨w.heap.size, 6, none⟩ = some (.slice x.A6 b.ut.length x.c6))
    (first | (with_reducible exact HB6.out.all) | (with_reducible exact HB5.out.all) | (with_reducible exact HB4.out.all) | (with_reducible exact HB3.out.all) | (with_reducible exact HB2.out.all) | (with_reducible exact HB1.out.all) | (with_reducible exact HB0.out.all) | (with_reducible exact HB0.out.drew.all) | (with_reducible exact (HB0.out.drewN _).all) | (with_reducible exact (HB5.out.alloc _).all))
    (first | (go_at_call 54; (with_reducible (first | refine (H0.out _ HB0.out.bw).mono ?_ | refine (H0.out _ HB0.out.drew.bw).mono ?_ | refine (H0.out _ (HB0.out.drewN _).bw).mono ?_)); rintro e w1 ⟨r, rfl, hr, hb⟩; obtain ⟨D0, d0, rfl, -, hc0⟩ := Kd.R_reads hr; have HC0 := Aside0.mk hc0; have HB1 := Aside0.mk ((HB0.out.drew).below hb); have HX0 := Aside0.mk hb; clear hb hr hc0) | (go_at_call 55; (with_reducible refine (H2.out _ HB1.out.bw).mono ?_); rintro e w2 ⟨r, rfl, hr, hb⟩; obtain ⟨D2, d2, rfl, -, hc2⟩ := Kd.R_reads hr; have HC2 := Aside0.mk hc2; have HB2 := Aside0.mk (HB1.out.below hb); have HX2 := Aside0.mk hb; clear hb hr hc2) | (go_at_call 56; (with_reducible refine (H4.out _ HB2.out.bw).mono ?_); rintro e w3 ⟨r, rfl, hr, hb⟩; obtain ⟨D4, d4, rfl, -, hc4⟩ := Kd.R_reads hr; have HC4 := Aside0.mk hc4; have HB3 := Aside0.mk (HB2.out.below hb); have HX4 := Aside0.mk hb; clear hb hr hc4) | (go_at_call 57; (with_reducible refine (H5.out _ HB3.out.bw).mono ?_); rintro e w4 ⟨r, rfl, hr, hb⟩; obtain ⟨D5, d5, rfl, -, hc5⟩ := Kd.R_reads hr; have HC5 := Aside0.mk hc5; have HB4 := Aside0.mk (HB3.out.below hb); have HX5 := Aside0.mk hb; clear hb hr hc5) | (go_at_call 57; (with_reducible refine (H6.out _ HB4.out.bw).mono ?_); rintro e w5 ⟨r, rfl, hr, hb⟩; obtain ⟨D6, d6, rfl, -, hc6⟩ := Kd.R_reads hr; have HC6 := Aside0.mk hc6; have HB5 := Aside0.mk (HB4.out.below hb); have HX6 := Aside0.mk hb; clear hb hr hc6; have HK : Aside0 (∀ g W, Pts W g [(D0, d0, b0), (x.A1, x.c1, b.index), (D2, d2, b2), (x.A3, x.c3, b.chars), (D4, d4, b4), (D5, d5, b5), (D6, d6, b6)] → Calls Tryd.prog 53 #[.slice (some ⟨g, 0, none⟩) 7 7] W fun e w' => ∃ r, e = .returned r ∧ Kd.R (Kd.int .u8) 5 w' W.heap.size (fun _ => True) r (encB b s) ∧ Below W.heap.size W w') := ⟨fun g W h => HCAT.out _ _ _ _ _ _ _ _ _ _ g W h⟩) | (go_at_call 53; (with_reducible refine (HK.out _ _ ?k1).mono ?_); (case k1 => exact Pts.seven (blk_new _ _) (Kd.C_below HC0.out (btr HX2.out (btr HX4.out (btr HX5.out (btr HX6.out (below_alloc (Below.refl _ _) _)))))) (Kd.C_below (HC.out _ HB5.out.bw).r1 (below_alloc (Below.refl _ _) _)) (Kd.C_below HC2.out (btr HX4.out (btr HX5.out (btr HX6.out (below_alloc (Below.refl _ _) _))))) (Kd.C_below (HC.out _ HB5.out.bw).r3 (below_alloc (Below.refl _ _) _)) (Kd.C_below HC4.out (btr HX5.out (btr HX6.out (below_alloc (Below.refl _ _) _)))) (Kd.C_below HC5.out (btr HX6.out (below_alloc (Below.refl _ _) _))) (Kd.C_below HC6.out (below_alloc (Below.refl _ _) _))); rintro e w6 ⟨r, rfl, hr, hb⟩; obtain ⟨A, c, rfl⟩ := Kd.R_slice hr; have HR6 := Aside0.mk hr; have HB6 := Aside0.mk ((HB5.out.alloc _).below hb); have HX7 := Aside0.mk hb; clear hb hr))
  go_wp2
  go_ret
  have hz := HB5.out.bw.size
  exact ⟨A, c, rfl, Kd.R_lower HR6.out (by simp; omega), (below_alloc HB5.out.bw _).trans (HX7.out.mono (by simp; omega))⟩
end Go.Proofs.YtkdhdhkfkgjcnaaDoor.PBlockRoundTrip
end

section
namespace Go.Proofs.YtkdhdhkfkgjcnaaDoor.PBlockRoundTrip
open Go.RowKit Go.Proofs.YtkdhdhkfkgjcnaaDoorW.PrintWords Go.Proofs.YtkdhdhkfkgjcnaaDoorW.PrintMore
set_option linter.unusedSimpArgs false
set_option linter.unusedVariables false


theorem add_blk (x : Addr) (k : Nat) : (x.add k).block = x.block := by unfold Addr.add; split <;> rfl
theorem C_far {W W' : World} {A : Option Addr} {n : Nat} {xs : List Int} {g8 g9 : Nat} (h : (Kd.int .u8).C W A n xs) (hne : ∀ ad, A = some ad → ad.block ≠ g8 ∧ ad.block ≠ g9) (hk : ∀ k, k ≠ g8 → k ≠ g9 → W'.heap[k]? = W.heap[k]?) : (Kd.int .u8).C W' A n xs := by
  refine ⟨h.1, h.2.1, fun hn => ?_⟩
  obtain ⟨ad, e, hc⟩ := h.2.2 hn
  obtain ⟨e8, e9⟩ := hne ad e
  refine ⟨ad, e, fun j p hj => ?_⟩
  obtain ⟨cs, hl, hK, hcs⟩ := hc j p hj
  refine ⟨cs, hl, hK, fun i u hu => ?_⟩
  rw [World.cell?_of_block (w := W) (hk _ (by rw [add_blk]; exact e8) (by rw [add_blk]; exact e9))]
  exact hcs i u hu
theorem part_ne {W : World} {b : Nat} {D A : Option Addr} {cd : Nat} {d : List Int} {lo : Int} {g t : Nat} {c : Array Value} (h : Kd.R (Kd.int .u8) 5 W b (fun _ => True) (.slice D d.length cd) d) (hp : PartOf D lo A) (hb : W.heap[g]? = some (.cells c t (0, 0))) (ht : 5 ≠ t) : ∀ ad, A = some ad → ad.block ≠ g := by
  intro ad e hg
  have hn := Kd.R_ne h hb ht
  rcases D with _ | x
  · rcases hp with h1 | h1 <;> rw [e] at h1 <;> cases h1
  · rcases hp with h1 | h1
    · rw [e] at h1
      cases h1
      exact hn (congrArg some hg.symm)
    · rw [e] at h1
      cases h1
      have hg2 : x.block = g := (add_blk x _).symm.trans hg
      exact hn (congrArg some hg2.symm)
theorem bt {a b c : World} (h1 : Below a.heap.size a b) (h2 : Below b.heap.size b c) : Below a.heap.size a c := h1.trans (h2.mono h1.size)
theorem heap_far (w : World) (g j : Nat) (u : Value) (k : Nat) (h : k ≠ g) : (w.setCell ⟨g, j, none⟩ u).heap[k]? = w.heap[k]? := Below.heap_setCell w ⟨g, j, none⟩ u k h
/-- The three sections that can be bad are good. -/
def Good (d : List Int) (O : Nat → Int) : Prop := FlagT (sec d O 2) ((sec d O 2).length / 6) ∧ Flags (sec d O 5) ∧ Flags (sec d O 6)
/-- The rows of a decoded block. -/
structure DecRows (base : Nat) (W : World) (s : Nat) (d : List Int) (O : Nat → Int) (v0 : Value) (A1 : Option Addr) (v2 : Value) (A3 : Option Addr) (v4 v5 v6 : Value) : Prop where
  r0 : Kd.R (Kd.int .i64) 2 W base (fun _ => True) v0 (timesOf (sec d O 0) s ((sec d O 0).length / s))
  c1 : Kd.C (Kd.int .u8) W A1 (sec d O 1).length (sec d O 1)
  r2 : Kd.R k55 55 W base (fun _ => True) v2 (typesOf (sec d O 2) ((sec d O 2).length / 6))
  c3 : Kd.C (Kd.int .u8) W A3 (sec d O 3).length (sec d O 3)
  r4 : Kd.R k79 79 W base (fun _ => True) v4 (leapsOf (sec d O 4) s ((sec d O 4).length / (s + 4)))
  r5 : Kd.R Kd.bool 4 W base (fun _ => True) v5 (flagsOf (sec d O 5))
  r6 : Kd.R Kd.bool 4 W base (fun _ => True) v6 (flagsOf (sec d O 6))
  dd : ∃ D cd, Kd.R (Kd.int .u8) 5 W base (fun _ => True) (.slice D d.length cd) d ∧ PartOf D (O 1) A1 ∧ PartOf D (O 3) A3

theorem S7.make {w wk wo : World} {A : Option Addr} {n c : Nat} {p e t v a1 a2 a3 a4 a5 a6 p' : Int} {D : Option Addr} {cd : Nat} {d : List Int} {b : Nat} (O : Nat → Int) (h : W4 w wk A n c p e t v a1 a2 a3 a4 a5 a6) (hd : Kd.R (Kd.int .u8) 5 wk b (fun _ => True) (.slice D d.length cd) d) (hbase : w.heap.size ≤ b) (hG : Gl w) (hc : d.length ≤ cd)
    (hb : Below ((wk.alloc (.cells #[.slice D d.length cd] 22)).alloc (.cells #[.slice A n c, .int .i64 p', .int .i64 0, .int .i64 t] 25)).heap.size ((wk.alloc (.cells #[.slice D d.length cd] 22)).alloc (.cells #[.slice A n c, .int .i64 p', .int .i64 0, .int .i64 t] 25)) wo) :
    S7 w (wo.alloc (.cells #[.int .u64 (O 0), .int .u64 (O 1), .int .u64 (O 2), .int .u64 (O 3), .int .u64 (O 4), .int .u64 (O 5), .int .u64 (O 6), .int .u64 (O 7)] 62)) wk.heap.size (wk.heap.size + 1) wo.heap.size A n c p' t D cd d O := by
  have hsz := hb.size
  have hb2 : Below wk.heap.size wk (wo.alloc (.cells #[.int .u64 (O 0), .int .u64 (O 1), .int .u64 (O 2), .int .u64 (O 3), .int .u64 (O 4), .int .u64 (O 5), .int .u64 (O 6), .int .u64 (O 7)] 62)) := below_alloc ((below_alloc (below_alloc (Below.refl _ wk) _) _).trans (hb.mono (by simp <;> omega))) _
  have hbw : Below w.heap.size w (wo.alloc (.cells #[.int .u64 (O 0), .int .u64 (O 1), .int .u64 (O 2), .int .u64 (O 3), .int .u64 (O 4), .int .u64 (O 5), .int .u64 (O 6), .int .u64 (O 7)] 62)) := h.bw.trans (hb2.mono h.bw.size)
  have k13 := blk_new (wk.alloc (.cells #[.slice D d.length cd] 22)) (.cells #[.slice A n c, .int .i64 p', .int .i64 0, .int .i64 t] 25)
  rw [World.size_alloc] at k13
  exact ⟨blk_below h.b8 hb2, blk_below h.b9 hb2, blk_alloc (blk_below (blk_alloc (blk_new wk _) _) hb) _, blk_alloc (blk_below k13 hb) _, blk_new wo _, Kd.R_lower (Kd.R_below hd hb2) hbase, hc, hG.below hbw, hbw⟩

theorem cell_far1 {w : World} {g j b k : Nat} {u v : Value} (h : w.cell? ⟨g, j, none⟩ = some v) (hne : b ≠ g) : (w.setCell ⟨b, k, none⟩ u).cell? ⟨g, j, none⟩ = some v := by
  rw [World.cell?_of_block (Below.heap_setCell w ⟨b, k, none⟩ u g (fun e => hne e.symm))]
  exact h
theorem cell_drew1 {w : World} {p : Addr} {v : Value} (h : w.cell? p = some v) : w.drew.cell? p = some v := h
theorem S7.all {w W : World} {g12 g13 g14 : Nat} {A : Option Addr} {n c : Nat} {p t : Int} {D : Option Addr} {cd : Nat} {d : List Int} {O : Nat → Int} (h : S7 w W g12 g13 g14 A n c p t D cd d O) :
    W.cell? ⟨g13, 0, none⟩ = some (.slice A n c) ∧ W.cell? ⟨g13, 1, none⟩ = some (.int .i64 p) ∧ W.cell? ⟨g13, 2, none⟩ = some (.int .i64 0) ∧ W.cell? ⟨g13, 3, none⟩ = some (.int .i64 t) :=
  ⟨blk_cell h.b13 0, blk_cell h.b13 1, blk_cell h.b13 2, blk_cell h.b13 3⟩

theorem DecRows.make {w W W' : World} {s : Nat} {d : List Int} {O : Nat → Int} {g12 g13 g14 : Nat} {A : Option Addr} {n c : Nat} {p t : Int} {D : Option Addr} {cd : Nat} {v0 v2 v4 v5 v6 : Value} {A1 A3 : Option Addr} (h : S7 w W g12 g13 g14 A n c p t D cd d O)
    (r0 : Kd.R (Kd.int .i64) 2 W w.heap.size (fun _ => True) v0 (timesOf (sec d O 0) s ((sec d O 0).length / s)))
    (c1 : Kd.C (Kd.int .u8) W A1 (sec d O 1).length (sec d O 1))
    (r2 : Kd.R k55 55 W w.heap.size (fun _ => True) v2 (typesOf (sec d O 2) ((sec d O 2).length / 6)))
    (c3 : Kd.C (Kd.int .u8) W A3 (sec d O 3).length (sec d O 3))
    (r4 : Kd.R k79 79 W w.heap.size (fun _ => True) v4 (leapsOf (sec d O 4) s ((sec d O 4).length / (s + 4))))
    (r5 : Kd.R Kd.bool 4 W w.heap.size (fun _ => True) v5 (flagsOf (sec d O 5)))
    (r6 : Kd.R Kd.bool 4 W w.heap.size (fun _ => True) v6 (flagsOf (sec d O 6)))
    (p1 : PartOf D (O 1) A1) (p3 : PartOf D (O 3) A3)
    (hk : ∀ k, k ≠ w.heap.size + 1 + 1 → k ≠ w.heap.size + 1 + 1 + 1 → W'.heap[k]? = W.heap[k]?) : DecRows w.heap.size W' s d O v0 A1 v2 A3 v4 v5 v6 := by
  have e1 := part_ne h.hd p1 h.b8 (by decide)
  have e2 := part_ne h.hd p1 h.b9 (by decide)
  have e3 := part_ne h.hd p3 h.b8 (by decide)
  have e4 := part_ne h.hd p3 h.b9 (by decide)
  exact ⟨R_two r0 h.b8 h.b9 (by decide) (by decide) hk, C_far c1 (fun ad e => ⟨e1 ad e, e2 ad e⟩) hk, R_two r2 h.b8 h.b9 (by decide) (by decide) hk, C_far c3 (fun ad e => ⟨e3 ad e, e4 ad e⟩) hk, R_two r4 h.b8 h.b9 (by decide) (by decide) hk,
    R_two r5 h.b8 h.b9 (by decide) (by decide) hk, R_two r6 h.b8 h.b9 (by decide) (by decide) hk, ⟨D, cd, R_two h.hd h.b8 h.b9 (by decide) (by decide) hk, p1, p3⟩⟩
end Go.Proofs.YtkdhdhkfkgjcnaaDoor.PBlockRoundTrip
end

section
namespace Go.Proofs.YtkdhdhkfkgjcnaaDoor.PBlockRoundTrip
open Go.RowKit Go.Proofs.YtkdhdhkfkgjcnaaDoorW.PrintWords Go.Proofs.YtkdhdhkfkgjcnaaDoorW.PrintMore
set_option linter.unusedSimpArgs false
set_option linter.unusedVariables false

set_option maxRecDepth 50000 in
set_option maxHeartbeats 20000000 in
theorem Decode_fit (A : Option Addr) (c : Nat) (l : List Int) (p t v a1 a2 a3 a4 a5 a6 at_ : Int) (s : Nat) (hs : s = 4 ∨ s = 8) (w : World) (hA : Kd.C (Kd.int .u8) w A l.length l) (hlc : l.length ≤ c) (hB : Byt l) (hG : Gl w) (hH : Hd a1 a2 a3 a4 a5 a6) (h0 : 0 ≤ p) (h1 : p ≤ l.length) (hn : l.length ≤ 8796093022208) (tt : Int) (htt : tot a1 a2 a3 a4 a5 a6 s = tt) (hfit : tt ≤ l.length - p) (d : List Int) (hdd : (l.drop p.toNat).take tt.toNat = d) :
    Calls Tryd.prog 12 #[.agg #[.slice A l.length c, .int .i64 p, .int .i64 0, .int .i64 t], .agg #[.int .i64 v, .int .u32 a1, .int .u32 a2, .int .u32 a3, .int .u32 a4, .int .u32 a5, .int .u32 a6], .int .i64 s, .int .i64 at_] w fun e w' =>
      ((Good d (offs a1 a2 a3 a4 a5 a6 s) ∧ ∃ v0 A1 v2 A3 v4 v5 v6, e = .returned (.tuple #[.agg #[v0, .slice A1 (sec d (offs a1 a2 a3 a4 a5 a6 s) 1).length (sec d (offs a1 a2 a3 a4 a5 a6 s) 1).length, v2, .slice A3 (sec d (offs a1 a2 a3 a4 a5 a6 s) 3).length (sec d (offs a1 a2 a3 a4 a5 a6 s) 3).length, v4, v5, v6], .agg #[.slice A l.length c, .int .i64 (p + tt), .int .i64 0, .int .i64 t]]) ∧ DecRows w.heap.size w' s d (offs a1 a2 a3 a4 a5 a6 s) v0 A1 v2 A3 v4 v5 v6) ∨
       (¬ Good d (offs a1 a2 a3 a4 a5 a6 s) ∧ e = .returned (.tuple #[.agg #[.slice none 0 0, .slice none 0 0, .slice none 0 0, .slice none 0 0, .slice none 0 0, .slice none 0 0, .slice none 0 0], .agg #[.slice A l.length c, .int .i64 (p + tt), .int .i64 10, .int .i64 at_]]))) ∧ Below w.heap.size w w' := by
  have hs4 : (4 : Int) ≤ s := by omega
  have hs8 : (s : Int) ≤ 8 := by omega
  obtain ⟨n, hn'⟩ : ∃ n, l.length = n := ⟨_, rfl⟩
  have HR := Aside0.mk (fun W => Rest_ok A n c p t W h0 (by omega) (by omega))
  have HT := Aside0.mk (fun W => LTotal_c v a1 a2 a3 a4 a5 a6 s (n - p) W hH hs4 hs8 (by omega))
  obtain ⟨ht0, ht1⟩ := tot_bd hH hs4 hs8
  rw [htt] at HT ht0 ht1
  rw [if_pos (by omega), decide_eq_true (show tt ≤ (n : Int) - p by omega)] at HT
  have HK := Aside0.mk (fun W hA => Take_ok A c l p t tt W hA hlc h0 h1 (by omega) ht0 hfit)
  rw [hn'] at HK
  have HF := Aside0.mk (fun W => Fail_new A n c (p + tt) 10 t at_ W (by omega))
  have HO := Aside0.mk (fun W => Offsets_c v a1 a2 a3 a4 a5 a6 s W hH hs4 hs8)
  have H4 := W4.new w A n c p 0 t v a1 a2 a3 a4 a5 a6
  obtain ⟨W0, hW0⟩ : ∃ W, ((((w.alloc (.cells #[.slice A n c, .int .i64 p, .int .i64 0, .int .i64 t] 25)).alloc (.cells #[.int .i64 v, .int .u32 a1, .int .u32 a2, .int .u32 a3, .int .u32 a4, .int .u32 a5, .int .u32 a6] 28)).alloc (.cells #[.slice none 0 0, .slice none 0 0, .slice none 0 0, .slice none 0 0, .slice none 0 0, .slice none 0 0, .slice none 0 0] 34)).alloc (.cells #[.slice none 0 0, .int .i64 0, .int .i64 0, .int .i64 0] 25)) = W := ⟨_, rfl⟩
  have HW0 := Aside0.mk hW0
  have HAA := Aside0.mk hA
  have HBB := Aside0.mk hB
  have HGG := Aside0.mk hG
  have HHH := Aside0.mk hH
  have Htt := Aside0.mk htt
  have Hdd := Aside0.mk hdd
  clear hA hB hG htt hH hdd
  rw [hn'] at HAA ⊢
  rw [hW0] at H4
  clear hW0
  have HS4 := Aside0.mk H4
  clear H4
  go_enter Tryd.func12, Tryd.ntmps12
  go_wp2_with (fail)
  rw [HW0.out]
  clear HW0
  have x0 := blk_cell HS4.out.b4 0
  have x1 := blk_cell HS4.out.b4 1
  have x2 := blk_cell HS4.out.b4 2
  have x3 := blk_cell HS4.out.b4 3
  have y0 := blk_cell HS4.out.b5 0
  have y1 := blk_cell HS4.out.b5 1
  have y2 := blk_cell HS4.out.b5 2
  have y3 := blk_cell HS4.out.b5 3
  have y4 := blk_cell HS4.out.b5 4
  have y5 := blk_cell HS4.out.b5 5
  have y6 := blk_cell HS4.out.b5 6
  simp at x0 x1 x2 x3 y0 y1 y2 y3 y4 y5 y6
  have hs0 := HS4.out.sz
  have hwr : IntKind.u64.wrap ((n : Int) - p) = (n : Int) - p := by rw [IntKind.wrap_u64]; omega
  go_region_held3 (fun w' => w'.cell? ⟨w.heap.size, 0, none⟩ = some (.slice A n c) ∧ w'.cell? ⟨w.heap.size, 1, none⟩ = some (.int .i64 p) ∧ w'.cell? ⟨w.heap.size, 2, none⟩ = some (.int .i64 0) ∧ w'.cell? ⟨w.heap.size, 3, none⟩ = some (.int .i64 t) ∧
      w'.cell? ⟨w.heap.size + 1, 0, none⟩ = some (.int .i64 v) ∧ w'.cell? ⟨w.heap.size + 1, 1, none⟩ = some (.int .u32 a1) ∧ w'.cell? ⟨w.heap.size + 1, 2, none⟩ = some (.int .u32 a2) ∧ w'.cell? ⟨w.heap.size + 1, 3, none⟩ = some (.int .u32 a3) ∧ w'.cell? ⟨w.heap.size + 1, 4, none⟩ = some (.int .u32 a4) ∧ w'.cell? ⟨w.heap.size + 1, 5, none⟩ = some (.int .u32 a5) ∧ w'.cell? ⟨w.heap.size + 1, 6, none⟩ = some (.int .u32 a6))
    (first | (refine ⟨?_, ?_, ?_, ?_, ?_, ?_, ?_, ?_, ?_, ?_, ?_⟩ <;> (go_keep; done)) | (go_split_ands; refine ⟨?_, ?_, ?_, ?_, ?_, ?_, ?_, ?_, ?_, ?_, ?_⟩ <;> (first | (rw [hbb.cell (by simp <;> omega)]; assumption) | (rw [hba.cell (by simp <;> omega)]; assumption))))
    (first | (go_at_call 26; (with_reducible refine (HR.out _).mono ?_); rintro e wa ⟨rfl, hba⟩; have hsa : w.heap.size + 4 ≤ wa.heap.size := by { have := hba.size; (try simp at this); omega }) | (go_at_call 25; (with_reducible refine (HT.out _).mono ?_); rintro e wb ⟨rfl, hbb⟩; have hsb : w.heap.size + 4 ≤ wb.heap.size := by { have := hbb.size; (try simp at this); omega }))
  clear hwr
  have HS5 := Aside0.mk ((HS4.out.drew.below hba).below hbb)
  clear hba hbb hsa x0 x1 x2 x3 y0 y1 y2 y3 y4 y5 y6
  go_wp2_with (fail)
  have hAb := Kd.C_below HAA.out HS5.out.bw
  (with_reducible refine (HK.out _ hAb).mono ?_)
  clear hAb
  rintro e wk ⟨dv, rfl, hdr, hbk⟩
  rw [Hdd.out] at hdr
  obtain ⟨D, cd, rfl, hdc, -⟩ := Kd.R_reads hdr
  have HS6 := Aside0.mk (HS5.out.below hbk)
  have HD6 := Aside0.mk hdr
  have hs6 := HS6.out.sz
  have hbs := HS5.out.sz
  have hks := hbk.size
  have hdl : d.length = tt.toNat := by rw [← Hdd.out, List.length_take, List.length_drop]; omega
  have HDL := Aside0.mk hdl
  have HByt := Aside0.mk (show Byt d by rw [← Hdd.out]; exact (HBB.out.drop _).take _)
  have hO := Aside0.mk (show ∀ i, i ≤ 6 → 0 ≤ offs a1 a2 a3 a4 a5 a6 s i ∧ offs a1 a2 a3 a4 a5 a6 s i ≤ offs a1 a2 a3 a4 a5 a6 s (i + 1) ∧ offs a1 a2 a3 a4 a5 a6 s (i + 1) ≤ d.length by intro i hi; have h := offs_bd HHH.out hs4 hs8 i hi; rw [Htt.out] at h; omega)
  have HL := Aside0.mk (show ∀ i, (sec d (offs a1 a2 a3 a4 a5 a6 s) i).length ≤ 70368744177664 by intro i; have : (sec d (offs a1 a2 a3 a4 a5 a6 s) i).length ≤ d.length := by { unfold sec; rw [List.length_take, List.length_drop]; omega }; omega)
  have HL2 := Aside0.mk (show ∀ i, (sec d (offs a1 a2 a3 a4 a5 a6 s) i).length ≤ 8796093022208 by intro i; have : (sec d (offs a1 a2 a3 a4 a5 a6 s) i).length ≤ d.length := by { unfold sec; rw [List.length_take, List.length_drop]; omega }; omega)
  clear hdl
  have x0 := blk_cell HS6.out.b4 0
  have x1 := blk_cell HS6.out.b4 1
  have x2 := blk_cell HS6.out.b4 2
  have x3 := blk_cell HS6.out.b4 3
  have y0 := blk_cell HS6.out.b5 0
  have y1 := blk_cell HS6.out.b5 1
  have y2 := blk_cell HS6.out.b5 2
  have y3 := blk_cell HS6.out.b5 3
  have y4 := blk_cell HS6.out.b5 4
  have y5 := blk_cell HS6.out.b5 5
  have y6 := blk_cell HS6.out.b5 6
  simp at x0 x1 x2 x3 y0 y1 y2 y3 y4 y5 y6
  clear hdr hbk
  have g0 : w.heap.size < wk.heap.size := by omega
  have g1 : w.heap.size + 1 < wk.heap.size := by omega
  have g2 : w.heap.size + 1 ≠ wk.heap.size := by omega
  have g3 : w.heap.size + 1 ≠ wk.heap.size + 1 := by omega
  have g4 : wk.heap.size ≠ w.heap.size + 1 := by omega
  have g5 : wk.heap.size ≠ w.heap.size := by omega
  have g6 : w.heap.size ≠ wk.heap.size + 1 := by omega
  have hmf : ∀ fn first cap w, (Instr.makeFunc fn first cap).run Tryd.prog w = .ok (.func fn first cap) w := fun _ _ _ _ => rfl
  go_wp2_with (fail)
  (with_reducible refine (HO.out _).mono ?_)
  rintro e wo ⟨rfl, hbo⟩
  have HS7 := Aside0.mk (S7.make (offs a1 a2 a3 a4 a5 a6 s) HS6.out HD6.out (Nat.le_trans (Nat.le_of_lt (by omega)) (Nat.le_refl _)) HGG.out hdc hbo)
  clear hbo
  simp only [offs] at HS7
  obtain ⟨W7, hW7⟩ : ∃ W, (wo.alloc (.cells #[.int .u64 0, .int .u64 (a4 * s), .int .u64 (a4 * s + a4), .int .u64 (a4 * s + a4 + a5 * 6), .int .u64 (a4 * s + a4 + a5 * 6 + a6), .int .u64 (a4 * s + a4 + a5 * 6 + a6 + a3 * (s + 4)), .int .u64 (a4 * s + a4 + a5 * 6 + a6 + a3 * (s + 4) + a2), .int .u64 (a4 * s + a4 + a5 * 6 + a6 + a3 * (s + 4) + a2 + a1)] 62)) = W := ⟨_, rfl⟩
  have HP := Aside0.mk (fun W (h : S7 w W wk.heap.size (wk.heap.size + 1) wo.heap.size A n c (p + tt) t D cd d (offs a1 a2 a3 a4 a5 a6 s)) i iz hiz hi => S7.part h i iz hiz hi hO.out)
  clear hmf x0 x1 x2 x3 y0 y1 y2 y3 y4 y5 y6 g0 g1 g2 g3 g4 g5 g6 hs6 hbs hks
  go_wp2_with (fail)
  rw [hW7] at HS7
  clear hW7
  (with_reducible refine (HP.out _ HS7.out 2 2 rfl (by omega)).mono ?_)
  rintro e W8 ⟨A2, rfl, HA2, HC2, HS8, HB8⟩
  go_wp2_with (fail)
  (with_reducible refine (TDecode_b A2 _ _ _ HC2.out (Nat.le_refl _) (HL.out 2) (sec_byt HByt.out _ _) HS8.out.gl).mono ?_)
  rintro e W9 ⟨v2, b1, rfl, HT1, HT0, hb⟩
  have HS9 := Aside0.mk (HS8.out.below hb)
  have HB9 := Aside0.mk hb
  clear hb
  go_wp2_with (fail)
  (with_reducible refine (HP.out _ HS9.out 5 5 rfl (by omega)).mono ?_)
  rintro e W10 ⟨A5, rfl, HA5, HC5, HS10, HB10⟩
  go_wp2_with (fail)
  (with_reducible refine (IDecode_b A5 _ _ _ HC5.out (Nat.le_trans (HL.out 5) (by omega)) (sec_byt HByt.out _ _) HS10.out.gl).mono ?_)
  rintro e W11 ⟨v5, b2, rfl, HF1, HF0, hb⟩
  have HS11 := Aside0.mk (HS10.out.below hb)
  have HB11 := Aside0.mk hb
  clear hb
  go_wp2_with (fail)
  (with_reducible refine (HP.out _ HS11.out 6 6 rfl (by omega)).mono ?_)
  rintro e W12 ⟨A6, rfl, HA6, HC6, HS12, HB12⟩
  go_wp2_with (fail)
  (with_reducible refine (IDecode_b A6 _ _ _ HC6.out (Nat.le_trans (HL.out 6) (by omega)) (sec_byt HByt.out _ _) HS12.out.gl).mono ?_)
  rintro e W13 ⟨v6, b3, rfl, HU1, HU0, hb⟩
  have HS13 := Aside0.mk (HS12.out.below hb)
  have HB13 := Aside0.mk hb
  clear hb
  have q8 := fun j => blk_cell HS13.out.b8 j
  have f8 := fun j => blk_frozen HS13.out.b8 j
  have q9 := fun j => blk_cell HS13.out.b9 j
  have f9 := fun j => blk_frozen HS13.out.b9 j
  have x0 := blk_cell HS13.out.b13 0
  have x1 := blk_cell HS13.out.b13 1
  have x2 := blk_cell HS13.out.b13 2
  have x3 := blk_cell HS13.out.b13 3
  simp at x0 x1 x2 x3
  cases b1 <;> cases b2 <;> cases b3
  iterate 7 focus (
    have hbad : ¬ Good d (offs a1 a2 a3 a4 a5 a6 s) := by { intro h; first | exact HT0.out rfl h.1 | exact HF0.out rfl h.2.1 | exact HU0.out rfl h.2.2 }
    have hz13 := blk_lt HS13.out.b8
    have hz14 := blk_lt HS13.out.b9
    go_wp2_with (go_at_call 27; (with_reducible refine (HF.out _).mono ?_); rintro e wc ⟨rfl, hbc⟩; have HS14 := Aside0.mk (HS13.out.below hbc); clear hbc; have hz1 := blk_lt HS14.out.b8; have hz2 := blk_lt HS14.out.b9; have c8 := fun j => blk_cell HS14.out.b8 j; have f8 := fun j => blk_frozen HS14.out.b8 j; have c9 := fun j => blk_cell HS14.out.b9 j; have f9 := fun j => blk_frozen HS14.out.b9 j)
    refine bodyPost_ret (v := .tuple #[.agg #[.slice none 0 0, .slice none 0 0, .slice none 0 0, .slice none 0 0, .slice none 0 0, .slice none 0 0, .slice none 0 0], .agg #[.slice A n c, .int .i64 (p + tt), .int .i64 10, .int .i64 at_]]) (by simp [results, Tryd.results12, go_sem, c8, c9]) rfl ⟨.inr ⟨hbad, rfl⟩, ?_⟩
    have hb1 := HS14.out.bw
    repeat (first | (with_reducible exact hb1) | (with_reducible refine pw_below_drewN ?_ _) | (with_reducible refine Below.drew ?_) | (with_reducible refine Below.setCell ?_ (by simp <;> omega) _))
    done)
  obtain ⟨hg2, hr2⟩ := HT1.out rfl
  obtain ⟨hg5, hr5⟩ := HF1.out rfl
  obtain ⟨hg6, hr6⟩ := HU1.out rfl
  obtain ⟨AT, cT, rfl⟩ := Kd.R_slice hr2
  obtain ⟨AF, cF, rfl⟩ := Kd.R_slice hr5
  obtain ⟨AU, cU, rfl⟩ := Kd.R_slice hr6
  have HGood := Aside0.mk (show Good d (offs a1 a2 a3 a4 a5 a6 s) from ⟨hg2, hg5, hg6⟩)
  have HR2 := Aside0.mk hr2
  have HR5 := Aside0.mk hr5
  have HR6 := Aside0.mk hr6
  have hs6 := HS6.out.sz
  have n1 : wk.heap.size + 1 ≠ w.heap.size + 1 + 1 := by omega
  have n2 : w.heap.size + 1 + 1 ≠ wk.heap.size + 1 := by omega
  have n3 : wk.heap.size + 1 ≠ w.heap.size + 1 + 1 + 1 := by omega
  have n4 : w.heap.size + 1 + 1 + 1 ≠ wk.heap.size + 1 := by omega
  clear hs6 q8 f8 q9 f9
  clear hg2 hg5 hg6 hr2 hr5 hr6 HT0 HF0 HU0 HT1 HF1 HU1
  go_wp2_with (fail)
  go_region_held3 (fun w' => w'.cell? ⟨wk.heap.size + 1, 0, none⟩ = some (.slice A n c) ∧ w'.cell? ⟨wk.heap.size + 1, 1, none⟩ = some (.int .i64 (p + tt)) ∧ w'.cell? ⟨wk.heap.size + 1, 2, none⟩ = some (.int .i64 0) ∧ w'.cell? ⟨wk.heap.size + 1, 3, none⟩ = some (.int .i64 t))
    (first | (with_reducible exact HSf.out.all) | (with_reducible exact HSe.out.all) | (with_reducible exact HSd.out.all) | (with_reducible exact HSc.out.all) | (with_reducible exact HSb.out.all) | (with_reducible exact HSa.out.all) | (with_reducible exact HS13.out.all) | (with_reducible exact HS13.out.drew.all) | (with_reducible exact (HS13.out.drewN _).all) | (go_split_ands; refine ⟨?_, ?_, ?_, ?_⟩ <;> (repeat (first | (with_reducible assumption) | (with_reducible refine cell_far1 ?_ n2) | (with_reducible refine cell_far1 ?_ n4) | (with_reducible refine cell_drew1 ?_)))))
    (first | (go_at_call 30; (with_reducible (first | refine (HP.out _ HS13.out 0 0 rfl (by omega)).mono ?_ | refine (HP.out _ HS13.out.drew 0 0 rfl (by omega)).mono ?_ | refine (HP.out _ (HS13.out.drewN _) 0 0 rfl (by omega)).mono ?_)); rintro e wa ⟨Aa, rfl, HAa, HCa, HSa, HBa⟩) | (go_at_call 33; (with_reducible refine (XDecode_b Aa _ _ s hs _ HCa.out (Nat.le_refl _) (HL2.out 0) (sec_byt HByt.out _ _)).mono ?_); rintro e wb2 ⟨v0, rfl, HX, hb⟩; obtain ⟨AX, cX, rfl⟩ := Kd.R_slice HX.out; have HSb := Aside0.mk (HSa.out.below hb); have HBb := Aside0.mk hb; clear hb) | (go_at_call 30; (with_reducible refine (HP.out _ HSb.out 1 1 rfl (by omega)).mono ?_); rintro e wc ⟨Ac, rfl, HAc, HCc, HSc, HBc⟩) | (go_at_call 30; (with_reducible refine (HP.out _ HSc.out 3 3 rfl (by omega)).mono ?_); rintro e wd ⟨Ad, rfl, HAd, HCd, HSd, HBd⟩) | (go_at_call 30; (with_reducible refine (HP.out _ HSd.out 4 4 rfl (by omega)).mono ?_); rintro e we ⟨Ae, rfl, HAe, HCe, HSe, HBe⟩) | (go_at_call 34; (with_reducible refine (LDecode_b Ae _ _ s hs _ HCe.out (Nat.le_refl _) (HL2.out 4) (sec_byt HByt.out _ _)).mono ?_); rintro e wf2 ⟨v4, rfl, HY, hb⟩; obtain ⟨AY, cY, rfl⟩ := Kd.R_slice HY.out; have HSf := Aside0.mk (HSe.out.below hb); have HBf := Aside0.mk hb; clear hb; have c8 := fun j => blk_cell HSf.out.b8 j; have f8 := fun j => blk_frozen HSf.out.b8 j; have c9 := fun j => blk_cell HSf.out.b9 j; have f9 := fun j => blk_frozen HSf.out.b9 j; have hz8 := blk_lt HSf.out.b8; have hz9 := blk_lt HSf.out.b9))
  go_wp2
  refine bodyPost_ret (v := .tuple #[.agg #[.slice AX (timesOf (sec d (offs a1 a2 a3 a4 a5 a6 s) 0) s ((sec d (offs a1 a2 a3 a4 a5 a6 s) 0).length / s)).length cX, .slice Ac (sec d (offs a1 a2 a3 a4 a5 a6 s) 1).length (sec d (offs a1 a2 a3 a4 a5 a6 s) 1).length, .slice AT (typesOf (sec d (offs a1 a2 a3 a4 a5 a6 s) 2) ((sec d (offs a1 a2 a3 a4 a5 a6 s) 2).length / 6)).length cT, .slice Ad (sec d (offs a1 a2 a3 a4 a5 a6 s) 3).length (sec d (offs a1 a2 a3 a4 a5 a6 s) 3).length, .slice AY (leapsOf (sec d (offs a1 a2 a3 a4 a5 a6 s) 4) s ((sec d (offs a1 a2 a3 a4 a5 a6 s) 4).length / (s + 4))).length cY, .slice AF (flagsOf (sec d (offs a1 a2 a3 a4 a5 a6 s) 5)).length cF, .slice AU (flagsOf (sec d (offs a1 a2 a3 a4 a5 a6 s) 6)).length cU], .agg #[.slice A n c, .int .i64 (p + tt), .int .i64 0, .int .i64 t]]) (by simp [results, Tryd.results12, go_sem, c8, c9]) rfl ⟨.inl ⟨HGood.out, _, Ac, _, Ad, _, _, _, rfl, ?_⟩, ?_⟩
  · have n14 := HBf.out
    have nd := bt HBe.out n14
    have nc := bt HBd.out nd
    have nb := bt HBc.out nc
    have na := bt HBb.out nb
    have n13 := bt (Below.drew (Below.refl W13.heap.size W13)) (bt HBa.out na)
    have n12 := bt HB13.out n13
    have n11 := bt HB12.out n12
    have n10 := bt HB11.out n11
    have n9 := bt HB10.out n10
    have r0 := Kd.R_lower (Kd.R_below HX.out nb) HSa.out.bw.size
    have r2 := Kd.R_lower (Kd.R_below HR2.out n9) HS8.out.bw.size
    have r4 := Kd.R_lower HY.out HSe.out.bw.size
    have r5 := Kd.R_lower (Kd.R_below HR5.out n11) HS10.out.bw.size
    have r6 := Kd.R_lower (Kd.R_below HR6.out n13) HS12.out.bw.size
    have k1 := Kd.C_below HCc.out nc
    have k3 := Kd.C_below HCd.out nd
    refine DecRows.make HSf.out r0 k1 r2 k3 r4 r5 r6 HAc.out HAd.out ?_
    intro k h8 h9
    rw [heap_far _ _ _ _ k h9, heap_far _ _ _ _ k h9, heap_far _ _ _ _ k h9, heap_far _ _ _ _ k h9, heap_far _ _ _ _ k h8, heap_far _ _ _ _ k h8, heap_far _ _ _ _ k h8, heap_far _ _ _ _ k h8, heap_far _ _ _ _ k h8, heap_far _ _ _ _ k h8, heap_far _ _ _ _ k h8]
  · have hb1 := HSf.out.bw
    repeat (first | (with_reducible exact hb1) | (with_reducible refine pw_below_drewN ?_ _) | (with_reducible refine Below.drew ?_) | (with_reducible refine Below.setCell ?_ (by simp <;> omega) _))
end Go.Proofs.YtkdhdhkfkgjcnaaDoor.PBlockRoundTrip
end
