/- The texts I K P2 Lp M N. -/
import Derived.Test.YtkdhdhkfkgjcnaaDoorKbBlockRoundTrip

section
namespace Go.Proofs.YtkdhdhkfkgjcnaaDoor.PBlockRoundTrip
open Go.RowKit Go.Proofs.YtkdhdhkfkgjcnaaDoorW.PrintWords Go.Proofs.YtkdhdhkfkgjcnaaDoorW.PrintMore
set_option linter.unusedSimpArgs false
set_option linter.unusedVariables false

theorem Int4_c (A : Option Addr) (c : Nat) (l : List Int) (w : World) (hA : Kd.C (Kd.int .u8) w A l.length l) (hlc : l.length ≤ c) (hB : Byt l) (hl : 4 ≤ l.length) (hm : l.length ≤ 140737488355328) :
    Calls Tryd.prog 68 #[.slice A l.length c, .int .i64 0, .int .i64 4] w fun e w' => e = .returned (.tuple #[.int .i64 (sx 4 (beV l 0 4)), .bool true]) ∧ ∃ n, w.drewN n = w' := by
  refine (bigendian_Int.calls 10 A c l 0 4 _ _ w hA hlc (int_f4 hB 0 hl hm 10 (by omega))).mono ?_
  rintro e w' ⟨rfl, ⟨n, rfl⟩⟩
  exact ⟨rfl, n, rfl⟩
theorem sx4_bd {l : List Int} (hB : Byt l) (off : Nat) : -2147483648 ≤ sx 4 (beV l off 4) ∧ sx 4 (beV l off 4) ≤ 2147483647 := by
  obtain ⟨v0, v1⟩ := beV_bd hB off 4
  rw [q4] at v1
  unfold sx
  rw [if_pos rfl]
  split <;> omega

set_option maxRecDepth 50000 in
set_option maxHeartbeats 4000000 in
theorem record_ok (A : Option Addr) (c : Nat) (l : List Int) (w : World) (hA : Kd.C (Kd.int .u8) w A l.length l) (hlc : l.length ≤ c) (hB : Byt l) (hl : l.length = 6) (h1 : rd l 4 ≤ 1) :
    Calls Tryd.prog 66 #[.slice A l.length c] w fun e w' => e = .returned (.tuple #[.agg #[.int .i32 (sx 4 (beV l 0 4)), .bool (rd l 4 == 1), .int .u8 (rd l 5)], .nilIface]) ∧ Below w.heap.size w w' := by
  have HI := Aside0.mk (fun W => Int4_c A c l W)
  have HB := Aside0.mk hB
  have HL := Aside0.mk hl
  obtain ⟨ad, rfl, c4⟩ := Kd.at_int hA 4 (by omega) (by omega)
  obtain ⟨ad', e', c5⟩ := Kd.at_int hA 5 (by omega) (by omega)
  injection e' with e'
  subst e'
  rw [show (4 : Int).toNat = 4 from rfl] at c4
  rw [show (5 : Int).toNat = 5 from rfl] at c5
  have HA := Aside0.mk hA
  obtain ⟨s0, s1⟩ := sx4_bd hB 0
  obtain ⟨b0, b1⟩ := hB.at 5
  have hln : (4 : Int) < (l.length : Int) := by omega
  have hln2 : (5 : Int) < (l.length : Int) := by omega
  have c4a := pw_cell_below (below_alloc (Below.refl _ w) (.cells #[.int .i32 0, .bool false, .int .u8 0] 55)) c4
  have c5a := pw_cell_below (below_alloc (Below.refl _ w) (.cells #[.int .i32 0, .bool false, .int .u8 0] 55)) c5
  clear c4 c5
  rw [show ad.add 4 = ⟨ad.block, ad.off + 4, none⟩ from rfl] at c4a
  rw [show ad.add 5 = ⟨ad.block, ad.off + 5, none⟩ from rfl] at c5a
  clear hA hB hl
  go_enter Tryd.func66, Tryd.ntmps66
  go_wp2_with (go_at_call 68; refine (HI.out _ ?hA hlc HB.out ?hl ?hm).mono ?_; (case hA => exact Kd.C_below HA.out (below_alloc (Below.refl _ _) _)); (case hl => have := HL.out; omega); (case hm => have := HL.out; omega); rintro e w' ⟨rfl, n, rfl⟩)
  go_region
  go_wp2
  refine bodyPost_ret (v := .tuple #[.agg #[.int .i32 (sx 4 (beV l 0 4)), .bool (rd l 4 == 1), .int .u8 (rd l 5)], .nilIface]) (by simp [results, Tryd.results66, go_sem]) rfl ⟨rfl, ?_⟩
  repeat (first | (with_reducible exact Below.refl _ _) | (with_reducible refine pw_below_drewN ?_ _) | (with_reducible refine Below.drew ?_) | (with_reducible refine Below.setCell ?_ (by simp <;> omega) _) | (with_reducible refine below_alloc ?_ _))

/-- Of an invalid flag byte an error comes: a joined error that holds it. -/
def IsJoin (w : World) (v : Value) (x : Int) : Prop := ∃ b h, v = .iface 126 (.pointer (some ⟨b, 0, none⟩)) ∧
  w.heap[b]? = some (.cells #[.slice (some ⟨h, 0, none⟩) 1 1] 128 (0, 0)) ∧ w.cell? ⟨h, 0, none⟩ = some (.iface 97 (.int .u8 x))
set_option maxRecDepth 50000 in
set_option maxHeartbeats 4000000 in
theorem record_bad (A : Option Addr) (c : Nat) (l : List Int) (w : World) (hA : Kd.C (Kd.int .u8) w A l.length l) (hlc : l.length ≤ c) (hB : Byt l) (hl : l.length = 6) (h1 : ¬ rd l 4 ≤ 1) :
    Calls Tryd.prog 66 #[.slice A l.length c] w fun e w' => ∃ v, e = .returned (.tuple #[.agg #[.int .i32 0, .bool false, .int .u8 0], v]) ∧ IsJoin w' v (rd l 4) ∧ Below w.heap.size w w' := by
  have HI := Aside0.mk (fun W => Int4_c A c l W)
  have HJ := Aside0.mk (fun g W => Join_one g (rd l 4) W)
  have HB := Aside0.mk hB
  have HL := Aside0.mk hl
  obtain ⟨ad, rfl, c4⟩ := Kd.at_int hA 4 (by omega) (by omega)
  rw [show (4 : Int).toNat = 4 from rfl] at c4
  have HA := Aside0.mk hA
  have hln : (4 : Int) < (l.length : Int) := by omega
  have c4a := pw_cell_below (below_alloc (Below.refl _ w) (.cells #[.int .i32 0, .bool false, .int .u8 0] 55)) c4
  clear c4
  rw [show ad.add 4 = ⟨ad.block, ad.off + 4, none⟩ from rfl] at c4a
  clear hA hB hl
  go_enter Tryd.func66, Tryd.ntmps66
  go_wp2_with (go_at_call 68; refine (HI.out _ ?hA hlc HB.out ?hl ?hm).mono ?_; (case hA => exact Kd.C_below HA.out (below_alloc (Below.refl _ _) _)); (case hl => have := HL.out; omega); (case hm => have := HL.out; omega); rintro e w' ⟨rfl, n, rfl⟩)
  refine (HJ.out _ _ ?hj).mono ?_
  case hj =>
    have e1 := blk_cell (blk_new ((w.alloc (.cells #[.int .i32 0, .bool false, .int .u8 0] 55)).drewN n) (.cells #[.iface 97 (.int .u8 (rd l 4))] 94)) 0
    rw [show ((w.alloc (.cells #[.int .i32 0, .bool false, .int .u8 0] 55)).drewN n).heap.size = w.heap.size + 1 from by simp] at e1
    exact e1
  rintro e w1 ⟨b, h, rfl, hb, hh, hbb, hbw⟩
  have hc := fun j => hbw.cell (p := ⟨w.heap.size, j, none⟩) (by simp <;> omega)
  have hf := fun j => hbw.frozen (p := ⟨w.heap.size, j, none⟩) (by simp <;> omega)
  have hne : w.heap.size < b := by
    have e1 := World.size_alloc (((w.alloc (.cells #[.int .i32 0, .bool false, .int .u8 0] 55)).drewN n)) (.cells #[.iface 97 (.int .u8 (rd l 4))] 94)
    have e2 : ((w.alloc (.cells #[.int .i32 0, .bool false, .int .u8 0] 55)).drewN n).heap.size = w.heap.size + 1 := by simp
    omega
  have hne2 : h ≠ w.heap.size := by
    rintro rfl
    have e1 := hc 0
    rw [hh, blk_cell (blk_alloc (blk_drewN (blk_new w (.cells #[.int .i32 0, .bool false, .int .u8 0] 55)) n) (.cells #[.iface 97 (.int .u8 (rd l 4))] 94)) 0] at e1
    cases e1
  have HX := Aside0.mk (And.intro hb (And.intro hh hbw))
  clear hb hh hbw hbb
  go_wp2
  refine bodyPost_ret (v := .tuple #[.agg #[.int .i32 0, .bool false, .int .u8 0], .iface 126 (.pointer (some ⟨b, 0, none⟩))]) (by simp [results, Tryd.results66, go_sem, hc]) rfl ⟨_, rfl, ?_, ?_⟩
  · refine ⟨b, h, rfl, ?_, ?_⟩
    · rw [Below.heap_setCell _ _ _ _ (by simp <;> omega), Below.heap_setCell _ _ _ _ (by simp <;> omega), Below.heap_setCell _ _ _ _ (by simp <;> omega)]
      exact HX.out.1
    · rw [World.cell?_setCell_other _ _ _ _ (fun e => hne2 (by injection e with e1; first | exact e1 | exact e1.symm)), World.cell?_setCell_other _ _ _ _ (fun e => hne2 (by injection e with e1; first | exact e1 | exact e1.symm)), World.cell?_setCell_other _ _ _ _ (fun e => hne2 (by injection e with e1; first | exact e1 | exact e1.symm))]
      exact HX.out.2.1
  · have hb1 := (below_alloc (pw_below_drewN (below_alloc (Below.refl w.heap.size w) (.cells #[.int .i32 0, .bool false, .int .u8 0] 55)) n) (.cells #[.iface 97 (.int .u8 (rd l 4))] 94)).trans (HX.out.2.2.mono (by simp <;> omega))
    repeat (first | (with_reducible exact hb1) | (with_reducible refine Below.setCell ?_ (by simp <;> omega) _))
end Go.Proofs.YtkdhdhkfkgjcnaaDoor.PBlockRoundTrip
end

section
namespace Go.Proofs.YtkdhdhkfkgjcnaaDoor.PBlockRoundTrip
open Go.RowKit Go.Proofs.YtkdhdhkfkgjcnaaDoorW.PrintWords Go.Proofs.YtkdhdhkfkgjcnaaDoorW.PrintMore
set_option linter.unusedSimpArgs false
set_option linter.unusedVariables false

theorem infoT : (Tryd.prog.info? 55).map (fun i => (i.zero, i.size, i.bytes)) = some (some (.agg #[.int .i32 0, .bool false, .int .u8 0]), 3, 8) := by kernel_rfl
/-- A record's bytes. -/
def sub6 (l : List Int) (k : Nat) : List Int := (l.drop (6 * k)).take 6
/-- The type of a record. -/
def tyOf (s : List Int) : S55 := ⟨sx 4 (beV s 0 4), rd s 4 == 1, rd s 5⟩
/-- The types of a list of bytes. -/
def typesOf (l : List Int) : Nat → List S55
  | 0 => []
  | k + 1 => typesOf l k ++ [tyOf (sub6 l k)]
theorem typesOf_len (l : List Int) (k : Nat) : (typesOf l k).length = k := by
  induction k with
  | zero => rfl
  | succ k ih => simp [typesOf, ih]
/-- The flag bytes of the first k records are flags. -/
def FlagT (l : List Int) (k : Nat) : Prop := ∀ i, i < k → rd (sub6 l i) 4 ≤ 1

set_option maxRecDepth 50000 in
set_option maxHeartbeats 800000 in
theorem TDecode_c (A : Option Addr) (c : Nat) (l : List Int) (w : World) (hA : Kd.C (Kd.int .u8) w A l.length l) (hlc : l.length ≤ c) (hn : l.length ≤ 70368744177664) (hB : Byt l) (hG : Gl w) :
    Calls Tryd.prog 31 #[.slice A l.length c] w fun e w' => (∃ v, FlagT l (l.length / 6) ∧ e = .returned (.tuple #[v, .bool true]) ∧ Kd.R k55 55 w' w.heap.size (fun _ => True) v (typesOf l (l.length / 6)) ∧ Below w.heap.size w w') ∨
      (¬ FlagT l (l.length / 6) ∧ e = .returned (.tuple #[.slice none 0 0, .bool false]) ∧ Below w.heap.size w w') := by
  have HA := Aside0.mk hA
  have HY := Aside0.mk hB
  have HG := Aside0.mk hG
  obtain ⟨i0, hi0, hz0, hz1, hz2⟩ := info_parts info5
  have HI := Aside0.mk (And.intro hi0 hz1)
  clear hA hB hG hi0 hz0 hz1 hz2
  go_enter Tryd.func31, Tryd.ntmps31
  go_wp2
  go_loopw [4, 5] (fun v i wr => ∃ k o : Nat, Aside0 (o = 6 * k) ∧ o ≤ l.length ∧ i = .int .i64 (o : Int) ∧ Aside0 (FlagT l k) ∧ Aside0 (Kd.R k55 55 wr w.heap.size (fun _ => True) v (typesOf l k)) ∧ Aside0 (Below w.heap.size w wr)) (fun _ i _ => l.length - (intOf i).toNat)
  case atStart => exact ⟨0, 0, ⟨rfl⟩, by omega, rfl, ⟨by intro i hi; omega⟩, ⟨Kd.R_nil _ _ _ _ _⟩, ⟨Below.refl _ _⟩⟩
  case round =>
    obtain ⟨k, o, HO, hk, rfl, HF, HR, HB⟩ := hrel
    by_cases hlt : (o : Int) + 6 ≤ (l.length : Int)
    · obtain ⟨A1, hcut, hread⟩ := run_cut_lh (P := Tryd.prog) (d := Kd.int .u8) 22 5 Tryd.underlying22 HI.out.1 HI.out.2 A l.length c (o : Int) ((o : Int) + 6) (by omega) (by omega) (by omega) hlc
      have hl6 : (sub6 l k).length = 6 := by have := HO.out; simp [sub6]; omega
      have HC1 := Aside0.mk (hread wr l rfl (Kd.C_below HA.out HB.out))
      rw [show ((o : Int) + 6).toNat - (o : Int).toNat = 6 from by omega, show (o : Int).toNat = o from by omega] at HC1 hcut
      have HC2 : Aside0 ((Kd.int .u8).C wr A1 (sub6 l k).length (sub6 l k)) := ⟨by rw [hl6, sub6, ← HO.out]; exact HC1.out⟩
      have HY6 : Aside0 (Byt (sub6 l k)) := ⟨(HY.out.drop _).take _⟩
      clear hread HC1
      by_cases h1 : rd (sub6 l k) 4 ≤ 1
      · have HRC := Aside0.mk (record_ok A1 (c - o) (sub6 l k) wr HC2.out (by omega) HY6.out hl6 h1)
        rw [hl6] at HRC
        have HL6 := Aside0.mk hl6
        clear hl6
        go_wp2_with (first | (go_at_call 66; (with_reducible refine HRC.out.mono ?_); rintro e w1 ⟨rfl, hb⟩; have hb1 := Aside0.mk hb; clear hb) | (go_at_call 67; (with_reducible refine (As_nil _ _).mono ?_); rintro e w' ⟨rfl, rfl⟩) | (at_builtin; refine Kd.R_append k55 (w0 := w) w.heap.size rfl (.tmp 28) (.tmp 30) 30 55 (.agg #[.int .i32 0, .bool false, .int .u8 0]) 8 rfl Tryd.underlying30 infoT rfl (by decide) (by omega) u4 (typesOf l k) (tyOf (sub6 l k)) [.int .i32 (sx 4 (beV (sub6 l k) 0 4)), .bool (rd (sub6 l k) 4 == 1), .int .u8 (rd (sub6 l k) 5)] (fun _ => True) (fun _ => False) rfl ?aX ?aP (fun _ hk => hk.elim) ?aF ?aO ?aB ?aS ?aL ?_; (case aX => (rw [World.size_alloc, World.size_alloc]; rfl)); (case aP => exact k55_mkM _ _ _ (tyOf (sub6 l k))); (case aF => exact (fun _ _ => trivial)); (case aO => exact Kd.R_alloc (Kd.R_alloc (Kd.R_below HR.out hb1.out) _) _); (case aB => exact below_alloc (below_alloc (HB.out.trans (hb1.out.mono HB.out.size)) _) _); (case aS => have := HB.out.size; have := hb1.out.size; simp; omega); (case aL => rw [typesOf_len]; have := HO.out; omega); intro v2 w2 hr2 hb2 hg2 hat2))
        go_roundw
        case rel => exact ⟨k + 1, o + 6, ⟨by have := HO.out; omega⟩, by omega, by go_num, ⟨by intro i hi; by_cases e : i = k; subst e; exact h1; exact HF.out i (by omega)⟩, ⟨hr2⟩, ⟨hb2⟩⟩
        case measure => simp [intOf]; omega
      · have HRC := Aside0.mk (record_bad A1 (c - o) (sub6 l k) wr HC2.out (by omega) HY6.out hl6 h1)
        rw [hl6] at HRC
        have HNF : Aside0 (¬ FlagT l (l.length / 6)) := ⟨fun h => h1 (h k (by have := HO.out; omega))⟩
        clear hl6
        go_wp2_with (first | (go_at_call 66; (with_reducible refine HRC.out.mono ?_); rintro e w1 ⟨v, rfl, ⟨b, h, rfl, hb0, hh0⟩, hbw0⟩; have hb := Aside0.mk hb0; have hh := Aside0.mk hh0; have hbw := Aside0.mk hbw0; clear hb0 hh0 hbw0) | (go_at_call 67; (with_reducible refine (As_join (rd (sub6 l k) 4) b h _ (.int .u8 0) _ ?g1 ?g2 ?g3 ?g4 ?g5).mono ?_); (case g1 => exact HG.out.below (below_alloc (below_alloc (HB.out.trans (hbw.out.mono HB.out.size)) _) _)); (case g2 => exact blk_alloc (blk_alloc hb.out _) _); (case g3 => exact pw_cell_below (below_alloc (below_alloc (Below.refl _ _) _) _) hh.out); (case g4 => simp); (case g5 => simp); rintro e w' ⟨rfl, w2, hw2, rfl⟩))
        go_ret2
        have hb3 := (below_alloc (below_alloc (HB.out.trans (hbw.out.mono HB.out.size)) (.cells #[.int .i32 0, .bool false, .int .u8 0] 55)) (.cells #[.int .u8 0] 97))
        have hb4 := (hb3.trans (hw2.mono hb3.size)).setCell (p := ⟨w1.heap.size + 1, 0, none⟩) (by have := HB.out.size; have := hbw.out.size; simp; omega) (.int .u8 (rd (sub6 l k) 4))
        exact Or.inr ⟨HNF.out, rfl, hb4⟩
    · obtain rfl : k = l.length / 6 := by have := HO.out; omega
      go_wp2
      go_ret2
      exact Or.inl ⟨HF.out, _, rfl, HR.out, HB.out⟩
end Go.Proofs.YtkdhdhkfkgjcnaaDoor.PBlockRoundTrip
end

section
namespace Go.Proofs.YtkdhdhkfkgjcnaaDoor.PBlockRoundTrip
open Go.RowKit Go.Proofs.YtkdhdhkfkgjcnaaDoorW.PrintWords Go.Proofs.YtkdhdhkfkgjcnaaDoorW.PrintMore
set_option linter.unusedSimpArgs false
set_option linter.unusedVariables false

theorem int_fs {l : List Int} (h : Byt l) (off s : Nat) (hs : s = 4 ∨ s = 8) (hl : off + s ≤ l.length) (hm : l.length ≤ 140737488355328) (k : Nat) (hk : 10 ≤ k) : bigendian_Int.f k l off s = some (sx s (beV l off s), true) := by
  rcases hs with rfl | rfl
  · exact int_f4 h off hl hm k hk
  · exact int_f8 h off hl hm k hk

def timesOf (l : List Int) (s : Nat) : Nat → List Int
  | 0 => []
  | k + 1 => timesOf l s k ++ [sx s (beV l (s * k) s)]
theorem timesOf_len (l : List Int) (s k : Nat) : (timesOf l s k).length = k := by
  induction k with
  | zero => rfl
  | succ k ih => simp [timesOf, ih]
theorem tdec_l0 {l : List Int} (h : Byt l) (s : Nat) (hs : s = 4 ∨ s = 8) (hm : l.length ≤ 17592186044416) (d : Nat) : ∀ (k K : Nat), k + d = l.length / s → d + 11 < K → transitions_Decode.l0 K l s (timesOf l s k) ((s * k : Nat) : Int) = some (timesOf l s (l.length / s)) := by
  induction d with
  | zero =>
    intro k K hk hK
    obtain ⟨K, rfl⟩ : ∃ m, K = m + 1 := ⟨K - 1, by omega⟩
    simp only [transitions_Decode.l0]
    have e1 : wrap64 (((s * k : Nat) : Int) + s) = ((s * k + s : Nat) : Int) := by
      have : s * k ≤ l.length := by rcases hs with rfl | rfl <;> omega
      unfold wrap64; omega
    have e2 : ¬ s * k + s ≤ l.length := by rcases hs with rfl | rfl <;> omega
    obtain rfl : k = l.length / s := by omega
    rw [e1, if_neg (by omega)]
  | succ d ih =>
    intro k K hk hK
    obtain ⟨K, rfl⟩ : ∃ m, K = m + 1 := ⟨K - 1, by omega⟩
    simp only [transitions_Decode.l0]
    have e2 : s * k + s ≤ l.length := by rcases hs with rfl | rfl <;> omega
    have e1 : wrap64 (((s * k : Nat) : Int) + s) = ((s * k + s : Nat) : Int) := by unfold wrap64; omega
    rw [e1, if_pos (by omega), int_fs h (s * k) s hs e2 (by omega) K (by omega)]
    simp only [Option.bind_some]
    have e3 : (timesOf l s k).length < 17592186044416 := by rw [timesOf_len]; rcases hs with rfl | rfl <;> omega
    rw [if_pos e3]
    have := ih (k + 1) K (by omega) (by omega)
    rw [show s * (k + 1) = s * k + s from Nat.mul_succ s k] at this
    exact this
theorem tdec_f {l : List Int} (h : Byt l) (s : Nat) (hs : s = 4 ∨ s = 8) (hm : l.length ≤ 17592186044416) : transitions_Decode.f (l.length + 20) l s = some (timesOf l s (l.length / s)) := by
  unfold transitions_Decode.f
  exact tdec_l0 h s hs hm (l.length / s) 0 _ (by omega) (by have := Nat.div_le_self l.length s; omega)

def leapAt (l : List Int) (s k : Nat) : S79 := ⟨sx s (beV l ((s + 4) * k) s), sx 4 (beV l ((s + 4) * k + s) 4)⟩
def leapsOf (l : List Int) (s : Nat) : Nat → List S79
  | 0 => []
  | k + 1 => leapsOf l s k ++ [leapAt l s k]
theorem leapsOf_len (l : List Int) (s k : Nat) : (leapsOf l s k).length = k := by
  induction k with
  | zero => rfl
  | succ k ih => simp [leapsOf, ih]
theorem w_a (q s : Nat) (hs : s ≤ 8) (h : q + s + 4 ≤ 8796093022300) : wrap64 (wrap64 ((q : Int) + s) + 4) = ((q + s + 4 : Nat) : Int) := by unfold wrap64; omega
theorem w_b (q s : Nat) (hs : s ≤ 8) (h : q + s + 4 ≤ 8796093022300) : wrap64 ((q : Int) + s) = ((q + s : Nat) : Int) := by unfold wrap64; omega
theorem w_c (q s : Nat) (hs : s ≤ 8) (h : q + s + 4 ≤ 8796093022300) : wrap64 ((q : Int) + wrap64 ((s : Int) + 4)) = ((q + (s + 4) : Nat) : Int) := by
  rw [show wrap64 ((s : Int) + 4) = (s : Int) + 4 from by unfold wrap64; omega]
  unfold wrap64; omega
theorem w_d (x : Int) (h0 : -2147483648 ≤ x) (h1 : x ≤ 2147483647) : wrap32 x = x := by unfold wrap32; omega
theorem ldec_step {l : List Int} (h : Byt l) (s q : Nat) (acc : List S79) (hs : s = 4 ∨ s = 8) (hm : l.length ≤ 8796093022208) (K : Nat) (hK : 10 ≤ K) (h1 : q + s + 4 ≤ l.length) (ha : acc.length < 8796093022208) :
    leaps_Decode.l0 (K + 1) l s acc q = leaps_Decode.l0 K l s (acc ++ [⟨sx s (beV l q s), sx 4 (beV l (q + s) 4)⟩]) ((q + (s + 4) : Nat) : Int) := by
  simp only [leaps_Decode.l0]
  have e4 : ((q + s + 4 : Nat) : Int) ≤ (l.length : Int) := by omega
  have a1 := w_a q s (by omega) (by omega)
  have a2 := int_fs h q s hs (by omega) (by omega) K (by omega)
  have a3 := w_b q s (by omega) (by omega)
  have a4 := int_f4 h (q + s) (by omega) (by omega) K (by omega)
  have a5 := w_c q s (by omega) (by omega)
  have a6 := w_d _ (sx4_bd h (q + s)).1 (sx4_bd h (q + s)).2
  rw [a1, if_pos e4, a2, Option.bind_some, a3, a4, Option.bind_some, if_pos ha, a5, a6]
theorem ldec_end (l : List Int) (s q : Nat) (acc : List S79) (hs : s = 4 ∨ s = 8) (hm : l.length ≤ 8796093022208) (K : Nat) (h0 : q ≤ l.length) (h1 : ¬ q + s + 4 ≤ l.length) :
    leaps_Decode.l0 (K + 1) l s acc q = some acc := by
  simp only [leaps_Decode.l0]
  have e4 : ¬ ((q + s + 4 : Nat) : Int) ≤ (l.length : Int) := by omega
  rw [w_a q s (by omega) (by omega), if_neg e4]
theorem ldec_l0 {l : List Int} (h : Byt l) (s : Nat) (hs : s = 4 ∨ s = 8) (hm : l.length ≤ 8796093022208) (d : Nat) : ∀ (k K : Nat), k + d = l.length / (s + 4) → d + 11 < K → leaps_Decode.l0 K l s (leapsOf l s k) (((s + 4) * k : Nat) : Int) = some (leapsOf l s (l.length / (s + 4))) := by
  induction d with
  | zero =>
    intro k K hk hK
    obtain ⟨K, rfl⟩ : ∃ m, K = m + 1 := ⟨K - 1, by omega⟩
    obtain rfl : k = l.length / (s + 4) := by omega
    exact ldec_end l s _ _ hs hm K (by rcases hs with rfl | rfl <;> omega) (by rcases hs with rfl | rfl <;> omega)
  | succ d ih =>
    intro k K hk hK
    obtain ⟨K, rfl⟩ : ∃ m, K = m + 1 := ⟨K - 1, by omega⟩
    rw [ldec_step h s _ _ hs hm K (by omega) (by rcases hs with rfl | rfl <;> omega) (by rw [leapsOf_len]; rcases hs with rfl | rfl <;> omega)]
    exact ih (k + 1) K (by omega) (by omega)
theorem ldec_f {l : List Int} (h : Byt l) (s : Nat) (hs : s = 4 ∨ s = 8) (hm : l.length ≤ 8796093022208) : leaps_Decode.f (l.length + 20) l s = some (leapsOf l s (l.length / (s + 4))) := by
  unfold leaps_Decode.f
  exact ldec_l0 h s hs hm (l.length / (s + 4)) 0 _ (by omega) (by have := Nat.div_le_self l.length (s + 4); omega)
end Go.Proofs.YtkdhdhkfkgjcnaaDoor.PBlockRoundTrip
end

section
namespace Go.Proofs.YtkdhdhkfkgjcnaaDoor.PBlockRoundTrip
open Go.RowKit Go.Proofs.YtkdhdhkfkgjcnaaDoorW.PrintWords Go.Proofs.YtkdhdhkfkgjcnaaDoorW.PrintMore
set_option linter.unusedSimpArgs false
set_option linter.unusedVariables false

set_option maxRecDepth 50000 in
set_option maxHeartbeats 1000000 in
theorem part_c (i : Nat) (hi : i ≤ 6) (bd bo : Nat) (D : Option Addr) (n c : Nat) (lo hg : Int) (w : World) (hd : w.cell? ⟨bd, 0, none⟩ = some (.slice D n c)) (h1 : w.cell? ⟨bo, i, none⟩ = some (.int .u64 lo)) (h2 : w.cell? ⟨bo, i + 1, none⟩ = some (.int .u64 hg))
    (l0 : 0 ≤ lo) (l1 : lo ≤ hg) (l2 : hg ≤ n) (hnc : n ≤ c) :
    Calls Tryd.prog 30 #[.int .i64 i, .pointer (some ⟨bd, 0, none⟩), .pointer (some ⟨bo, 0, none⟩)] w fun e w' => ∃ A', e = .returned (.slice A' (hg.toNat - lo.toNat) (hg.toNat - lo.toNat)) ∧
      (A' = D ∨ A' = D.map (·.add (lo.toNat * 1))) ∧ (∀ (W : World) (xs : List Int), xs.length = n → Kd.C (Kd.int .u8) W D n xs → Kd.C (Kd.int .u8) W A' (hg.toNat - lo.toNat) ((xs.drop lo.toNat).take (hg.toNat - lo.toNat))) ∧ Below w.heap.size w w' := by
  obtain ⟨i0, hi0, hz0, hz1, hz2⟩ := info_parts info5
  obtain ⟨A', hcut, ha, hread⟩ := run_cut_lhm (P := Tryd.prog) (d := Kd.int .u8) 22 5 Tryd.underlying22 hi0 hz1 D n c lo hg .u64 .u64 .u64 l0 l1 l2 hnc
  have HX := Aside0.mk (And.intro ha hread)
  clear ha hread hi0 hz0 hz1 hz2
  rcases (by omega : i = 0 ∨ i = 1 ∨ i = 2 ∨ i = 3 ∨ i = 4 ∨ i = 5 ∨ i = 6) with rfl | rfl | rfl | rfl | rfl | rfl | rfl
  all_goals
    go_enter Tryd.func30, Tryd.ntmps30
    go_wp2
    go_quiet (fail)
    go_wp2
    go_ret
    exact ⟨A', rfl, HX.out.1, HX.out.2, by repeat (first | (with_reducible exact Below.refl _ _) | (with_reducible refine pw_below_drewN ?_ _) | (with_reducible refine Below.drew ?_))⟩
end Go.Proofs.YtkdhdhkfkgjcnaaDoor.PBlockRoundTrip
end

section
namespace Go.Proofs.YtkdhdhkfkgjcnaaDoor.PBlockRoundTrip
open Go.RowKit Go.Proofs.YtkdhdhkfkgjcnaaDoorW.PrintWords Go.Proofs.YtkdhdhkfkgjcnaaDoorW.PrintMore
set_option linter.unusedSimpArgs false
set_option linter.unusedVariables false

/-- Four new blocks. -/
theorem four (w : World) (a b c d : Obj) : ((((w.alloc a).alloc b).alloc c).alloc d).heap[w.heap.size]? = some a ∧ ((((w.alloc a).alloc b).alloc c).alloc d).heap[w.heap.size + 1]? = some b ∧ ((((w.alloc a).alloc b).alloc c).alloc d).heap[w.heap.size + 1 + 1]? = some c ∧ ((((w.alloc a).alloc b).alloc c).alloc d).heap[w.heap.size + 1 + 1 + 1]? = some d ∧
    ((((w.alloc a).alloc b).alloc c).alloc d).heap.size = w.heap.size + 4 ∧ Below w.heap.size w ((((w.alloc a).alloc b).alloc c).alloc d) := by
  refine ⟨blk_alloc (blk_alloc (blk_alloc (blk_new w a) b) c) d, ?_, ?_, ?_, by simp, below_alloc (below_alloc (below_alloc (below_alloc (Below.refl _ _) _) _) _) _⟩
  · have h := blk_alloc (blk_alloc (blk_new (w.alloc a) b) c) d
    rwa [World.size_alloc] at h
  · have h := blk_alloc (blk_new ((w.alloc a).alloc b) c) d
    rwa [World.size_alloc, World.size_alloc] at h
  · have h := blk_new (((w.alloc a).alloc b).alloc c) d
    rwa [World.size_alloc, World.size_alloc, World.size_alloc] at h

/-- The world in which block.Decode has laid its own four blocks. -/
structure W4 (w W : World) (A : Option Addr) (n c : Nat) (p e t v a1 a2 a3 a4 a5 a6 : Int) : Prop where
  b4 : W.heap[w.heap.size]? = some (.cells #[.slice A n c, .int .i64 p, .int .i64 e, .int .i64 t] 25 (0, 0))
  b5 : W.heap[w.heap.size + 1]? = some (.cells #[.int .i64 v, .int .u32 a1, .int .u32 a2, .int .u32 a3, .int .u32 a4, .int .u32 a5, .int .u32 a6] 28 (0, 0))
  b8 : W.heap[w.heap.size + 1 + 1]? = some (.cells #[.slice none 0 0, .slice none 0 0, .slice none 0 0, .slice none 0 0, .slice none 0 0, .slice none 0 0, .slice none 0 0] 34 (0, 0))
  b9 : W.heap[w.heap.size + 1 + 1 + 1]? = some (.cells #[.slice none 0 0, .int .i64 0, .int .i64 0, .int .i64 0] 25 (0, 0))
  sz : w.heap.size + 4 ≤ W.heap.size
  bw : Below w.heap.size w W
theorem W4.below {w W W' : World} {A : Option Addr} {n c : Nat} {p e t v a1 a2 a3 a4 a5 a6 : Int} (h : W4 w W A n c p e t v a1 a2 a3 a4 a5 a6) (hb : Below W.heap.size W W') : W4 w W' A n c p e t v a1 a2 a3 a4 a5 a6 :=
  ⟨blk_below h.b4 hb, blk_below h.b5 hb, blk_below h.b8 hb, blk_below h.b9 hb, Nat.le_trans h.sz hb.size, h.bw.trans (hb.mono h.bw.size)⟩
theorem W4.drew {w W : World} {A : Option Addr} {n c : Nat} {p e t v a1 a2 a3 a4 a5 a6 : Int} (h : W4 w W A n c p e t v a1 a2 a3 a4 a5 a6) : W4 w W.drew A n c p e t v a1 a2 a3 a4 a5 a6 :=
  ⟨h.b4, h.b5, h.b8, h.b9, h.sz, h.bw.drew⟩
theorem W4.drewN {w W : World} {A : Option Addr} {n c : Nat} {p e t v a1 a2 a3 a4 a5 a6 : Int} (h : W4 w W A n c p e t v a1 a2 a3 a4 a5 a6) (k : Nat) : W4 w (W.drewN k) A n c p e t v a1 a2 a3 a4 a5 a6 :=
  ⟨h.b4, h.b5, h.b8, h.b9, h.sz, pw_below_drewN h.bw k⟩
theorem W4.new (w : World) (A : Option Addr) (n c : Nat) (p e t v a1 a2 a3 a4 a5 a6 : Int) : W4 w ((((w.alloc (.cells #[.slice A n c, .int .i64 p, .int .i64 e, .int .i64 t] 25)).alloc (.cells #[.int .i64 v, .int .u32 a1, .int .u32 a2, .int .u32 a3, .int .u32 a4, .int .u32 a5, .int .u32 a6] 28)).alloc (.cells #[.slice none 0 0, .slice none 0 0, .slice none 0 0, .slice none 0 0, .slice none 0 0, .slice none 0 0, .slice none 0 0] 34)).alloc (.cells #[.slice none 0 0, .int .i64 0, .int .i64 0, .int .i64 0] 25)) A n c p e t v a1 a2 a3 a4 a5 a6 := by
  obtain ⟨h1, h2, h3, h4, h5, h6⟩ := four w (.cells #[.slice A n c, .int .i64 p, .int .i64 e, .int .i64 t] 25) (.cells #[.int .i64 v, .int .u32 a1, .int .u32 a2, .int .u32 a3, .int .u32 a4, .int .u32 a5, .int .u32 a6] 28) (.cells #[.slice none 0 0, .slice none 0 0, .slice none 0 0, .slice none 0 0, .slice none 0 0, .slice none 0 0, .slice none 0 0] 34) (.cells #[.slice none 0 0, .int .i64 0, .int .i64 0, .int .i64 0] 25)
  exact ⟨h1, h2, h3, h4, by omega, h6⟩

set_option maxRecDepth 50000 in
set_option maxHeartbeats 2000000 in
theorem Decode_short (A : Option Addr) (c : Nat) (n : Nat) (p t v a1 a2 a3 a4 a5 a6 s at_ : Int) (w : World) (hH : Hd a1 a2 a3 a4 a5 a6) (hs : 4 ≤ s) (hs' : s ≤ 8) (h0 : 0 ≤ p) (h1 : p ≤ n) (hn : n ≤ 4611686018427387904) (hshort : ¬ tot a1 a2 a3 a4 a5 a6 s ≤ n - p) :
    Calls Tryd.prog 12 #[.agg #[.slice A n c, .int .i64 p, .int .i64 0, .int .i64 t], .agg #[.int .i64 v, .int .u32 a1, .int .u32 a2, .int .u32 a3, .int .u32 a4, .int .u32 a5, .int .u32 a6], .int .i64 s, .int .i64 at_] w fun e w' =>
      e = .returned (.tuple #[.agg #[.slice none 0 0, .slice none 0 0, .slice none 0 0, .slice none 0 0, .slice none 0 0, .slice none 0 0, .slice none 0 0], .agg #[.slice A n c, .int .i64 p, .int .i64 1, .int .i64 n]]) ∧ Below w.heap.size w w' := by
  have HR := Aside0.mk (fun W => Rest_ok A n c p t W h0 h1 hn)
  have HT := Aside0.mk (fun W => LTotal_c v a1 a2 a3 a4 a5 a6 s (n - p) W hH hs hs' (by omega))
  rw [if_neg hshort, decide_eq_false hshort] at HT
  have HF := Aside0.mk (fun W => Fail_new A n c p 1 t n W (by omega))
  have H4 := W4.new w A n c p 0 t v a1 a2 a3 a4 a5 a6
  obtain ⟨W0, hW0⟩ : ∃ W, ((((w.alloc (.cells #[.slice A n c, .int .i64 p, .int .i64 0, .int .i64 t] 25)).alloc (.cells #[.int .i64 v, .int .u32 a1, .int .u32 a2, .int .u32 a3, .int .u32 a4, .int .u32 a5, .int .u32 a6] 28)).alloc (.cells #[.slice none 0 0, .slice none 0 0, .slice none 0 0, .slice none 0 0, .slice none 0 0, .slice none 0 0, .slice none 0 0] 34)).alloc (.cells #[.slice none 0 0, .int .i64 0, .int .i64 0, .int .i64 0] 25)) = W := ⟨_, rfl⟩
  have HW0 := Aside0.mk hW0
  clear hH hshort
  rw [hW0] at H4
  clear hW0
  have HS4 := Aside0.mk H4
  clear H4
  go_enter Tryd.func12, Tryd.ntmps12
  go_wp2_with (fail)
  rw [HW0.out]
  clear HW0
  have x0 := blk_cell HS4.out.b4 0
  have x1 := blk_cell HS4.out.b4 1
  have x2 := blk_cell HS4.out.b4 2
  have x3 := blk_cell HS4.out.b4 3
  have y0 := blk_cell HS4.out.b5 0
  have y1 := blk_cell HS4.out.b5 1
  have y2 := blk_cell HS4.out.b5 2
  have y3 := blk_cell HS4.out.b5 3
  have y4 := blk_cell HS4.out.b5 4
  have y5 := blk_cell HS4.out.b5 5
  have y6 := blk_cell HS4.out.b5 6
  simp at x0 x1 x2 x3 y0 y1 y2 y3 y4 y5 y6
  have hs0 := HS4.out.sz
  have hwr : IntKind.u64.wrap ((n : Int) - p) = (n : Int) - p := by rw [IntKind.wrap_u64]; omega
  go_region_held3 (fun w' => w'.cell? ⟨w.heap.size, 0, none⟩ = some (.slice A n c) ∧ w'.cell? ⟨w.heap.size, 1, none⟩ = some (.int .i64 p) ∧ w'.cell? ⟨w.heap.size, 2, none⟩ = some (.int .i64 0) ∧ w'.cell? ⟨w.heap.size, 3, none⟩ = some (.int .i64 t) ∧
      w'.cell? ⟨w.heap.size + 1, 0, none⟩ = some (.int .i64 v) ∧ w'.cell? ⟨w.heap.size + 1, 1, none⟩ = some (.int .u32 a1) ∧ w'.cell? ⟨w.heap.size + 1, 2, none⟩ = some (.int .u32 a2) ∧ w'.cell? ⟨w.heap.size + 1, 3, none⟩ = some (.int .u32 a3) ∧ w'.cell? ⟨w.heap.size + 1, 4, none⟩ = some (.int .u32 a4) ∧ w'.cell? ⟨w.heap.size + 1, 5, none⟩ = some (.int .u32 a5) ∧ w'.cell? ⟨w.heap.size + 1, 6, none⟩ = some (.int .u32 a6))
    (first | (refine ⟨?_, ?_, ?_, ?_, ?_, ?_, ?_, ?_, ?_, ?_, ?_⟩ <;> (go_keep; done)) | (go_split_ands; refine ⟨?_, ?_, ?_, ?_, ?_, ?_, ?_, ?_, ?_, ?_, ?_⟩ <;> (first | (rw [hbb.cell (by simp <;> omega)]; assumption) | (rw [hba.cell (by simp <;> omega)]; assumption))))
    (first | (go_at_call 26; (with_reducible refine (HR.out _).mono ?_); rintro e wa ⟨rfl, hba⟩; have hsa : w.heap.size + 4 ≤ wa.heap.size := by { have := hba.size; (try simp at this); omega }) | (go_at_call 25; (with_reducible refine (HT.out _).mono ?_); rintro e wb ⟨rfl, hbb⟩; have hsb : w.heap.size + 4 ≤ wb.heap.size := by { have := hbb.size; (try simp at this); omega }))
  clear hwr
  have HS5 := Aside0.mk ((HS4.out.drew.below hba).below hbb)
  clear hba hbb hsa x0 x1 x2 x3 y0 y1 y2 y3 y4 y5 y6
  go_wp2_with (go_at_call 27; (with_reducible refine (HF.out _).mono ?_); rintro e wc ⟨rfl, hbc⟩; have HS6 := Aside0.mk (HS5.out.below hbc); clear hbc; have hsc := HS6.out.sz; have c8 := fun j => blk_cell HS6.out.b8 j; have f8 := fun j => blk_frozen HS6.out.b8 j; have c9 := fun j => blk_cell HS6.out.b9 j; have f9 := fun j => blk_frozen HS6.out.b9 j)
  refine bodyPost_ret (v := .tuple #[.agg #[.slice none 0 0, .slice none 0 0, .slice none 0 0, .slice none 0 0, .slice none 0 0, .slice none 0 0, .slice none 0 0], .agg #[.slice A n c, .int .i64 p, .int .i64 1, .int .i64 n]]) (by simp [results, Tryd.results12, go_sem, c8, c9]) rfl ⟨rfl, ?_⟩
  have hb1 := HS6.out.bw
  repeat (first | (with_reducible exact hb1) | (with_reducible refine pw_below_drewN ?_ _) | (with_reducible refine Below.drew ?_) | (with_reducible refine Below.setCell ?_ (by simp <;> omega) _))
end Go.Proofs.YtkdhdhkfkgjcnaaDoor.PBlockRoundTrip
end

section
namespace Go.Proofs.YtkdhdhkfkgjcnaaDoor.PBlockRoundTrip
open Go.RowKit Go.Proofs.YtkdhdhkfkgjcnaaDoorW.PrintWords Go.Proofs.YtkdhdhkfkgjcnaaDoorW.PrintMore
set_option linter.unusedSimpArgs false
set_option linter.unusedVariables false

/-- The offsets of the sections. -/
def offs (a1 a2 a3 a4 a5 a6 s : Int) : Nat → Int
  | 0 => 0
  | 1 => a4 * s
  | 2 => a4 * s + a4
  | 3 => a4 * s + a4 + a5 * 6
  | 4 => a4 * s + a4 + a5 * 6 + a6
  | 5 => a4 * s + a4 + a5 * 6 + a6 + a3 * (s + 4)
  | 6 => a4 * s + a4 + a5 * 6 + a6 + a3 * (s + 4) + a2
  | _ => a4 * s + a4 + a5 * 6 + a6 + a3 * (s + 4) + a2 + a1
theorem offs_bd {a1 a2 a3 a4 a5 a6 s : Int} (h : Hd a1 a2 a3 a4 a5 a6) (hs : 4 ≤ s) (hs' : s ≤ 8) (i : Nat) (hi : i ≤ 6) : 0 ≤ offs a1 a2 a3 a4 a5 a6 s i ∧ offs a1 a2 a3 a4 a5 a6 s i ≤ offs a1 a2 a3 a4 a5 a6 s (i + 1) ∧ offs a1 a2 a3 a4 a5 a6 s (i + 1) ≤ tot a1 a2 a3 a4 a5 a6 s := by
  obtain ⟨h1, h1', h2, h2', h3, h3', h4, h4', h5, h5', h6, h6'⟩ := h
  obtain ⟨m1, m1'⟩ := mul_bd a4 s 4294967295 8 h4 h4' (by omega) hs'
  obtain ⟨m2, m2'⟩ := mul_bd a3 (s + 4) 4294967295 12 h3 h3' (by omega) (by omega)
  unfold tot
  rcases (by omega : i = 0 ∨ i = 1 ∨ i = 2 ∨ i = 3 ∨ i = 4 ∨ i = 5 ∨ i = 6) with rfl | rfl | rfl | rfl | rfl | rfl | rfl <;> simp only [offs] <;> omega
theorem tot_bd {a1 a2 a3 a4 a5 a6 s : Int} (h : Hd a1 a2 a3 a4 a5 a6) (hs : 4 ≤ s) (hs' : s ≤ 8) : 0 ≤ tot a1 a2 a3 a4 a5 a6 s ∧ tot a1 a2 a3 a4 a5 a6 s ≤ 140737488355328 := by
  obtain ⟨h1, h1', h2, h2', h3, h3', h4, h4', h5, h5', h6, h6'⟩ := h
  obtain ⟨m1, m1'⟩ := mul_bd a4 s 4294967295 8 h4 h4' (by omega) hs'
  obtain ⟨m2, m2'⟩ := mul_bd a3 (s + 4) 4294967295 12 h3 h3' (by omega) (by omega)
  unfold tot
  omega
/-- A section of the data. -/
def sec (d : List Int) (O : Nat → Int) (i : Nat) : List Int := (d.drop (O i).toNat).take ((O (i + 1)).toNat - (O i).toNat)
theorem sec_len {d : List Int} {O : Nat → Int} {i : Nat} (h0 : 0 ≤ O i) (h1 : O i ≤ O (i + 1)) (h2 : O (i + 1) ≤ d.length) : (sec d O i).length = (O (i + 1)).toNat - (O i).toNat := by
  simp [sec]; omega
theorem sec_byt {d : List Int} (h : Byt d) (O : Nat → Int) (i : Nat) : Byt (sec d O i) := (h.drop _).take _

/-- The world behind the set-up of block.Decode. -/
structure S7 (w W : World) (g12 g13 g14 : Nat) (A : Option Addr) (n c : Nat) (p t : Int) (D : Option Addr) (cd : Nat) (d : List Int) (O : Nat → Int) : Prop where
  b8 : W.heap[w.heap.size + 1 + 1]? = some (.cells #[.slice none 0 0, .slice none 0 0, .slice none 0 0, .slice none 0 0, .slice none 0 0, .slice none 0 0, .slice none 0 0] 34 (0, 0))
  b9 : W.heap[w.heap.size + 1 + 1 + 1]? = some (.cells #[.slice none 0 0, .int .i64 0, .int .i64 0, .int .i64 0] 25 (0, 0))
  b12 : W.heap[g12]? = some (.cells #[.slice D d.length cd] 22 (0, 0))
  b13 : W.heap[g13]? = some (.cells #[.slice A n c, .int .i64 p, .int .i64 0, .int .i64 t] 25 (0, 0))
  b14 : W.heap[g14]? = some (.cells #[.int .u64 (O 0), .int .u64 (O 1), .int .u64 (O 2), .int .u64 (O 3), .int .u64 (O 4), .int .u64 (O 5), .int .u64 (O 6), .int .u64 (O 7)] 62 (0, 0))
  hd : Kd.R (Kd.int .u8) 5 W w.heap.size (fun _ => True) (.slice D d.length cd) d
  hc : d.length ≤ cd
  gl : Gl W
  bw : Below w.heap.size w W
theorem S7.below {w W W' : World} {g12 g13 g14 : Nat} {A : Option Addr} {n c : Nat} {p t : Int} {D : Option Addr} {cd : Nat} {d : List Int} {O : Nat → Int} (h : S7 w W g12 g13 g14 A n c p t D cd d O) (hb : Below W.heap.size W W') : S7 w W' g12 g13 g14 A n c p t D cd d O :=
  ⟨blk_below h.b8 hb, blk_below h.b9 hb, blk_below h.b12 hb, blk_below h.b13 hb, blk_below h.b14 hb, Kd.R_below h.hd hb, h.hc, h.gl.below hb, h.bw.trans (hb.mono h.bw.size)⟩
theorem S7.drew {w W : World} {g12 g13 g14 : Nat} {A : Option Addr} {n c : Nat} {p t : Int} {D : Option Addr} {cd : Nat} {d : List Int} {O : Nat → Int} (h : S7 w W g12 g13 g14 A n c p t D cd d O) : S7 w W.drew g12 g13 g14 A n c p t D cd d O := h.below (Below.refl _ W).drew
theorem S7.drewN {w W : World} {g12 g13 g14 : Nat} {A : Option Addr} {n c : Nat} {p t : Int} {D : Option Addr} {cd : Nat} {d : List Int} {O : Nat → Int} (h : S7 w W g12 g13 g14 A n c p t D cd d O) (k : Nat) : S7 w (W.drewN k) g12 g13 g14 A n c p t D cd d O := h.below (pw_below_drewN (Below.refl _ W) k)
/-- A section's value: a cut of the data's row. -/
def PartOf (D : Option Addr) (lo : Int) (A' : Option Addr) : Prop := A' = D ∨ A' = D.map (·.add (lo.toNat * 1))
theorem S7.part {w W : World} {g12 g13 g14 : Nat} {A : Option Addr} {n c : Nat} {p t : Int} {D : Option Addr} {cd : Nat} {d : List Int} {O : Nat → Int} (h : S7 w W g12 g13 g14 A n c p t D cd d O) (i : Nat) (iz : Int) (hiz : iz = i) (hi : i ≤ 6)
    (hO : ∀ i, i ≤ 6 → 0 ≤ O i ∧ O i ≤ O (i + 1) ∧ O (i + 1) ≤ d.length) :
    Calls Tryd.prog 30 #[.int .i64 iz, .pointer (some ⟨g12, 0, none⟩), .pointer (some ⟨g14, 0, none⟩)] W fun e w' => ∃ A', e = .returned (.slice A' (sec d O i).length (sec d O i).length) ∧
      Aside0 (PartOf D (O i) A') ∧ Aside0 (Kd.C (Kd.int .u8) w' A' (sec d O i).length (sec d O i)) ∧ Aside0 (S7 w w' g12 g13 g14 A n c p t D cd d O) ∧ Aside0 (Below W.heap.size W w') := by
  subst hiz
  obtain ⟨h0, h1, h2⟩ := hO i hi
  have c12 := blk_cell h.b12 0
  have e1 : W.cell? ⟨g14, i, none⟩ = some (.int .u64 (O i)) := by
    rw [blk_cell h.b14 i]
    rcases (by omega : i = 0 ∨ i = 1 ∨ i = 2 ∨ i = 3 ∨ i = 4 ∨ i = 5 ∨ i = 6) with rfl | rfl | rfl | rfl | rfl | rfl | rfl <;> rfl
  have e2 : W.cell? ⟨g14, i + 1, none⟩ = some (.int .u64 (O (i + 1))) := by
    rw [blk_cell h.b14 (i + 1)]
    rcases (by omega : i = 0 ∨ i = 1 ∨ i = 2 ∨ i = 3 ∨ i = 4 ∨ i = 5 ∨ i = 6) with rfl | rfl | rfl | rfl | rfl | rfl | rfl <;> rfl
  refine (part_c i hi g12 g14 D d.length cd (O i) (O (i + 1)) W c12 e1 e2 h0 h1 h2 h.hc).mono ?_
  rintro e w' ⟨A', rfl, ha, hr, hb⟩
  obtain ⟨A2, c2, e3, _, hC⟩ := Kd.R_reads (Kd.R_below h.hd hb)
  injection e3 with e3 e4 e5
  subst e3
  refine ⟨A', by rw [sec_len h0 h1 h2], ⟨ha⟩, ⟨?_⟩, ⟨h.below hb⟩, ⟨hb⟩⟩
  rw [sec_len h0 h1 h2]
  exact hr w' d rfl hC

/-- The decoders' contracts with their answers as Bools. -/
theorem TDecode_b (A : Option Addr) (c : Nat) (l : List Int) (w : World) (hA : Kd.C (Kd.int .u8) w A l.length l) (hlc : l.length ≤ c) (hn : l.length ≤ 70368744177664) (hB : Byt l) (hG : Gl w) :
    Calls Tryd.prog 31 #[.slice A l.length c] w fun e w' => ∃ v b, e = .returned (.tuple #[v, .bool b]) ∧ Aside0 (b = true → FlagT l (l.length / 6) ∧ Kd.R k55 55 w' w.heap.size (fun _ => True) v (typesOf l (l.length / 6))) ∧ Aside0 (b = false → ¬ FlagT l (l.length / 6)) ∧ Below w.heap.size w w' := by
  refine (TDecode_c A c l w hA hlc hn hB hG).mono ?_
  rintro e w' (⟨v, h1, rfl, h2, h3⟩ | ⟨h1, rfl, h3⟩)
  · exact ⟨v, true, rfl, ⟨fun _ => ⟨h1, h2⟩⟩, ⟨fun h => (by cases h)⟩, h3⟩
  · exact ⟨_, false, rfl, ⟨fun h => (by cases h)⟩, ⟨fun _ => h1⟩, h3⟩
theorem IDecode_b (A : Option Addr) (c : Nat) (l : List Int) (w : World) (hA : Kd.C (Kd.int .u8) w A l.length l) (hn : l.length ≤ 140737488355328) (hB : Byt l) (hG : Gl w) :
    Calls Tryd.prog 32 #[.slice A l.length c] w fun e w' => ∃ v b, e = .returned (.tuple #[v, .bool b]) ∧ Aside0 (b = true → Flags l ∧ Kd.R Kd.bool 4 w' w.heap.size (fun _ => True) v (flagsOf l)) ∧ Aside0 (b = false → ¬ Flags l) ∧ Below w.heap.size w w' := by
  refine (IDecode_c A c l w hA hn hB hG).mono ?_
  rintro e w' (⟨v, h1, rfl, h2, h3⟩ | ⟨h1, rfl, h3⟩)
  · exact ⟨v, true, rfl, ⟨fun _ => ⟨h1, h2⟩⟩, ⟨fun h => (by cases h)⟩, h3⟩
  · exact ⟨_, false, rfl, ⟨fun h => (by cases h)⟩, ⟨fun _ => h1⟩, h3⟩
theorem XDecode_b (A : Option Addr) (c : Nat) (l : List Int) (s : Nat) (hs : s = 4 ∨ s = 8) (w : World) (hA : Kd.C (Kd.int .u8) w A l.length l) (hlc : l.length ≤ c) (hn : l.length ≤ 8796093022208) (hB : Byt l) :
    Calls Tryd.prog 33 #[.slice A l.length c, .int .i64 s] w fun e w' => ∃ v, e = .returned v ∧ Aside0 (Kd.R (Kd.int .i64) 2 w' w.heap.size (fun _ => True) v (timesOf l s (l.length / s))) ∧ Below w.heap.size w w' := by
  refine (transitions_Decode.calls _ A c l s _ w hA hlc (tdec_f hB s hs (by omega))).mono ?_
  rintro e w' ⟨v, rfl, h1, h2⟩
  exact ⟨v, rfl, ⟨h1⟩, h2⟩
theorem LDecode_b (A : Option Addr) (c : Nat) (l : List Int) (s : Nat) (hs : s = 4 ∨ s = 8) (w : World) (hA : Kd.C (Kd.int .u8) w A l.length l) (hlc : l.length ≤ c) (hn : l.length ≤ 8796093022208) (hB : Byt l) :
    Calls Tryd.prog 34 #[.slice A l.length c, .int .i64 s] w fun e w' => ∃ v, e = .returned v ∧ Aside0 (Kd.R k79 79 w' w.heap.size (fun _ => True) v (leapsOf l s (l.length / (s + 4)))) ∧ Below w.heap.size w w' := by
  refine (leaps_Decode.calls _ A c l s _ w hA hlc (ldec_f hB s hs hn)).mono ?_
  rintro e w' ⟨v, rfl, h1, h2⟩
  exact ⟨v, rfl, ⟨h1⟩, h2⟩
/-- Stores into two blocks of other types leave a row as it was. -/
theorem R_two {α : Type} {d : Kd α} {e base : Nat} {W W' : World} {ok : Nat → Prop} {v : Value} {xs : List α} {g8 g9 t8 t9 : Nat} {c8 c9 : Array Value} (h : d.R e W base ok v xs) (h8 : W.heap[g8]? = some (.cells c8 t8 (0, 0))) (h9 : W.heap[g9]? = some (.cells c9 t9 (0, 0)))
    (ht8 : ∀ q, q ∈ e :: d.E → q ≠ t8) (ht9 : ∀ q, q ∈ e :: d.E → q ≠ t9) (hk : ∀ k, k ≠ g8 → k ≠ g9 → W'.heap[k]? = W.heap[k]?) : d.R e W' base ok v xs :=
  Kd.R_mono (Kd.R_step (Kd.R_types (Kd.R_types h h8 ht8) h9 ht9) (fun k hk2 _ => hk k hk2.1.2 hk2.2)) (fun _ hk2 => hk2.1.1)
end Go.Proofs.YtkdhdhkfkgjcnaaDoor.PBlockRoundTrip
end
