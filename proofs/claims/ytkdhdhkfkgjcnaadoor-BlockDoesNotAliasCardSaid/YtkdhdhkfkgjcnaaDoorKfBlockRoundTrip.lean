/- The texts Dc Eq A0 Lv. -/
import Derived.Test.YtkdhdhkfkgjcnaaDoorKeBlockRoundTrip

section
namespace Go.Proofs.YtkdhdhkfkgjcnaaDoor.PBlockRoundTrip
open Go.RowKit Go.Proofs.YtkdhdhkfkgjcnaaDoorW.PrintWords Go.Proofs.YtkdhdhkfkgjcnaaDoorW.PrintMore
set_option linter.unusedSimpArgs false
set_option linter.unusedVariables false

/-- The block's rows are the call's own; two are cuts of one row. -/
structure BlkR (base : Nat) (w : World) (x : BV) (b : PB) : Prop where
  r0 : Kd.R (Kd.int .i64) 2 w base (fun _ => True) (.slice x.A0 b.times.length x.c0) b.times
  r1 : Kd.C (Kd.int .u8) w x.A1 b.index.length b.index
  r2 : Kd.R k55 55 w base (fun _ => True) (.slice x.A2 b.types.length x.c2) b.types
  r3 : Kd.C (Kd.int .u8) w x.A3 b.chars.length b.chars
  r4 : Kd.R k79 79 w base (fun _ => True) (.slice x.A4 b.leaps.length x.c4) b.leaps
  r5 : Kd.R Kd.bool 4 w base (fun _ => True) (.slice x.A5 b.std.length x.c5) b.std
  r6 : Kd.R Kd.bool 4 w base (fun _ => True) (.slice x.A6 b.ut.length x.c6) b.ut
  n1 : b.index.length ≤ x.c1
  n3 : b.chars.length ≤ x.c3
  dd : ∃ D cd d lo1 lo3, Kd.R (Kd.int .u8) 5 w base (fun _ => True) (.slice D d.length cd) d ∧ PartOf D lo1 x.A1 ∧ PartOf D lo3 x.A3
theorem R_le {α : Type} {d : Kd α} {e base : Nat} {w : World} {ok : Nat → Prop} {A : Option Addr} {c : Nat} {xs : List α} (h : d.R e w base ok (.slice A xs.length c) xs) : d.C w A xs.length xs ∧ xs.length ≤ c := by
  obtain ⟨A', c', he, hl, hC⟩ := Kd.R_reads h
  injection he with h1 h2 h3
  subst h1; subst h3
  exact ⟨hC, hl⟩
theorem BlkR.toC {base : Nat} {w : World} {x : BV} {b : PB} (h : BlkR base w x b) : BlkC w x b :=
  ⟨(R_le h.r0).1, h.r1, (R_le h.r2).1, h.r3, (R_le h.r4).1, (R_le h.r5).1, (R_le h.r6).1, (R_le h.r0).2, h.n1, (R_le h.r2).2, h.n3, (R_le h.r4).2, (R_le h.r5).2, (R_le h.r6).2⟩
theorem BlkR.below {base : Nat} {w w' : World} {x : BV} {b : PB} (h : BlkR base w x b) (hb : Below w.heap.size w w') : BlkR base w' x b := by
  obtain ⟨r0, r1, r2, r3, r4, r5, r6, n1, n3, D, cd, d, lo1, lo3, h1, h2, h3⟩ := h
  exact ⟨Kd.R_below r0 hb, Kd.C_below r1 hb, Kd.R_below r2 hb, Kd.C_below r3 hb, Kd.R_below r4 hb, Kd.R_below r5 hb, Kd.R_below r6 hb, n1, n3, D, cd, d, lo1, lo3, Kd.R_below h1 hb, h2, h3⟩
/-- The empty block. -/
def zB : PB := ⟨[], [], [], [], [], [], []⟩
def zV : BV := ⟨none, 0, none, 0, none, 0, none, 0, none, 0, none, 0, none, 0⟩
theorem BlkR.zero (base : Nat) (w : World) : BlkR base w zV zB :=
  ⟨Kd.R_nil _ _ _ _ _, Kd.C_nil _ _, Kd.R_nil _ _ _ _ _, Kd.C_nil _ _, Kd.R_nil _ _ _ _ _, Kd.R_nil _ _ _ _ _, Kd.R_nil _ _ _ _ _, Nat.le_refl _, Nat.le_refl _, none, 0, [], 0, 0, Kd.R_nil _ _ _ _ _, .inl rfl, .inl rfl⟩
/-- The block in its bytes d. -/
def decB (d : List Int) (O : Nat → Int) (s : Nat) : PB := ⟨timesOf (sec d O 0) s ((sec d O 0).length / s), sec d O 1, typesOf (sec d O 2) ((sec d O 2).length / 6), sec d O 3, leapsOf (sec d O 4) s ((sec d O 4).length / (s + 4)), flagsOf (sec d O 5), flagsOf (sec d O 6)⟩
theorem DecRows.toR {base : Nat} {W : World} {s : Nat} {d : List Int} {O : Nat → Int} {v0 v2 v4 v5 v6 : Value} {A1 A3 : Option Addr} (h : DecRows base W s d O v0 A1 v2 A3 v4 v5 v6) :
    ∃ x : BV, BlkR base W x (decB d O s) ∧ v0 = .slice x.A0 (decB d O s).times.length x.c0 ∧ Value.slice A1 (sec d O 1).length (sec d O 1).length = .slice x.A1 (decB d O s).index.length x.c1 ∧ v2 = .slice x.A2 (decB d O s).types.length x.c2 ∧ Value.slice A3 (sec d O 3).length (sec d O 3).length = .slice x.A3 (decB d O s).chars.length x.c3 ∧
      v4 = .slice x.A4 (decB d O s).leaps.length x.c4 ∧ v5 = .slice x.A5 (decB d O s).std.length x.c5 ∧ v6 = .slice x.A6 (decB d O s).ut.length x.c6 := by
  obtain ⟨r0, r1, r2, r3, r4, r5, r6, D, cd, h1, h2, h3⟩ := h
  obtain ⟨A0, c0, rfl⟩ := Kd.R_slice r0
  obtain ⟨A2, c2, rfl⟩ := Kd.R_slice r2
  obtain ⟨A4, c4, rfl⟩ := Kd.R_slice r4
  obtain ⟨A5, c5, rfl⟩ := Kd.R_slice r5
  obtain ⟨A6, c6, rfl⟩ := Kd.R_slice r6
  exact ⟨⟨A0, c0, A1, _, A2, c2, A3, _, A4, c4, A5, c5, A6, c6⟩, ⟨r0, r1, r2, r3, r4, r5, r6, Nat.le_refl _, Nat.le_refl _, D, cd, d, _, _, h1, h2, h3⟩, rfl, rfl, rfl, rfl, rfl, rfl, rfl⟩

/-- What block.Decode answers: the block, the cursor's position, its error and where. -/
inductive DecRes (l : List Int) (p t : Int) (a1 a2 a3 a4 a5 a6 : Int) (s : Nat) (at_ : Int) : PB → Int → Int → Int → Prop where
  | short : ¬ tot a1 a2 a3 a4 a5 a6 s ≤ l.length - p → DecRes l p t a1 a2 a3 a4 a5 a6 s at_ zB p 1 l.length
  | bad : tot a1 a2 a3 a4 a5 a6 s ≤ l.length - p → ¬ Good ((l.drop p.toNat).take (tot a1 a2 a3 a4 a5 a6 s).toNat) (offs a1 a2 a3 a4 a5 a6 s) → DecRes l p t a1 a2 a3 a4 a5 a6 s at_ zB (p + tot a1 a2 a3 a4 a5 a6 s) 10 at_
  | good : tot a1 a2 a3 a4 a5 a6 s ≤ l.length - p → Good ((l.drop p.toNat).take (tot a1 a2 a3 a4 a5 a6 s).toNat) (offs a1 a2 a3 a4 a5 a6 s) → DecRes l p t a1 a2 a3 a4 a5 a6 s at_ (decB ((l.drop p.toNat).take (tot a1 a2 a3 a4 a5 a6 s).toNat) (offs a1 a2 a3 a4 a5 a6 s) s) (p + tot a1 a2 a3 a4 a5 a6 s) 0 t

theorem Decode_c (A : Option Addr) (c : Nat) (l : List Int) (p t v a1 a2 a3 a4 a5 a6 at_ : Int) (s : Nat) (hs : s = 4 ∨ s = 8) (w : World) (hA : Kd.C (Kd.int .u8) w A l.length l) (hlc : l.length ≤ c) (hB : Byt l) (hG : Gl w) (hH : Hd a1 a2 a3 a4 a5 a6) (h0 : 0 ≤ p) (h1 : p ≤ l.length) (hn : l.length ≤ 8796093022208) :
    Calls Tryd.prog 12 #[.agg #[.slice A l.length c, .int .i64 p, .int .i64 0, .int .i64 t], .agg #[.int .i64 v, .int .u32 a1, .int .u32 a2, .int .u32 a3, .int .u32 a4, .int .u32 a5, .int .u32 a6], .int .i64 s, .int .i64 at_] w fun e w' =>
      ∃ (x : BV) (b : PB) (q er u : Int), e = .returned (.tuple #[.agg #[.slice x.A0 b.times.length x.c0, .slice x.A1 b.index.length x.c1, .slice x.A2 b.types.length x.c2, .slice x.A3 b.chars.length x.c3, .slice x.A4 b.leaps.length x.c4, .slice x.A5 b.std.length x.c5, .slice x.A6 b.ut.length x.c6], .agg #[.slice A l.length c, .int .i64 q, .int .i64 er, .int .i64 u]]) ∧
        Aside0 (DecRes l p t a1 a2 a3 a4 a5 a6 s at_ b q er u) ∧ Aside0 (BlkR w.heap.size w' x b) ∧ Below w.heap.size w w' := by
  by_cases hf : tot a1 a2 a3 a4 a5 a6 s ≤ l.length - p
  · refine (Decode_fit A c l p t v a1 a2 a3 a4 a5 a6 at_ s hs w hA hlc hB hG hH h0 h1 hn _ rfl hf _ rfl).mono ?_
    rintro e w' ⟨⟨hg, v0, A1, v2, A3, v4, v5, v6, rfl, hr⟩ | ⟨hg, rfl⟩, hb⟩
    · obtain ⟨x, hx, e0, e1, e2, e3, e4, e5, e6⟩ := hr.toR
      exact ⟨x, _, _, _, _, by rw [← e0, ← e1, ← e2, ← e3, ← e4, ← e5, ← e6], ⟨.good hf hg⟩, ⟨hx⟩, hb⟩
    · exact ⟨zV, zB, _, _, _, rfl, ⟨.bad hf hg⟩, ⟨BlkR.zero _ _⟩, hb⟩
  · refine (Decode_short A c l.length p t v a1 a2 a3 a4 a5 a6 s at_ w hH (by omega) (by omega) h0 h1 (by omega) hf).mono ?_
    rintro e w' ⟨rfl, hb⟩
    exact ⟨zV, zB, _, _, _, rfl, ⟨.short hf⟩, ⟨BlkR.zero _ _⟩, hb⟩
end Go.Proofs.YtkdhdhkfkgjcnaaDoor.PBlockRoundTrip
end

section
namespace Go.Proofs.YtkdhdhkfkgjcnaaDoor.PBlockRoundTrip
open Go.RowKit Go.Proofs.YtkdhdhkfkgjcnaaDoorW.PrintWords Go.Proofs.YtkdhdhkfkgjcnaaDoorW.PrintMore
set_option linter.unusedSimpArgs false
set_option linter.unusedVariables false

/-- Whether two data are equal. -/
noncomputable def eqB {α : Type} (a b : α) : Bool := @decide (a = b) (Classical.propDecidable _)
theorem eqB_true {α : Type} {a b : α} (h : a = b) : eqB a b = true := by simp [eqB, h]
theorem eqB_false {α : Type} {a b : α} (h : a ≠ b) : eqB a b = false := by simp [eqB, h]
theorem eqB_iff {α : Type} {a b : α} : eqB a b = true ↔ a = b := by simp [eqB]
theorem eqB_congr {α β : Type} {a b : α} {c d : β} (h : a = b ↔ c = d) : eqB a b = eqB c d := by
  by_cases e : a = b
  · rw [eqB_true e, eqB_true (h.1 e)]
  · rw [eqB_false e, eqB_false (fun g => e (h.2 g))]
theorem eqB_end {α : Type} {x y : List α} {i : Nat} (hx : x.length ≤ i) (hy : y.length ≤ i) : eqB (x.drop i) (y.drop i) = true := by
  rw [List.drop_of_length_le hx, List.drop_of_length_le hy]
  exact eqB_true rfl
theorem eqB_step {α : Type} {x y : List α} {i : Nat} (hx : i < x.length) (hy : i < y.length) (h : x[i] = y[i]) : eqB (x.drop i) (y.drop i) = eqB (x.drop (i + 1)) (y.drop (i + 1)) := by
  rw [List.drop_eq_getElem_cons hx, List.drop_eq_getElem_cons hy, h]
  exact eqB_congr ⟨fun e => (List.cons.inj e).2, fun e => by rw [e]⟩
theorem eqB_ne {α : Type} {x y : List α} {i : Nat} (hx : i < x.length) (hy : i < y.length) (h : x[i] ≠ y[i]) : eqB (x.drop i) (y.drop i) = false := by
  rw [List.drop_eq_getElem_cons hx, List.drop_eq_getElem_cons hy]
  exact eqB_false (fun e => h (List.cons.inj e).1)
theorem rdT_get (l : List S55) (k : Nat) (hk : k < l.length) : rd_T55 l k = l[k] := by simp [rd_T55, List.getD_eq_getElem?_getD, List.getElem?_eq_getElem hk]
theorem rdL_get (l : List S79) (k : Nat) (hk : k < l.length) : rd_T79 l k = l[k] := by simp [rd_T79, List.getD_eq_getElem?_getD, List.getElem?_eq_getElem hk]
theorem rdB_get (l : List Bool) (k : Nat) (hk : k < l.length) : rdOf false l k = l[k] := by simp [rdOf, List.getD_eq_getElem?_getD, List.getElem?_eq_getElem hk]
theorem neT {a b : S55} (h : a ≠ b) : (!(a.f0 == b.f0) || (!(a.f1 == b.f1) || !(a.f2 == b.f2))) = true := by
  obtain ⟨a0, a1, a2⟩ := a
  obtain ⟨b0, b1, b2⟩ := b
  by_cases h0 : a0 = b0
  · by_cases h1 : a1 = b1
    · have h2 : a2 ≠ b2 := fun e => h (by rw [h0, h1, e])
      simp [h2]
    · simp [h1]
  · simp [h0]
theorem neL {a b : S79} (h : a ≠ b) : (!(a.f0 == b.f0) || !(a.f1 == b.f1)) = true := by
  obtain ⟨a0, a1⟩ := a
  obtain ⟨b0, b1⟩ := b
  by_cases h0 : a0 = b0
  · have h2 : a1 ≠ b1 := fun e => h (by rw [h0, e])
    simp [h2]
  · simp [h0]

theorem zoneinforef01_Same_l0 (x y : List Int) (hl : x.length = y.length) (hm : x.length ≤ 140737488355328) (d : Nat) : ∀ (i K : Nat), i + d = x.length → d < K → zoneinforef01_Same.l0 K x y (i : Int) = some (eqB (x.drop i) (y.drop i)) := by
  induction d with
  | zero =>
    intro i K hi hK
    obtain ⟨K, rfl⟩ : ∃ m, K = m + 1 := ⟨K - 1, by omega⟩
    simp only [zoneinforef01_Same.l0]
    rw [if_neg (by omega), eqB_end (by omega) (by omega)]
  | succ d ih =>
    intro i K hi hK
    obtain ⟨K, rfl⟩ : ∃ m, K = m + 1 := ⟨K - 1, by omega⟩
    simp only [zoneinforef01_Same.l0]
    have hw : wrap64 ((i : Int) + 1) = ((i + 1 : Nat) : Int) := by unfold wrap64; omega
    rw [if_pos (by omega), if_pos (by omega), if_pos (by omega), hw]
    by_cases he : rd x (i : Int) = rd y (i : Int)
    · rw [if_pos he, ih (i + 1) K (by omega) (by omega)]
      rw [rd_get x i (by omega), rd_get y i (by omega)] at he
      rw [eqB_step (by omega) (by omega) he]
    · rw [if_neg he]
      rw [rd_get x i (by omega), rd_get y i (by omega)] at he
      rw [eqB_ne (by omega) (by omega) he]
theorem zoneinforef01_Same_e (x y : List Int) (hm : x.length ≤ 140737488355328) (K : Nat) (hK : x.length < K) : zoneinforef01_Same.f K x y = some (eqB x y) := by
  unfold zoneinforef01_Same.f
  by_cases hl : x.length = y.length
  · rw [if_pos (by omega)]
    exact zoneinforef01_Same_l0 x y hl hm x.length 0 K (by omega) hK
  · rw [if_neg (by omega), eqB_false (fun e => hl (by rw [e]))]
theorem zoneinforef15_Same_l0 (x y : List Int) (hl : x.length = y.length) (hm : x.length ≤ 140737488355328) (d : Nat) : ∀ (i K : Nat), i + d = x.length → d < K → zoneinforef15_Same.l0 K x y (i : Int) = some (eqB (x.drop i) (y.drop i)) := by
  induction d with
  | zero =>
    intro i K hi hK
    obtain ⟨K, rfl⟩ : ∃ m, K = m + 1 := ⟨K - 1, by omega⟩
    simp only [zoneinforef15_Same.l0]
    rw [if_neg (by omega), eqB_end (by omega) (by omega)]
  | succ d ih =>
    intro i K hi hK
    obtain ⟨K, rfl⟩ : ∃ m, K = m + 1 := ⟨K - 1, by omega⟩
    simp only [zoneinforef15_Same.l0]
    have hw : wrap64 ((i : Int) + 1) = ((i + 1 : Nat) : Int) := by unfold wrap64; omega
    rw [if_pos (by omega), if_pos (by omega), if_pos (by omega), hw]
    by_cases he : rd x (i : Int) = rd y (i : Int)
    · rw [if_pos he, ih (i + 1) K (by omega) (by omega)]
      rw [rd_get x i (by omega), rd_get y i (by omega)] at he
      rw [eqB_step (by omega) (by omega) he]
    · rw [if_neg he]
      rw [rd_get x i (by omega), rd_get y i (by omega)] at he
      rw [eqB_ne (by omega) (by omega) he]
theorem zoneinforef15_Same_e (x y : List Int) (hm : x.length ≤ 140737488355328) (K : Nat) (hK : x.length < K) : zoneinforef15_Same.f K x y = some (eqB x y) := by
  unfold zoneinforef15_Same.f
  by_cases hl : x.length = y.length
  · rw [if_pos (by omega)]
    exact zoneinforef15_Same_l0 x y hl hm x.length 0 K (by omega) hK
  · rw [if_neg (by omega), eqB_false (fun e => hl (by rw [e]))]
theorem zoneinforef16_Same_l0 (x y : List S55) (hl : x.length = y.length) (hm : x.length ≤ 140737488355328) (d : Nat) : ∀ (i K : Nat), i + d = x.length → d < K → zoneinforef16_Same.l0 K x y (i : Int) = some (eqB (x.drop i) (y.drop i)) := by
  induction d with
  | zero =>
    intro i K hi hK
    obtain ⟨K, rfl⟩ : ∃ m, K = m + 1 := ⟨K - 1, by omega⟩
    simp only [zoneinforef16_Same.l0]
    rw [if_neg (by omega), eqB_end (by omega) (by omega)]
  | succ d ih =>
    intro i K hi hK
    obtain ⟨K, rfl⟩ : ∃ m, K = m + 1 := ⟨K - 1, by omega⟩
    simp only [zoneinforef16_Same.l0]
    have hw : wrap64 ((i : Int) + 1) = ((i + 1 : Nat) : Int) := by unfold wrap64; omega
    rw [if_pos (by omega), if_pos (by omega), if_pos (by omega), hw]
    by_cases he : rd_T55 x (i : Int) = rd_T55 y (i : Int)
    · rw [if_neg (by rw [he]; simp), ih (i + 1) K (by omega) (by omega)]
      rw [rdT_get x i (by omega), rdT_get y i (by omega)] at he
      rw [eqB_step (by omega) (by omega) he]
    · rw [if_pos (neT he)]
      rw [rdT_get x i (by omega), rdT_get y i (by omega)] at he
      rw [eqB_ne (by omega) (by omega) he]
theorem zoneinforef16_Same_e (x y : List S55) (hm : x.length ≤ 140737488355328) (K : Nat) (hK : x.length < K) : zoneinforef16_Same.f K x y = some (eqB x y) := by
  unfold zoneinforef16_Same.f
  by_cases hl : x.length = y.length
  · rw [if_pos (by omega)]
    exact zoneinforef16_Same_l0 x y hl hm x.length 0 K (by omega) hK
  · rw [if_neg (by omega), eqB_false (fun e => hl (by rw [e]))]
theorem zoneinforef17_Same_l0 (x y : List S79) (hl : x.length = y.length) (hm : x.length ≤ 140737488355328) (d : Nat) : ∀ (i K : Nat), i + d = x.length → d < K → zoneinforef17_Same.l0 K x y (i : Int) = some (eqB (x.drop i) (y.drop i)) := by
  induction d with
  | zero =>
    intro i K hi hK
    obtain ⟨K, rfl⟩ : ∃ m, K = m + 1 := ⟨K - 1, by omega⟩
    simp only [zoneinforef17_Same.l0]
    rw [if_neg (by omega), eqB_end (by omega) (by omega)]
  | succ d ih =>
    intro i K hi hK
    obtain ⟨K, rfl⟩ : ∃ m, K = m + 1 := ⟨K - 1, by omega⟩
    simp only [zoneinforef17_Same.l0]
    have hw : wrap64 ((i : Int) + 1) = ((i + 1 : Nat) : Int) := by unfold wrap64; omega
    rw [if_pos (by omega), if_pos (by omega), if_pos (by omega), hw]
    by_cases he : rd_T79 x (i : Int) = rd_T79 y (i : Int)
    · rw [if_neg (by rw [he]; simp), ih (i + 1) K (by omega) (by omega)]
      rw [rdL_get x i (by omega), rdL_get y i (by omega)] at he
      rw [eqB_step (by omega) (by omega) he]
    · rw [if_pos (neL he)]
      rw [rdL_get x i (by omega), rdL_get y i (by omega)] at he
      rw [eqB_ne (by omega) (by omega) he]
theorem zoneinforef17_Same_e (x y : List S79) (hm : x.length ≤ 140737488355328) (K : Nat) (hK : x.length < K) : zoneinforef17_Same.f K x y = some (eqB x y) := by
  unfold zoneinforef17_Same.f
  by_cases hl : x.length = y.length
  · rw [if_pos (by omega)]
    exact zoneinforef17_Same_l0 x y hl hm x.length 0 K (by omega) hK
  · rw [if_neg (by omega), eqB_false (fun e => hl (by rw [e]))]
theorem zoneinforef18_Same_l0 (x y : List Bool) (hl : x.length = y.length) (hm : x.length ≤ 140737488355328) (d : Nat) : ∀ (i K : Nat), i + d = x.length → d < K → zoneinforef18_Same.l0 K x y (i : Int) = some (eqB (x.drop i) (y.drop i)) := by
  induction d with
  | zero =>
    intro i K hi hK
    obtain ⟨K, rfl⟩ : ∃ m, K = m + 1 := ⟨K - 1, by omega⟩
    simp only [zoneinforef18_Same.l0]
    rw [if_neg (by omega), eqB_end (by omega) (by omega)]
  | succ d ih =>
    intro i K hi hK
    obtain ⟨K, rfl⟩ : ∃ m, K = m + 1 := ⟨K - 1, by omega⟩
    simp only [zoneinforef18_Same.l0]
    have hw : wrap64 ((i : Int) + 1) = ((i + 1 : Nat) : Int) := by unfold wrap64; omega
    rw [if_pos (by omega), if_pos (by omega), if_pos (by omega), hw]
    by_cases he : rdOf false x (i : Int) = rdOf false y (i : Int)
    · rw [if_neg (by rw [he]; simp), ih (i + 1) K (by omega) (by omega)]
      rw [rdB_get x i (by omega), rdB_get y i (by omega)] at he
      rw [eqB_step (by omega) (by omega) he]
    · rw [if_pos (by simpa using he)]
      rw [rdB_get x i (by omega), rdB_get y i (by omega)] at he
      rw [eqB_ne (by omega) (by omega) he]
theorem zoneinforef18_Same_e (x y : List Bool) (hm : x.length ≤ 140737488355328) (K : Nat) (hK : x.length < K) : zoneinforef18_Same.f K x y = some (eqB x y) := by
  unfold zoneinforef18_Same.f
  by_cases hl : x.length = y.length
  · rw [if_pos (by omega)]
    exact zoneinforef18_Same_l0 x y hl hm x.length 0 K (by omega) hK
  · rw [if_neg (by omega), eqB_false (fun e => hl (by rw [e]))]
theorem slices_Equal_int64_int64_l0 (x y : List Int) (hl : x.length = y.length) (hm : x.length ≤ 140737488355328) (d : Nat) : ∀ (i K : Nat), i + d = x.length → d < K → slices_Equal_int64_int64.l0 K x y (x.length : Int) (i : Int) = some (eqB (x.drop i) (y.drop i)) := by
  induction d with
  | zero =>
    intro i K hi hK
    obtain ⟨K, rfl⟩ : ∃ m, K = m + 1 := ⟨K - 1, by omega⟩
    simp only [slices_Equal_int64_int64.l0]
    rw [if_neg (by omega), eqB_end (by omega) (by omega)]
  | succ d ih =>
    intro i K hi hK
    obtain ⟨K, rfl⟩ : ∃ m, K = m + 1 := ⟨K - 1, by omega⟩
    simp only [slices_Equal_int64_int64.l0]
    have hw : wrap64 ((i : Int) + 1) = ((i + 1 : Nat) : Int) := by unfold wrap64; omega
    rw [if_pos (by omega), if_pos (by omega), if_pos (by omega), if_pos (by omega), hw]
    by_cases he : rd x (i : Int) = rd y (i : Int)
    · rw [if_pos he, ih (i + 1) K (by omega) (by omega)]
      rw [rd_get x i (by omega), rd_get y i (by omega)] at he
      rw [eqB_step (by omega) (by omega) he]
    · rw [if_neg he]
      rw [rd_get x i (by omega), rd_get y i (by omega)] at he
      rw [eqB_ne (by omega) (by omega) he]
theorem slices_Equal_int64_int64_e (x y : List Int) (hm : x.length ≤ 140737488355328) (K : Nat) (hK : x.length < K) : slices_Equal_int64_int64.f K x y = some (eqB x y) := by
  unfold slices_Equal_int64_int64.f
  by_cases hl : x.length = y.length
  · rw [if_pos (by omega)]
    exact slices_Equal_int64_int64_l0 x y hl hm x.length 0 K (by omega) hK
  · rw [if_neg (by omega), eqB_false (fun e => hl (by rw [e]))]
theorem slices_Equal_uint8_uint8_l0 (x y : List Int) (hl : x.length = y.length) (hm : x.length ≤ 140737488355328) (d : Nat) : ∀ (i K : Nat), i + d = x.length → d < K → slices_Equal_uint8_uint8.l0 K x y (x.length : Int) (i : Int) = some (eqB (x.drop i) (y.drop i)) := by
  induction d with
  | zero =>
    intro i K hi hK
    obtain ⟨K, rfl⟩ : ∃ m, K = m + 1 := ⟨K - 1, by omega⟩
    simp only [slices_Equal_uint8_uint8.l0]
    rw [if_neg (by omega), eqB_end (by omega) (by omega)]
  | succ d ih =>
    intro i K hi hK
    obtain ⟨K, rfl⟩ : ∃ m, K = m + 1 := ⟨K - 1, by omega⟩
    simp only [slices_Equal_uint8_uint8.l0]
    have hw : wrap64 ((i : Int) + 1) = ((i + 1 : Nat) : Int) := by unfold wrap64; omega
    rw [if_pos (by omega), if_pos (by omega), if_pos (by omega), if_pos (by omega), hw]
    by_cases he : rd x (i : Int) = rd y (i : Int)
    · rw [if_pos he, ih (i + 1) K (by omega) (by omega)]
      rw [rd_get x i (by omega), rd_get y i (by omega)] at he
      rw [eqB_step (by omega) (by omega) he]
    · rw [if_neg he]
      rw [rd_get x i (by omega), rd_get y i (by omega)] at he
      rw [eqB_ne (by omega) (by omega) he]
theorem slices_Equal_uint8_uint8_e (x y : List Int) (hm : x.length ≤ 140737488355328) (K : Nat) (hK : x.length < K) : slices_Equal_uint8_uint8.f K x y = some (eqB x y) := by
  unfold slices_Equal_uint8_uint8.f
  by_cases hl : x.length = y.length
  · rw [if_pos (by omega)]
    exact slices_Equal_uint8_uint8_l0 x y hl hm x.length 0 K (by omega) hK
  · rw [if_neg (by omega), eqB_false (fun e => hl (by rw [e]))]
theorem api_Type_l0 (x y : List S55) (hl : x.length = y.length) (hm : x.length ≤ 140737488355328) (d : Nat) : ∀ (i K : Nat), i + d = x.length → d < K → api_Type.l0 K x y (x.length : Int) (i : Int) = some (eqB (x.drop i) (y.drop i)) := by
  induction d with
  | zero =>
    intro i K hi hK
    obtain ⟨K, rfl⟩ : ∃ m, K = m + 1 := ⟨K - 1, by omega⟩
    simp only [api_Type.l0]
    rw [if_neg (by omega), eqB_end (by omega) (by omega)]
  | succ d ih =>
    intro i K hi hK
    obtain ⟨K, rfl⟩ : ∃ m, K = m + 1 := ⟨K - 1, by omega⟩
    simp only [api_Type.l0]
    have hw : wrap64 ((i : Int) + 1) = ((i + 1 : Nat) : Int) := by unfold wrap64; omega
    rw [if_pos (by omega), if_pos (by omega), if_pos (by omega), if_pos (by omega), hw]
    by_cases he : rd_T55 x (i : Int) = rd_T55 y (i : Int)
    · rw [if_neg (by rw [he]; simp), ih (i + 1) K (by omega) (by omega)]
      rw [rdT_get x i (by omega), rdT_get y i (by omega)] at he
      rw [eqB_step (by omega) (by omega) he]
    · rw [if_pos (neT he)]
      rw [rdT_get x i (by omega), rdT_get y i (by omega)] at he
      rw [eqB_ne (by omega) (by omega) he]
theorem api_Type_e (x y : List S55) (hm : x.length ≤ 140737488355328) (K : Nat) (hK : x.length < K) : api_Type.f K x y = some (eqB x y) := by
  unfold api_Type.f
  by_cases hl : x.length = y.length
  · rw [if_pos (by omega)]
    exact api_Type_l0 x y hl hm x.length 0 K (by omega) hK
  · rw [if_neg (by omega), eqB_false (fun e => hl (by rw [e]))]
theorem api_Leap_l0 (x y : List S79) (hl : x.length = y.length) (hm : x.length ≤ 140737488355328) (d : Nat) : ∀ (i K : Nat), i + d = x.length → d < K → api_Leap.l0 K x y (x.length : Int) (i : Int) = some (eqB (x.drop i) (y.drop i)) := by
  induction d with
  | zero =>
    intro i K hi hK
    obtain ⟨K, rfl⟩ : ∃ m, K = m + 1 := ⟨K - 1, by omega⟩
    simp only [api_Leap.l0]
    rw [if_neg (by omega), eqB_end (by omega) (by omega)]
  | succ d ih =>
    intro i K hi hK
    obtain ⟨K, rfl⟩ : ∃ m, K = m + 1 := ⟨K - 1, by omega⟩
    simp only [api_Leap.l0]
    have hw : wrap64 ((i : Int) + 1) = ((i + 1 : Nat) : Int) := by unfold wrap64; omega
    rw [if_pos (by omega), if_pos (by omega), if_pos (by omega), if_pos (by omega), hw]
    by_cases he : rd_T79 x (i : Int) = rd_T79 y (i : Int)
    · rw [if_neg (by rw [he]; simp), ih (i + 1) K (by omega) (by omega)]
      rw [rdL_get x i (by omega), rdL_get y i (by omega)] at he
      rw [eqB_step (by omega) (by omega) he]
    · rw [if_pos (neL he)]
      rw [rdL_get x i (by omega), rdL_get y i (by omega)] at he
      rw [eqB_ne (by omega) (by omega) he]
theorem api_Leap_e (x y : List S79) (hm : x.length ≤ 140737488355328) (K : Nat) (hK : x.length < K) : api_Leap.f K x y = some (eqB x y) := by
  unfold api_Leap.f
  by_cases hl : x.length = y.length
  · rw [if_pos (by omega)]
    exact api_Leap_l0 x y hl hm x.length 0 K (by omega) hK
  · rw [if_neg (by omega), eqB_false (fun e => hl (by rw [e]))]
theorem slices_Equal_bool_bool_l0 (x y : List Bool) (hl : x.length = y.length) (hm : x.length ≤ 140737488355328) (d : Nat) : ∀ (i K : Nat), i + d = x.length → d < K → slices_Equal_bool_bool.l0 K x y (x.length : Int) (i : Int) = some (eqB (x.drop i) (y.drop i)) := by
  induction d with
  | zero =>
    intro i K hi hK
    obtain ⟨K, rfl⟩ : ∃ m, K = m + 1 := ⟨K - 1, by omega⟩
    simp only [slices_Equal_bool_bool.l0]
    rw [if_neg (by omega), eqB_end (by omega) (by omega)]
  | succ d ih =>
    intro i K hi hK
    obtain ⟨K, rfl⟩ : ∃ m, K = m + 1 := ⟨K - 1, by omega⟩
    simp only [slices_Equal_bool_bool.l0]
    have hw : wrap64 ((i : Int) + 1) = ((i + 1 : Nat) : Int) := by unfold wrap64; omega
    rw [if_pos (by omega), if_pos (by omega), if_pos (by omega), if_pos (by omega), hw]
    by_cases he : rdOf false x (i : Int) = rdOf false y (i : Int)
    · rw [if_neg (by rw [he]; simp), ih (i + 1) K (by omega) (by omega)]
      rw [rdB_get x i (by omega), rdB_get y i (by omega)] at he
      rw [eqB_step (by omega) (by omega) he]
    · rw [if_pos (by simpa using he)]
      rw [rdB_get x i (by omega), rdB_get y i (by omega)] at he
      rw [eqB_ne (by omega) (by omega) he]
theorem slices_Equal_bool_bool_e (x y : List Bool) (hm : x.length ≤ 140737488355328) (K : Nat) (hK : x.length < K) : slices_Equal_bool_bool.f K x y = some (eqB x y) := by
  unfold slices_Equal_bool_bool.f
  by_cases hl : x.length = y.length
  · rw [if_pos (by omega)]
    exact slices_Equal_bool_bool_l0 x y hl hm x.length 0 K (by omega) hK
  · rw [if_neg (by omega), eqB_false (fun e => hl (by rw [e]))]

/-- A block's rows are shorter than K. -/
structure Sh (b : PB) (K : Nat) : Prop where
  m0 : b.times.length < K
  m1 : b.index.length < K
  m2 : b.types.length < K
  m3 : b.chars.length < K
  m4 : b.leaps.length < K
  m5 : b.std.length < K
  m6 : b.ut.length < K
theorem Sm.sh {b : PB} (h : Sm b) : Sh b 34359738369 := ⟨by have := h.m0; omega, by have := h.m1; omega, by have := h.m2; omega, by have := h.m3; omega, by have := h.m4; omega, by have := h.m5; omega, by have := h.m6; omega⟩
theorem eqPB (a b : PB) : (if eqB a.times b.times = true then (if eqB a.index b.index = true then (if eqB a.types b.types = true then (if eqB a.chars b.chars = true then (if eqB a.leaps b.leaps = true then (if eqB a.std b.std = true then eqB a.ut b.ut else false) else false) else false) else false) else false) else false) = eqB a b := by
  by_cases h : a = b
  · subst h
    simp [eqB_true rfl]
  · rw [eqB_false h]
    by_cases h0 : a.times = b.times
    · by_cases h1 : a.index = b.index
      · by_cases h2 : a.types = b.types
        · by_cases h3 : a.chars = b.chars
          · by_cases h4 : a.leaps = b.leaps
            · by_cases h5 : a.std = b.std
              · by_cases h6 : a.ut = b.ut
                · exact absurd (PB.same h0 h1 h2 h3 h4 h5 h6) h
                · rw [eqB_false h6]; simp
              · rw [eqB_false h5]; simp
            · rw [eqB_false h4]; simp
          · rw [eqB_false h3]; simp
        · rw [eqB_false h2]; simp
      · rw [eqB_false h1]; simp
    · rw [eqB_false h0]; simp
theorem zoneinforef19_Equal_e (a b : PB) (K : Nat) (h : Sh a K) (hK : K ≤ 140737488355328) : zoneinforef19_Equal.f K a.times a.index a.types a.chars a.leaps a.std a.ut b.times b.index b.types b.chars b.leaps b.std b.ut = some (eqB a b) := by
  rw [← eqPB]
  unfold zoneinforef19_Equal.f
  rw [zoneinforef15_Same_e a.times b.times (by have := h.m0; omega) K h.m0, zoneinforef01_Same_e a.index b.index (by have := h.m1; omega) K h.m1, zoneinforef16_Same_e a.types b.types (by have := h.m2; omega) K h.m2, zoneinforef01_Same_e a.chars b.chars (by have := h.m3; omega) K h.m3, zoneinforef17_Same_e a.leaps b.leaps (by have := h.m4; omega) K h.m4, zoneinforef18_Same_e a.std b.std (by have := h.m5; omega) K h.m5, zoneinforef18_Same_e a.ut b.ut (by have := h.m6; omega) K h.m6]
  simp only [Option.bind_some]
  split
  · split
    · split
      · split
        · split
          · split
            · rfl
            · rfl
          · rfl
        · rfl
      · rfl
    · rfl
  · rfl
theorem block_Equal_e (a b : PB) (K : Nat) (h : Sh a K) (hK : K ≤ 140737488355328) : block_Equal.f K a.times a.index a.types a.chars a.leaps a.std a.ut b.times b.index b.types b.chars b.leaps b.std b.ut = some (eqB a b) := by
  rw [← eqPB]
  unfold block_Equal.f
  rw [slices_Equal_int64_int64_e a.times b.times (by have := h.m0; omega) K h.m0, slices_Equal_uint8_uint8_e a.index b.index (by have := h.m1; omega) K h.m1, api_Type_e a.types b.types (by have := h.m2; omega) K h.m2, slices_Equal_uint8_uint8_e a.chars b.chars (by have := h.m3; omega) K h.m3, api_Leap_e a.leaps b.leaps (by have := h.m4; omega) K h.m4, slices_Equal_bool_bool_e a.std b.std (by have := h.m5; omega) K h.m5, slices_Equal_bool_bool_e a.ut b.ut (by have := h.m6; omega) K h.m6]
  simp only [Option.bind_some]
  split
  · split
    · split
      · split
        · split
          · split
            · rfl
            · rfl
          · rfl
        · rfl
      · rfl
    · rfl
  · rfl
theorem REqual_c (x y : BV) (a b : PB) (w : World) (hx : BlkC w x a) (hy : BlkC w y b) (hm : Sm a) :
    Calls Tryd.prog 14 #[.agg #[.slice x.A0 a.times.length x.c0, .slice x.A1 a.index.length x.c1, .slice x.A2 a.types.length x.c2, .slice x.A3 a.chars.length x.c3, .slice x.A4 a.leaps.length x.c4, .slice x.A5 a.std.length x.c5, .slice x.A6 a.ut.length x.c6], .agg #[.slice y.A0 b.times.length y.c0, .slice y.A1 b.index.length y.c1, .slice y.A2 b.types.length y.c2, .slice y.A3 b.chars.length y.c3, .slice y.A4 b.leaps.length y.c4, .slice y.A5 b.std.length y.c5, .slice y.A6 b.ut.length y.c6]] w fun e w' => e = .returned (.bool (eqB a b)) ∧ Below w.heap.size w w' :=
  zoneinforef19_Equal.calls 34359738369 x.A0 x.c0 a.times x.A1 x.c1 a.index x.A2 x.c2 a.types x.A3 x.c3 a.chars x.A4 x.c4 a.leaps x.A5 x.c5 a.std x.A6 x.c6 a.ut y.A0 y.c0 b.times y.A1 y.c1 b.index y.A2 y.c2 b.types y.A3 y.c3 b.chars y.A4 y.c4 b.leaps y.A5 y.c5 b.std y.A6 y.c6 b.ut _ w hx.r0 hx.n0 hx.r1 hx.n1 hx.r2 hx.n2 hx.r3 hx.n3 hx.r4 hx.n4 hx.r5 hx.n5 hx.r6 hx.n6 hy.r0 hy.n0 hy.r1 hy.n1 hy.r2 hy.n2 hy.r3 hy.n3 hy.r4 hy.n4 hy.r5 hy.n5 hy.r6 hy.n6 (zoneinforef19_Equal_e a b 34359738369 hm.sh (by omega))
theorem Equal_c (x y : BV) (a b : PB) (w : World) (hx : BlkC w x a) (hy : BlkC w y b) (hm : Sm a) :
    Calls Tryd.prog 18 #[.agg #[.slice x.A0 a.times.length x.c0, .slice x.A1 a.index.length x.c1, .slice x.A2 a.types.length x.c2, .slice x.A3 a.chars.length x.c3, .slice x.A4 a.leaps.length x.c4, .slice x.A5 a.std.length x.c5, .slice x.A6 a.ut.length x.c6], .agg #[.slice y.A0 b.times.length y.c0, .slice y.A1 b.index.length y.c1, .slice y.A2 b.types.length y.c2, .slice y.A3 b.chars.length y.c3, .slice y.A4 b.leaps.length y.c4, .slice y.A5 b.std.length y.c5, .slice y.A6 b.ut.length y.c6]] w fun e w' => e = .returned (.bool (eqB a b)) ∧ Below w.heap.size w w' :=
  block_Equal.calls 34359738369 x.A0 x.c0 a.times x.A1 x.c1 a.index x.A2 x.c2 a.types x.A3 x.c3 a.chars x.A4 x.c4 a.leaps x.A5 x.c5 a.std x.A6 x.c6 a.ut y.A0 y.c0 b.times y.A1 y.c1 b.index y.A2 y.c2 b.types y.A3 y.c3 b.chars y.A4 y.c4 b.leaps y.A5 y.c5 b.std y.A6 y.c6 b.ut _ w hx.r0 hx.n0 hx.r1 hx.n1 hx.r2 hx.n2 hx.r3 hx.n3 hx.r4 hx.n4 hx.r5 hx.n5 hx.r6 hx.n6 hy.r0 hy.n0 hy.r1 hy.n1 hy.r2 hy.n2 hy.r3 hy.n3 hy.r4 hy.n4 hy.r5 hy.n5 hy.r6 hy.n6 (block_Equal_e a b 34359738369 hm.sh (by omega))
/-- The header of a block. -/
def hdr (b : PB) (v : Int) : Value := .agg #[.int .i64 v, .int .u32 b.ut.length, .int .u32 b.std.length, .int .u32 b.leaps.length, .int .u32 b.times.length, .int .u32 b.types.length, .int .u32 b.chars.length]
/-- The block's lists fit a header. -/
structure Sw (b : PB) : Prop where
  m0 : b.times.length ≤ 1000000
  m1 : b.index.length ≤ 1000000
  m2 : b.types.length ≤ 1000000
  m3 : b.chars.length ≤ 1000000
  m4 : b.leaps.length ≤ 1000000
  m5 : b.std.length ≤ 1000000
  m6 : b.ut.length ≤ 1000000
theorem Sw.sm {b : PB} (h : Sw b) : Sm b := ⟨by have := h.m0; omega, by have := h.m1; omega, by have := h.m2; omega, by have := h.m3; omega, by have := h.m4; omega, by have := h.m5; omega, by have := h.m6; omega⟩
theorem Header_c (x : BV) (b : PB) (v : Int) (w : World) (hx : BlkC w x b) (hm : Sw b) :
    Calls Tryd.prog 16 #[.agg #[.slice x.A0 b.times.length x.c0, .slice x.A1 b.index.length x.c1, .slice x.A2 b.types.length x.c2, .slice x.A3 b.chars.length x.c3, .slice x.A4 b.leaps.length x.c4, .slice x.A5 b.std.length x.c5, .slice x.A6 b.ut.length x.c6], .int .i64 v] w fun e w' => e = .returned (.agg #[.int .i64 v, .int .u32 b.ut.length, .int .u32 b.std.length, .int .u32 b.leaps.length, .int .u32 b.times.length, .int .u32 b.types.length, .int .u32 b.chars.length]) ∧ Below w.heap.size w w' := by
  obtain ⟨m0, m1, m2, m3, m4, m5, m6⟩ := hm
  exact block_Header.calls x.A0 x.c0 b.times x.A1 x.c1 b.index x.A2 x.c2 b.types x.A3 x.c3 b.chars x.A4 x.c4 b.leaps x.A5 x.c5 b.std x.A6 x.c6 b.ut v v b.ut.length b.std.length b.leaps.length b.times.length b.types.length b.chars.length w hx.r0 hx.n0 hx.r1 hx.n1 hx.r2 hx.n2 hx.r3 hx.n3 hx.r4 hx.n4 hx.r5 hx.n5 hx.r6 hx.n6 (by
    unfold block_Header.f
    rw [Int.emod_eq_of_lt (by omega) (by omega), Int.emod_eq_of_lt (by omega) (by omega), Int.emod_eq_of_lt (by omega) (by omega), Int.emod_eq_of_lt (by omega) (by omega), Int.emod_eq_of_lt (by omega) (by omega), Int.emod_eq_of_lt (by omega) (by omega)])
end Go.Proofs.YtkdhdhkfkgjcnaaDoor.PBlockRoundTrip
end

section
namespace Go.Proofs.YtkdhdhkfkgjcnaaDoor.PBlockRoundTrip
open Go.RowKit Go.Proofs.YtkdhdhkfkgjcnaaDoorW.PrintWords Go.Proofs.YtkdhdhkfkgjcnaaDoorW.PrintMore
set_option linter.unusedSimpArgs false
set_option linter.unusedVariables false

def slB : PB := ⟨[], [], [⟨0, false, 0⟩], [0], [], [], []⟩
def xB : PB := ⟨[-1], [1], [⟨0, false, 0⟩, ⟨60, true, 1⟩], [0, 0], [], [false, true], []⟩
def fB : List Int := [255, 255, 255, 255, 1, 0, 0, 0, 0, 0, 0, 0, 0, 0, 60, 1, 1, 0, 0, 0, 1]
theorem enc_sl : encB slB 8 = List.replicate 7 0 := by decide +kernel
theorem enc_x : encB xB 4 = fB := by decide +kernel
theorem byt_f : Byt fB := by unfold Byt; decide +kernel
theorem sl_sw : Sw slB := by constructor <;> decide +kernel
theorem x_sw : Sw xB := by constructor <;> decide +kernel
theorem hd_x : Hd 0 2 0 1 2 2 := by constructor <;> decide
theorem dec_f {b : PB} {q er u : Int} (h : DecRes fB 0 0 0 2 0 1 2 2 4 7 b q er u) : b = xB ∧ q = 21 ∧ er = 0 ∧ u = 0 := by
  cases h with
  | short h => exact absurd (show tot 0 2 0 1 2 2 (4 : Nat) ≤ (fB.length : Int) - 0 by decide +kernel) h
  | bad h1 h2 => exact absurd (show Good ((fB.drop (0 : Int).toNat).take (tot 0 2 0 1 2 2 (4 : Nat)).toNat) (offs 0 2 0 1 2 2 (4 : Nat)) by unfold Good FlagT Flags; decide +kernel) h2
  | good h1 h2 => exact ⟨by kernel_rfl, by decide +kernel, rfl, rfl⟩
theorem dec_cut {b : PB} {q er u : Int} (h : DecRes (fB.take 20) 0 0 0 2 0 1 2 2 4 7 b q er u) : b = zB ∧ q = 0 ∧ er = 1 ∧ u = 20 := by
  cases h with
  | short h => exact ⟨rfl, rfl, rfl, by decide +kernel⟩
  | bad h1 h2 => exact absurd h1 (by decide +kernel)
  | good h1 h2 => exact absurd h1 (by decide +kernel)
theorem dec_bad {b : PB} {q er u : Int} (h : DecRes (fB.set 20 2) 0 0 0 2 0 1 2 2 4 7 b q er u) : b = zB ∧ q = 21 ∧ er = 10 ∧ u = 7 := by
  cases h with
  | short h => exact absurd (show tot 0 2 0 1 2 2 (4 : Nat) ≤ ((fB.set 20 2).length : Int) - 0 by decide +kernel) h
  | bad h1 h2 => exact ⟨rfl, by decide +kernel, rfl, rfl⟩
  | good h1 h2 => exact absurd h2 (by unfold Good FlagT Flags; decide +kernel)
theorem x_ne : eqB xB slB = false := eqB_false (by intro h; have := congrArg (fun b : PB => b.times.length) h; revert this; decide)
end Go.Proofs.YtkdhdhkfkgjcnaaDoor.PBlockRoundTrip
end

section
namespace Go.Proofs.YtkdhdhkfkgjcnaaDoor.PBlockRoundTrip
open Go.RowKit Go.Proofs.YtkdhdhkfkgjcnaaDoorW.PrintWords Go.Proofs.YtkdhdhkfkgjcnaaDoorW.PrintMore
set_option linter.unusedSimpArgs false
set_option linter.unusedVariables false

/-- A local block. -/
structure LB (w : World) (g : Nat) (x : BV) (b : PB) : Prop where
  k : w.heap[g]? = some (.cells #[.slice x.A0 b.times.length x.c0, .slice x.A1 b.index.length x.c1, .slice x.A2 b.types.length x.c2, .slice x.A3 b.chars.length x.c3, .slice x.A4 b.leaps.length x.c4, .slice x.A5 b.std.length x.c5, .slice x.A6 b.ut.length x.c6] 34 (0, 0))
/-- A local cursor. -/
structure LC (w : World) (g : Nat) (A : Option Addr) (n c : Nat) (q er u : Int) : Prop where
  k : w.heap[g]? = some (.cells #[.slice A n c, .int .i64 q, .int .i64 er, .int .i64 u] 25 (0, 0))
/-- A local header. -/
structure LH (w : World) (g : Nat) (v a1 a2 a3 a4 a5 a6 : Int) : Prop where
  k : w.heap[g]? = some (.cells #[.int .i64 v, .int .u32 a1, .int .u32 a2, .int .u32 a3, .int .u32 a4, .int .u32 a5, .int .u32 a6] 28 (0, 0))
section
variable {w w' : World} {g n c : Nat} {x : BV} {b : PB} {A : Option Addr} {q er u v a1 a2 a3 a4 a5 a6 : Int}
theorem LB.below (h : LB w g x b) (hb : Below w.heap.size w w') : LB w' g x b := ⟨blk_below h.k hb⟩
theorem LC.below (h : LC w g A n c q er u) (hb : Below w.heap.size w w') : LC w' g A n c q er u := ⟨blk_below h.k hb⟩
theorem LH.below (h : LH w g v a1 a2 a3 a4 a5 a6) (hb : Below w.heap.size w w') : LH w' g v a1 a2 a3 a4 a5 a6 := ⟨blk_below h.k hb⟩
theorem LB.drew (h : LB w g x b) : LB w.drew g x b := ⟨h.k⟩
theorem LC.drew (h : LC w g A n c q er u) : LC w.drew g A n c q er u := ⟨h.k⟩
theorem LH.drew (h : LH w g v a1 a2 a3 a4 a5 a6) : LH w.drew g v a1 a2 a3 a4 a5 a6 := ⟨h.k⟩
theorem LB.drewN (h : LB w g x b) (k : Nat) : LB (w.drewN k) g x b := ⟨h.k⟩
theorem LC.drewN (h : LC w g A n c q er u) (k : Nat) : LC (w.drewN k) g A n c q er u := ⟨h.k⟩
theorem LH.drewN (h : LH w g v a1 a2 a3 a4 a5 a6) (k : Nat) : LH (w.drewN k) g v a1 a2 a3 a4 a5 a6 := ⟨h.k⟩
theorem LB.lt (h : LB w g x b) : g < w.heap.size := blk_lt h.k
theorem LC.lt (h : LC w g A n c q er u) : g < w.heap.size := blk_lt h.k
theorem LH.lt (h : LH w g v a1 a2 a3 a4 a5 a6) : g < w.heap.size := blk_lt h.k
theorem LB.new (w : World) (x : BV) (b : PB) : LB (w.alloc (.cells #[.slice x.A0 b.times.length x.c0, .slice x.A1 b.index.length x.c1, .slice x.A2 b.types.length x.c2, .slice x.A3 b.chars.length x.c3, .slice x.A4 b.leaps.length x.c4, .slice x.A5 b.std.length x.c5, .slice x.A6 b.ut.length x.c6] 34)) w.heap.size x b := ⟨blk_new _ _⟩
theorem LH.new (w : World) (v a1 a2 a3 a4 a5 a6 : Int) : LH (w.alloc (.cells #[.int .i64 v, .int .u32 a1, .int .u32 a2, .int .u32 a3, .int .u32 a4, .int .u32 a5, .int .u32 a6] 28)) w.heap.size v a1 a2 a3 a4 a5 a6 := ⟨blk_new _ _⟩
theorem LC.new (w : World) (A : Option Addr) (n c : Nat) (q er u : Int) : LC (w.alloc (.cells #[.slice A n c, .int .i64 q, .int .i64 er, .int .i64 u] 25)) w.heap.size A n c q er u := ⟨blk_new _ _⟩
theorem LB.all (h : LB w g x b) : w.cell? ⟨g, 0, none⟩ = some (.slice x.A0 b.times.length x.c0) ∧ w.cell? ⟨g, 1, none⟩ = some (.slice x.A1 b.index.length x.c1) ∧ w.cell? ⟨g, 2, none⟩ = some (.slice x.A2 b.types.length x.c2) ∧ w.cell? ⟨g, 3, none⟩ = some (.slice x.A3 b.chars.length x.c3) ∧ w.cell? ⟨g, 4, none⟩ = some (.slice x.A4 b.leaps.length x.c4) ∧ w.cell? ⟨g, 5, none⟩ = some (.slice x.A5 b.std.length x.c5) ∧ w.cell? ⟨g, 6, none⟩ = some (.slice x.A6 b.ut.length x.c6) :=
  ⟨blk_cell h.k 0, blk_cell h.k 1, blk_cell h.k 2, blk_cell h.k 3, blk_cell h.k 4, blk_cell h.k 5, blk_cell h.k 6⟩
theorem LC.all (h : LC w g A n c q er u) : w.cell? ⟨g, 0, none⟩ = some (.slice A n c) ∧ w.cell? ⟨g, 1, none⟩ = some (.int .i64 q) ∧ w.cell? ⟨g, 2, none⟩ = some (.int .i64 er) ∧ w.cell? ⟨g, 3, none⟩ = some (.int .i64 u) :=
  ⟨blk_cell h.k 0, blk_cell h.k 1, blk_cell h.k 2, blk_cell h.k 3⟩
theorem LH.all (h : LH w g v a1 a2 a3 a4 a5 a6) : w.cell? ⟨g, 0, none⟩ = some (.int .i64 v) ∧ w.cell? ⟨g, 1, none⟩ = some (.int .u32 a1) ∧ w.cell? ⟨g, 2, none⟩ = some (.int .u32 a2) ∧ w.cell? ⟨g, 3, none⟩ = some (.int .u32 a3) ∧ w.cell? ⟨g, 4, none⟩ = some (.int .u32 a4) ∧ w.cell? ⟨g, 5, none⟩ = some (.int .u32 a5) ∧ w.cell? ⟨g, 6, none⟩ = some (.int .u32 a6) :=
  ⟨blk_cell h.k 0, blk_cell h.k 1, blk_cell h.k 2, blk_cell h.k 3, blk_cell h.k 4, blk_cell h.k 5, blk_cell h.k 6⟩
end
/-- A block's cells are a row that is read. -/
theorem C_of {α : Type} {d : Kd α} {w : World} {g t : Nat} {cs : Array Value} (xs : List α) (h : w.heap[g]? = some (.cells cs t (0, 0))) (hcs : ∀ (j : Nat) (p : α), xs[j]? = some p → ∃ c : List Value, c.length = d.sz ∧ d.K w p c ∧ ∀ (i : Nat) (u : Value), c[i]? = some u → cs[j * d.sz + i]? = some u) (hl : xs.length ≤ 9223372036854775807) : d.C w (some ⟨g, 0, none⟩) xs.length xs := by
  refine ⟨rfl, hl, fun _ => ⟨_, rfl, fun j p hj => ?_⟩⟩
  obtain ⟨c, h1, h2, h3⟩ := hcs j p hj
  refine ⟨c, h1, h2, fun i u hu => ?_⟩
  rw [show (⟨g, 0, none⟩ : Addr).add (j * d.sz + i) = ⟨g, j * d.sz + i, none⟩ from by unfold Addr.add; split <;> simp_all]
  rw [blk_cell h]
  exact h3 i u hu
theorem C_ints {k : IntKind} {w : World} {g t : Nat} (xs : List Int) (h : w.heap[g]? = some (.cells (xs.map (Value.int k)).toArray t (0, 0))) (hl : xs.length ≤ 9223372036854775807) : (Kd.int k).C w (some ⟨g, 0, none⟩) xs.length xs :=
  C_of xs h (fun j p hj => ⟨[.int k p], rfl, rfl, fun i u hu => by
    rcases i with _ | i
    · obtain rfl := Option.some.inj hu
      simp [show (Kd.int k).sz = 1 from rfl, hj]
    · simp at hu⟩) hl
theorem C_bools {w : World} {g t : Nat} (xs : List Bool) (h : w.heap[g]? = some (.cells (xs.map Value.bool).toArray t (0, 0))) (hl : xs.length ≤ 9223372036854775807) : Kd.bool.C w (some ⟨g, 0, none⟩) xs.length xs :=
  C_of xs h (fun j p hj => ⟨[.bool p], rfl, rfl, fun i u hu => by
    rcases i with _ | i
    · obtain rfl := Option.some.inj hu
      simp [show Kd.bool.sz = 1 from rfl, hj]
    · simp at hu⟩) hl
theorem C_types1 {w : World} {g t : Nat} (a : S55) (h : w.heap[g]? = some (.cells #[.int .i32 a.f0, .bool a.f1, .int .u8 a.f2] t (0, 0))) : k55.C w (some ⟨g, 0, none⟩) 1 [a] :=
  C_of [a] h (fun j p hj => by
    rcases j with _ | j
    · obtain rfl := Option.some.inj hj
      refine ⟨_, rfl, k55_mk _ _, fun i u hu => ?_⟩
      rw [Nat.zero_mul, Nat.zero_add, ← hu]
      rcases i with _ | _ | _ | i <;> rfl
    · simp at hj) (by simp)
theorem C_types2 {w : World} {g t : Nat} (a b : S55) (h : w.heap[g]? = some (.cells #[.int .i32 a.f0, .bool a.f1, .int .u8 a.f2, .int .i32 b.f0, .bool b.f1, .int .u8 b.f2] t (0, 0))) : k55.C w (some ⟨g, 0, none⟩) 2 [a, b] :=
  C_of [a, b] h (fun j p hj => by
    rcases j with _ | _ | j
    · obtain rfl := Option.some.inj hj
      refine ⟨_, rfl, k55_mk _ _, fun i u hu => ?_⟩
      rw [Nat.zero_mul, Nat.zero_add]
      rcases i with _ | _ | _ | i
      · exact hu
      · exact hu
      · exact hu
      · simp at hu
    · obtain rfl := Option.some.inj hj
      refine ⟨_, rfl, k55_mk _ _, fun i u hu => ?_⟩
      rw [show (0 + 1) * k55.sz + i = 3 + i from by rw [show k55.sz = 3 from rfl]]
      rcases i with _ | _ | _ | i
      · exact hu
      · exact hu
      · exact hu
      · simp at hu
    · simp at hj) (by simp)
theorem blk_new1 (w : World) (o o' : Obj) : ((w.alloc o).alloc o').heap[w.heap.size + 1]? = some o' := by
  have h := blk_new (w.alloc o) o'
  rwa [World.size_alloc] at h
theorem blk_newS {w : World} {o : Obj} {n : Nat} (h : w.heap.size = n) : (w.alloc o).heap[n]? = some o := by
  subst h
  exact blk_new w o
theorem blk_farN {w : World} {g g' j : Nat} {o : Obj} (h : w.heap[g]? = some o) (hne : g ≠ g') (u : Value) : (w.setCell ⟨g', j, none⟩ u).heap[g]? = some o := (Below.heap_setCell w ⟨g', j, none⟩ u g hne).trans h
theorem fin6 {w : World} {g : Nat} {t : TypeId} (h : w.heap[g]? = some (.cells #[.slice none 0 0, .slice none 0 0, .slice none 0 0, .slice none 0 0, .slice none 0 0, .slice none 0 0, .slice none 0 0] t (0, 0))) (v0 v1 v2 v3 v4 v5 v6 : Value) :
    (((((((w.setCell ⟨g, 0, none⟩ v0).setCell ⟨g, 1, none⟩ v1).setCell ⟨g, 2, none⟩ v2).setCell ⟨g, 3, none⟩ v3).setCell ⟨g, 4, none⟩ v4).setCell ⟨g, 5, none⟩ v5).setCell ⟨g, 6, none⟩ v6).heap[g]? = some (.cells #[v0, v1, v2, v3, v4, v5, v6] t (0, 0)) :=
  blk_put (blk_put (blk_put (blk_put (blk_put (blk_put (blk_put h 0 v0 rfl) 1 v1 rfl) 2 v2 rfl) 3 v3 rfl) 4 v4 rfl) 5 v5 rfl) 6 v6 rfl
theorem fin7 {w : World} {g : Nat} {t : TypeId} (h : w.heap[g]? = some (.cells #[.slice none 0 0, .int .i64 0, .int .i64 0, .int .i64 0] t (0, 0))) (v0 v1 v2 v3 : Value) :
    ((((w.setCell ⟨g, 0, none⟩ v0).setCell ⟨g, 1, none⟩ v1).setCell ⟨g, 2, none⟩ v2).setCell ⟨g, 3, none⟩ v3).heap[g]? = some (.cells #[v0, v1, v2, v3] t (0, 0)) :=
  blk_put (blk_put (blk_put (blk_put h 0 v0 rfl) 1 v1 rfl) 2 v2 rfl) 3 v3 rfl
/-- A block that is new, or of the type t. -/
def Oth (w : World) (g t : Nat) : Prop := w.heap.size ≤ g ∨ ∃ cs, w.heap[g]? = some (.cells cs t (0, 0))
theorem R_oth {α : Type} {d : Kd α} {e base : Nat} {W W' : World} {v : Value} {xs : List α} {g8 g9 t8 t9 : Nat} (h : d.R e W base (fun _ => True) v xs) (h8 : Oth W g8 t8) (h9 : Oth W g9 t9)
    (ht8 : ∀ q, q ∈ e :: d.E → q ≠ t8) (ht9 : ∀ q, q ∈ e :: d.E → q ≠ t9) (hk : ∀ k, k < W.heap.size → k ≠ g8 → k ≠ g9 → W'.heap[k]? = W.heap[k]?) : d.R e W' base (fun _ => True) v xs := by
  have b8 : d.R e W base (fun k => k < W.heap.size ∧ k ≠ g8) v xs := by
    rcases h8 with h8 | ⟨cs, h8⟩
    · exact Kd.R_mono (Kd.R_bound h) (fun k hk => ⟨hk.2.2.1, by have := hk.2.2.1; omega⟩)
    · exact Kd.R_mono (Kd.R_bound (Kd.R_types h h8 ht8)) (fun k hk => ⟨hk.2.2.1, hk.1.2⟩)
  have b9 : d.R e W base (fun k => (k < W.heap.size ∧ k ≠ g8) ∧ k ≠ g9) v xs := by
    rcases h9 with h9 | ⟨cs, h9⟩
    · exact Kd.R_mono b8 (fun k hk => ⟨hk, by have := hk.1; omega⟩)
    · exact Kd.R_types b8 h9 ht9
  exact Kd.R_mono (Kd.R_step b9 (fun k hk2 _ => hk k hk2.1.1 hk2.1.2 hk2.2)) (fun _ _ => trivial)
theorem C_oth {W W' : World} {A : Option Addr} {n : Nat} {xs : List Int} {g8 g9 : Nat} (h : (Kd.int .u8).C W A n xs) (hne : ∀ ad, A = some ad → ad.block < W.heap.size ∧ ad.block ≠ g8 ∧ ad.block ≠ g9) (hk : ∀ k, k < W.heap.size → k ≠ g8 → k ≠ g9 → W'.heap[k]? = W.heap[k]?) : (Kd.int .u8).C W' A n xs := by
  refine ⟨h.1, h.2.1, fun hn => ?_⟩
  obtain ⟨ad, e, hc⟩ := h.2.2 hn
  obtain ⟨e7, e8, e9⟩ := hne ad e
  refine ⟨ad, e, fun j p hj => ?_⟩
  obtain ⟨cs, hl, hK, hcs⟩ := hc j p hj
  refine ⟨cs, hl, hK, fun i u hu => ?_⟩
  rw [World.cell?_of_block (w := W) (hk _ (by rw [add_blk]; exact e7) (by rw [add_blk]; exact e8) (by rw [add_blk]; exact e9))]
  exact hcs i u hu
theorem part_oth {W : World} {b : Nat} {D A : Option Addr} {cd : Nat} {d : List Int} {lo : Int} {g t : Nat} (h : Kd.R (Kd.int .u8) 5 W b (fun _ => True) (.slice D d.length cd) d) (hp : PartOf D lo A) (hb : Oth W g t) (ht : 5 ≠ t) : ∀ ad, A = some ad → ad.block < W.heap.size ∧ ad.block ≠ g := by
  intro ad e
  have key : ∀ x, D = some x → x.block < W.heap.size ∧ x.block ≠ g := by
    intro x hx
    subst hx
    have hb1 := (Kd.R_bound h).1 x.block rfl
    obtain ⟨-, -, h3, -⟩ := hb1
    refine ⟨h3, ?_⟩
    rcases hb with hb | ⟨cs, hb⟩
    · omega
    · exact fun hg => (Kd.R_ne h hb ht) (congrArg some hg.symm)
  rcases hp with h1 | h1
  · exact key ad (h1.symm.trans e)
  · rcases D with _ | x
    · rw [e] at h1
      cases h1
    · rw [e] at h1
      cases h1
      rw [add_blk]
      exact key x rfl
theorem BlkR.lower {base base' : Nat} {w : World} {x : BV} {b : PB} (h : BlkR base w x b) (hb : base' ≤ base) : BlkR base' w x b := by
  obtain ⟨r0, r1, r2, r3, r4, r5, r6, n1, n3, D, cd, d, lo1, lo3, h1, h2, h3⟩ := h
  exact ⟨Kd.R_lower r0 hb, r1, Kd.R_lower r2 hb, r3, Kd.R_lower r4 hb, Kd.R_lower r5 hb, Kd.R_lower r6 hb, n1, n3, D, cd, d, lo1, lo3, Kd.R_lower h1 hb, h2, h3⟩
/-- Two other blocks are new or have been written: the block's rows are as they were. -/
theorem BlkR.oth {base g6 g7 : Nat} {W E : World} {x : BV} {b : PB} (h : BlkR base W x b) (h6 : Oth W g6 34) (h7 : Oth W g7 25) (hk : ∀ k, k < W.heap.size → k ≠ g6 → k ≠ g7 → E.heap[k]? = W.heap[k]?) : BlkR base E x b := by
  obtain ⟨r0, r1, r2, r3, r4, r5, r6, n1, n3, D, cd, d, lo1, lo3, h1, h2, h3⟩ := h
  refine ⟨R_oth r0 h6 h7 (by decide) (by decide) hk, C_oth r1 (fun ad e => ?_) hk, R_oth r2 h6 h7 (by decide) (by decide) hk, C_oth r3 (fun ad e => ?_) hk, R_oth r4 h6 h7 (by decide) (by decide) hk, R_oth r5 h6 h7 (by decide) (by decide) hk, R_oth r6 h6 h7 (by decide) (by decide) hk, n1, n3, D, cd, d, lo1, lo3, R_oth h1 h6 h7 (by decide) (by decide) hk, h2, h3⟩
  · exact ⟨(part_oth h1 h2 h6 (by decide) ad e).1, (part_oth h1 h2 h6 (by decide) ad e).2, (part_oth h1 h2 h7 (by decide) ad e).2⟩
  · exact ⟨(part_oth h1 h3 h6 (by decide) ad e).1, (part_oth h1 h3 h6 (by decide) ad e).2, (part_oth h1 h3 h7 (by decide) ad e).2⟩
/-- The end of a way through a region that decodes a block into two locals. -/
theorem rg_end {W0 wd E : World} {y : BV} {b : PB} {base g6 g7 n c : Nat} {A : Option Addr} {q er u : Int} (hY : BlkR base wd y b) (hbase : W0.heap.size ≤ base) (h6 : Oth wd g6 34) (h7 : Oth wd g7 25) (hk : ∀ k, k < wd.heap.size → k ≠ g6 → k ≠ g7 → E.heap[k]? = wd.heap[k]?) (hB : Below W0.heap.size W0 E)
    (k6 : E.heap[g6]? = some (.cells #[.slice y.A0 b.times.length y.c0, .slice y.A1 b.index.length y.c1, .slice y.A2 b.types.length y.c2, .slice y.A3 b.chars.length y.c3, .slice y.A4 b.leaps.length y.c4, .slice y.A5 b.std.length y.c5, .slice y.A6 b.ut.length y.c6] 34 (0, 0))) (k7 : E.heap[g7]? = some (.cells #[.slice A n c, .int .i64 q, .int .i64 er, .int .i64 u] 25 (0, 0))) : Aside0 (Below W0.heap.size W0 E) ∧ Aside0 (BlkR W0.heap.size E y b ∧ LB E g6 y b ∧ LC E g7 A n c q er u) :=
  ⟨⟨hB⟩, ⟨(hY.oth h6 h7 hk).lower hbase, ⟨k6⟩, ⟨k7⟩⟩⟩
end Go.Proofs.YtkdhdhkfkgjcnaaDoor.PBlockRoundTrip
end
