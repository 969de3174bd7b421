/- The texts Q R S T U V W X Y Z Z2. -/
import Derived.Test.YtkdhdhkfkgjcnaaDoorKcBlockRoundTrip

section
namespace Go.Proofs.YtkdhdhkfkgjcnaaDoor.PBlockRoundTrip
open Go.RowKit Go.Proofs.YtkdhdhkfkgjcnaaDoorW.PrintWords Go.Proofs.YtkdhdhkfkgjcnaaDoorW.PrintMore
set_option linter.unusedSimpArgs false
set_option linter.unusedVariables false

/-- The i-th byte of a field of n bytes. -/
def beB (v : Int) (n : Nat) (i : Nat) : Int := v / 2 ^ (8 * (n - 1 - i)) % 256
/-- The bytes of a field. -/
def beL (v : Int) (n : Nat) : List Int := (List.range n).map (beB v n)

theorem run_mk0 (N : Nat) (hN : N ≤ 281474976710656) : ∃ M : Array Value, M.size = N ∧ ∀ W : World, (Instr.makeSlice 22 (.int .i64 0) (.int .i64 N)).run Tryd.prog W = .ok (.slice (some ⟨W.heap.size, 0, none⟩) 0 N) (W.alloc (.cells M 5)) := by
  obtain ⟨i0, hi0, hz0, hz1, hz2⟩ := info_parts info5
  refine ⟨madeCells (Value.int .u8 0).cells (N * i0.size), by rw [hz1]; simp [madeCells, Value.cells], fun W => ?_⟩
  have h := run_make (P := Tryd.prog) W 22 5 i0 (.int .u8 0) Tryd.underlying22 hi0 hz0 .i64 .i64 0 (N : Int) (by omega) (by omega) (by rw [hz2]; omega) (by omega)
  simpa using h

set_option maxRecDepth 50000 in
set_option maxHeartbeats 2000000 in
theorem App_c (A : Option Addr) (c : Nat) (l : List Int) (n : Nat) (v : Int) (w : World) (hA : Kd.C (Kd.int .u8) w A l.length l) (hl : l.length ≤ 1099511627776) (hn : n ≤ 8) (hv : 0 ≤ v) (hv' : v < 18446744073709551616) :
    Calls Tryd.prog 72 #[.slice A l.length c, .int .i64 n, .int .u64 v] w fun e w' => ∃ r, e = .returned r ∧ Kd.R (Kd.int .u8) 5 w' w.heap.size (fun _ => True) r (l ++ beL v n) ∧ Below w.heap.size w w' := by
  obtain ⟨i0, hi0, hz0, hz1, hz2⟩ := info_parts info5
  obtain ⟨M, hM, hmk⟩ := run_mk0 (l.length + n) (by omega)
  rw [Int.natCast_add] at hmk
  have HM := Aside0.mk (show (w.alloc (.cells M 5)).ownsRow w.heap.size 5 1 (.slice (some ⟨w.heap.size, 0, none⟩) 0 (l.length + n)) 0 [] from ⟨rfl, .inr ⟨w.heap.size, _, M, rfl, Nat.le_refl _, blk_new _ _, Nat.zero_le _, by simp only [maxLen]; omega, by omega, rfl⟩⟩)
  have HR := Aside0.mk ((reads_of_int hA).alloc (Nat.le_refl _) (.cells M 5))
  clear hA hM
  go_enter Tryd.func72, Tryd.ntmps72
  go_wp2_with (at_builtin; refine wpList_append_any _ rfl (.tmp 13) (.tmp 14) 22 (by rfl) w.heap.size 5 i0 _ 1 1 Tryd.underlying22 hi0 hz0 hz1 hz2 rfl (by omega) (.slice (some ⟨w.heap.size, 0, none⟩) 0 (l.length + n)) 0 [] (by rfl) (by exact HM.out) w.heap.size A _ _ _ (by rfl) (by exact HR.out) (nums_one _) (by simp only [maxLen]; omega) (by omega) (by simp) ?_; intro v2 w2 hown2 hg2 hat2)
  have r1 : (Kd.int .u8).R 5 w2 w.heap.size (fun _ => True) v2 l := R_of_nums (by simpa using hown2) (by simp <;> omega)
  have hb2 : Below w.heap.size w w2 := (below_alloc (Below.refl _ w) _).grown hg2 (by simp <;> omega) (by simp [Value.ownBlock] <;> omega)
  have HR1 := Aside0.mk r1
  have HB1 := Aside0.mk hb2
  clear r1 hb2 hown2 hg2 hat2 HM HR hmk
  go_loopw [7, 17] (fun u i wr => ∃ k : Nat, k ≤ n ∧ i = .int .i64 k ∧ Aside0 (Kd.R (Kd.int .u8) 5 wr w.heap.size (fun _ => True) u (l ++ (List.range k).map (beB v n))) ∧ Aside0 (Below w.heap.size w wr)) (fun _ i _ => n - (intOf i).toNat)
  case atStart => exact ⟨0, by omega, rfl, ⟨by simpa using HR1.out⟩, HB1⟩
  case round =>
    obtain ⟨k, hk, rfl, HR, HB⟩ := hrel
    by_cases hlt : k < n
    · go_wp2_with (at_builtin; refine Kd.R_append (Kd.int .u8) (w0 := w) w.heap.size rfl (.tmp 20) (.tmp 30) 22 5 (.int .u8 0) 1 rfl Tryd.underlying22 info5 rfl (by decide) (by omega) u7 (l ++ (List.range k).map (beB v n)) (v / 2 ^ (8 * (n - 1 - k)) % 256) [.int .u8 (v / 2 ^ (8 * (n - 1 - k)) % 256)] (fun _ => True) (fun _ => False) rfl rfl ?aP (fun _ hk => hk.elim) ?aF ?aO ?aB ?aS ?aL ?_; (case aP => exact rfl); (case aF => exact (fun _ _ => trivial)); (case aO => exact HR.out); (case aB => exact HB.out); (case aS => exact HB.out.size); (case aL => simp; omega); intro v1 w1 hr1 hb1 hg1 hat1)
      go_roundw
      case rel => exact ⟨k + 1, by omega, by go_num, ⟨by rw [List.range_succ, List.map_append, ← List.append_assoc]; exact hr1⟩, ⟨hb1⟩⟩
      case measure => simp [intOf]; omega
    · obtain rfl : k = n := by omega
      go_wp2
      go_ret
      exact ⟨_, rfl, by unfold beL; exact HR.out, HB.out⟩
end Go.Proofs.YtkdhdhkfkgjcnaaDoor.PBlockRoundTrip
end

section
namespace Go.Proofs.YtkdhdhkfkgjcnaaDoor.PBlockRoundTrip
open Go.RowKit Go.Proofs.YtkdhdhkfkgjcnaaDoorW.PrintWords Go.Proofs.YtkdhdhkfkgjcnaaDoorW.PrintMore
set_option linter.unusedSimpArgs false
set_option linter.unusedVariables false

/-- An int64 as uint64. -/
def u64of (t : Int) : Int := IntKind.u64.wrap t
theorem u64of_bd (t : Int) : 0 ≤ u64of t ∧ u64of t < 18446744073709551616 := by
  unfold u64of
  rw [IntKind.wrap_u64]
  omega
theorem beL_len (v : Int) (n : Nat) : (beL v n).length = n := by simp [beL]
/-- The bytes of the times. -/
def encT (l : List Int) (s : Nat) : List Int := l.flatMap fun t => beL (u64of t) s
theorem encT_len (l : List Int) (s : Nat) : (encT l s).length = l.length * s := by
  induction l with
  | nil => simp [encT]
  | cons x l ih => simp only [encT, List.flatMap_cons, List.length_append, beL_len, List.length_cons] at ih ⊢; rw [ih, Nat.succ_mul]; omega
theorem encT_succ (l : List Int) (s k : Nat) (h : k < l.length) : encT (l.take (k + 1)) s = encT (l.take k) s ++ beL (u64of (rd l k)) s := by
  rw [take_rd l k h]
  simp [encT]

section
variable {P : Program}
/-- append(v, ys...) on rows of bytes. -/
theorem wpList_append_R {ops : Array Oper} {rest : List Oper} {o : Oper} {a : Act} {Q : Exit → Act → World → Prop} (w : World) (hgd : o.guard = none) (s x : Operand) (t : TypeId)
    (ho : o.op = .call { callee := .builtin .append, args := #[s, x], argTypes := #[t, t] })
    (base : Nat) (e : TypeId) (ht : P.underlying t = some (.slice e)) (hinfo : (P.info? e).map (fun i => (i.zero, i.size, i.bytes)) = some (some (.int .u8 0), 1, 1))
    (v : Value) (xs ys : List Int) (hs : a.eval s = v) (HO : (Kd.int .u8).R e w base (fun _ => True) v xs)
    (A : Option Addr) (m c : Nat) (hx : a.eval x = .slice A m c) (HC : (Kd.int .u8).C w A m ys) (hl : xs.length + m ≤ 140737488355328) (hbase : base ≤ w.heap.size)
    (h : ∀ v' w', (Kd.int .u8).R e w' base (fun _ => True) v' (xs ++ ys) → w.grownBy w' v.ownBlock → (v'.ownBlock = v.ownBlock ∨ v'.ownBlock = some w.heap.size) → wpList P ops Q rest (a.put o.dst v') w') : wpList P ops Q (o :: rest) a w := by
  obtain ⟨i0, hi, hzz⟩ := Option.map_eq_some_iff.1 hinfo
  simp only [Prod.mk.injEq] at hzz
  obtain ⟨hz0, hz1, hz2⟩ := hzz
  have hm : ys.length = m := Kd.C_len HC
  have ho2 : w.ownsRow base e 1 v xs.length (nums .u8 xs) := Kd.own_of_R HO
  refine wpList_append_any w hgd s x t ho base e i0 _ 1 1 ht hi hz0 hz1 hz2 rfl (by omega) v xs.length (nums .u8 xs) hs ho2 w.heap.size A m c (nums .u8 ys) hx (reads_of_int HC) (nums_one _) (by simp only [maxLen]; omega) (by omega) hbase ?_
  intro v' w' hown hg hat
  refine h v' w' (R_of_nums (n := xs.length + m) ?_ (by simp [hm])) hg hat
  rw [show nums .u8 (xs ++ ys) = nums .u8 xs ++ nums .u8 ys from List.map_append]
  exact hown
end
theorem App0_c (n : Nat) (v : Int) (w : World) (hn : n ≤ 8) (hv : 0 ≤ v) (hv' : v < 18446744073709551616) :
    Calls Tryd.prog 72 #[.slice none 0 0, .int .i64 n, .int .u64 v] w fun e w' => ∃ r, e = .returned r ∧ Kd.R (Kd.int .u8) 5 w' w.heap.size (fun _ => True) r (beL v n) ∧ Below w.heap.size w w' :=
  App_c none 0 [] n v w (Kd.C_nil _ _) (by simp) hn hv hv'

set_option maxRecDepth 50000 in
set_option maxHeartbeats 2000000 in
theorem TEncode_c (A : Option Addr) (c : Nat) (l : List Int) (s : Nat) (w : World) (hA : Kd.C (Kd.int .i64) w A l.length l) (hl : l.length ≤ 1099511627776) (hs : s ≤ 8) :
    Calls Tryd.prog 54 #[.slice A l.length c, .int .i64 s] w fun e w' => ∃ r, e = .returned r ∧ Kd.R (Kd.int .u8) 5 w' w.heap.size (fun _ => True) r (encT l s) ∧ Below w.heap.size w w' := by
  have hls : l.length * s ≤ 8796093022208 := Nat.le_trans (Nat.mul_le_mul hl hs) (by omega)
  obtain ⟨q, hq⟩ : ∃ q, l.length * s = q := ⟨_, rfl⟩
  have hq' : (l.length : Int) * s = q := by rw [← hq]; push_cast; rfl
  rw [hq] at hls
  obtain ⟨M, hM, hmk⟩ := run_mk0 q (by omega)
  have HM := Aside0.mk (show (w.alloc (.cells M 5)).ownsRow w.heap.size 5 1 (.slice (some ⟨w.heap.size, 0, none⟩) 0 q) 0 [] from ⟨rfl, .inr ⟨w.heap.size, _, M, rfl, Nat.le_refl _, blk_new _ _, Nat.zero_le _, by simp only [maxLen]; omega, by omega, rfl⟩⟩)
  have HR0 : Aside0 (Kd.R (Kd.int .u8) 5 (w.alloc (.cells M 5)) w.heap.size (fun _ => True) (.slice (some ⟨w.heap.size, 0, none⟩) 0 q) []) := ⟨R_of_nums (k := .u8) (xs := []) HM.out rfl⟩
  have HA := Aside0.mk hA
  have HQ := Aside0.mk hq
  clear hA hM HM hq
  go_enter Tryd.func54, Tryd.ntmps54
  go_wp2
  go_loopw [5, 15] (fun u i wr => ∃ k : Nat, k ≤ l.length ∧ i = .int .i64 k ∧ Aside0 (Kd.R (Kd.int .u8) 5 wr w.heap.size (fun _ => True) u (encT (l.take k) s)) ∧ Aside0 (Below w.heap.size w wr)) (fun _ i _ => l.length - (intOf i).toNat)
  case atStart => exact ⟨0, by omega, rfl, ⟨by simpa [encT] using HR0.out⟩, ⟨below_alloc (Below.refl _ w) _⟩⟩
  case round =>
    obtain ⟨k, hk, rfl, HR, HB⟩ := hrel
    by_cases hlt : k < l.length
    · obtain ⟨ad, rfl, hc⟩ := Kd.at_int (Kd.C_below HA.out HB.out) (k : Int) (by omega) (by omega)
      rw [Int.toNat_natCast] at hc
      have HAPP : Aside0 (∀ W, Calls Tryd.prog 72 #[.slice none 0 0, .int .i64 s, .int .u64 (IntKind.u64.wrap (rd l k))] W fun e w' => ∃ r, e = .returned r ∧ Kd.R (Kd.int .u8) 5 w' W.heap.size (fun _ => True) r (beL (u64of (rd l k)) s) ∧ Below W.heap.size W w') := ⟨fun W => App0_c s (u64of (rd l k)) W hs (u64of_bd _).1 (u64of_bd _).2⟩
      have HL : Aside0 ((encT (l.take k) s).length + s ≤ 140737488355328) := ⟨by rw [encT_len, List.length_take, Nat.min_eq_left hk]; have : k * s ≤ q := by { rw [← HQ.out]; exact Nat.mul_le_mul_right _ hk }; omega⟩
      go_wp2_with (first | (go_at_call 72; (with_reducible refine (HAPP.out _).mono ?_); rintro e w1 ⟨b, rfl, hrb, hb⟩; obtain ⟨Ab, cb, rfl, hlb, hcb⟩ := Kd.R_reads hrb; rw [beL_len] at hcb; rw [beL_len]; have HCb := Aside0.mk hcb; have HR1 := Aside0.mk (Kd.R_below HR.out hb); have HBb := Aside0.mk (HB.out.trans (hb.mono HB.out.size)); clear hrb hlb hcb hb) | (at_builtin; refine wpList_append_R _ rfl (.tmp 19) (.tmp 23) 22 rfl w.heap.size 5 Tryd.underlying22 info5 u5 (encT (l.take k) s) (beL (u64of (rd l k)) s) (by rfl) HR1.out Ab s cb (by rfl) HCb.out HL.out HBb.out.size ?_; intro v2 w2 hr2 hg2 hat2))
      go_roundw
      case rel => exact ⟨k + 1, by omega, by go_num, ⟨by rw [encT_succ l s k hlt]; exact hr2⟩, ⟨HBb.out.grown hg2 HBb.out.size (Kd.R_base HR1.out)⟩⟩
      case measure => simp [intOf]; omega
    · obtain rfl : k = l.length := by omega
      go_wp2
      go_ret
      exact ⟨_, rfl, by have := HR.out; rwa [List.take_length] at this, HB.out⟩
end Go.Proofs.YtkdhdhkfkgjcnaaDoor.PBlockRoundTrip
end

section
namespace Go.Proofs.YtkdhdhkfkgjcnaaDoor.PBlockRoundTrip
open Go.RowKit Go.Proofs.YtkdhdhkfkgjcnaaDoorW.PrintWords Go.Proofs.YtkdhdhkfkgjcnaaDoorW.PrintMore
set_option linter.unusedSimpArgs false
set_option linter.unusedVariables false

/-- The bytes of a leap second record. -/
def lpB (s : Nat) (x : S79) : List Int := beL (u64of x.f0) s ++ beL (u64of (wrap64 x.f1)) 4
theorem lpB_len (s : Nat) (x : S79) : (lpB s x).length = s + 4 := by simp [lpB, beL_len]
/-- The bytes of the leap second records. -/
def encL (l : List S79) (s : Nat) : List Int := l.flatMap (lpB s)
theorem encL_len (l : List S79) (s : Nat) : (encL l s).length = l.length * (s + 4) := by
  induction l with
  | nil => simp [encL]
  | cons x l ih => simp only [encL, List.flatMap_cons, List.length_append, lpB_len, List.length_cons] at ih ⊢; rw [ih, Nat.succ_mul]; omega
theorem encL_succ (l : List S79) (s k : Nat) (h : k < l.length) : encL (l.take (k + 1)) s = encL (l.take k) s ++ lpB s (rd_T79 l k) := by
  have e : rd_T79 l k = l[k] := by simp [rd_T79, List.getD_eq_getElem?_getD, List.getElem?_eq_getElem h]
  rw [List.take_succ_eq_append_getElem h, encL, List.flatMap_append, e, List.flatMap_singleton]
  rfl
/-- bigendian.Append on a row of one's own. -/
theorem AppR_c {W0 : World} {b : Nat} {P : Nat → Prop} {Au : Option Addr} {cu : Nat} {xs : List Int} (h : Kd.R (Kd.int .u8) 5 W0 b P (.slice Au xs.length cu) xs) (n : Nat) (v : Int) (w : World) (hb : Below W0.heap.size W0 w) (hl : xs.length ≤ 1099511627776) (hn : n ≤ 8) (hv : 0 ≤ v) (hv' : v < 18446744073709551616) :
    Calls Tryd.prog 72 #[.slice Au xs.length cu, .int .i64 n, .int .u64 v] w fun e w' => ∃ A c, e = .returned (.slice A (xs ++ beL v n).length c) ∧ Kd.R (Kd.int .u8) 5 w' w.heap.size (fun _ => True) (.slice A (xs ++ beL v n).length c) (xs ++ beL v n) ∧ Below w.heap.size w w' := by
  obtain ⟨_, _, hC⟩ := Kd.R_reads' h
  refine (App_c Au cu xs n v w (Kd.C_below hC hb) hl hn hv hv').mono ?_
  rintro e w' ⟨r, rfl, h1, h2⟩
  obtain ⟨A, c, rfl⟩ := Kd.R_slice h1
  exact ⟨A, c, rfl, h1, h2⟩

/-- The same, in the walk's own form: a field of an int64. -/
theorem AppW_c {W0 : World} {b : Nat} {P : Nat → Prop} {Au : Option Addr} {cu : Nat} {xs : List Int} (h : Kd.R (Kd.int .u8) 5 W0 b P (.slice Au xs.length cu) xs) (t : Int) (w : World) (hb : Below W0.heap.size W0 w) (hl : xs.length ≤ 1099511627776) :
    Calls Tryd.prog 72 #[.slice Au xs.length cu, .int .i64 4, .int .u64 (IntKind.u64.wrap t)] w fun e w' => ∃ A c, e = .returned (.slice A (xs ++ beL (u64of t) 4).length c) ∧ Kd.R (Kd.int .u8) 5 w' w.heap.size (fun _ => True) (.slice A (xs ++ beL (u64of t) 4).length c) (xs ++ beL (u64of t) 4) ∧ Below w.heap.size w w' :=
  AppR_c h 4 (u64of t) w hb hl (by omega) (u64of_bd _).1 (u64of_bd _).2

set_option maxRecDepth 50000 in
set_option maxHeartbeats 2000000 in
theorem LEncode_c (A : Option Addr) (c : Nat) (l : List S79) (s : Nat) (w : World) (hA : Kd.C k79 w A l.length l) (hl : l.length ≤ 34359738368) (hs : s ≤ 8) :
    Calls Tryd.prog 56 #[.slice A l.length c, .int .i64 s] w fun e w' => ∃ r, e = .returned r ∧ Kd.R (Kd.int .u8) 5 w' w.heap.size (fun _ => True) r (encL l s) ∧ Below w.heap.size w w' := by
  have HA := Aside0.mk hA
  clear hA
  go_enter Tryd.func56, Tryd.ntmps56
  go_wp2
  go_loopw [5, 10] (fun u i wr => ∃ k : Nat, k ≤ l.length ∧ i = .int .i64 k ∧ Aside0 (Kd.R (Kd.int .u8) 5 wr w.heap.size (fun _ => True) u (encL (l.take k) s)) ∧ Aside0 (Below w.heap.size w wr)) (fun _ i _ => l.length - (intOf i).toNat)
  case atStart => exact ⟨0, by omega, rfl, ⟨by simpa [encL] using Kd.R_nil _ _ _ _ _⟩, ⟨Below.refl _ w⟩⟩
  case round =>
    obtain ⟨k, hk, rfl, HR, HB⟩ := hrel
    by_cases hlt : k < l.length
    · obtain ⟨ad, hA0, hc0, hc1⟩ := at_T79 (Kd.C_below HA.out HB.out) (k : Int) (by omega) (by omega)
      subst hA0
      rw [Int.toNat_natCast] at hc0 hc1
      obtain ⟨Au, cu, rfl⟩ := Kd.R_slice HR.out
      have HL : Aside0 ((encL (l.take k) s).length ≤ 549755813888 - 16) := ⟨by rw [encL_len, List.length_take, Nat.min_eq_left hk]; have : k * (s + 4) ≤ (34359738368 - 1) * 12 := Nat.mul_le_mul (by omega) (by omega); omega⟩
      have HA1 : Aside0 (∀ W, Below wr.heap.size wr W → Calls Tryd.prog 72 #[.slice Au (encL (l.take k) s).length cu, .int .i64 s, .int .u64 (IntKind.u64.wrap (rd_T79 l k).f0)] W fun e w' => ∃ A c, e = .returned (.slice A (encL (l.take k) s ++ beL (u64of (rd_T79 l k).f0) s).length c) ∧ Kd.R (Kd.int .u8) 5 w' W.heap.size (fun _ => True) (.slice A (encL (l.take k) s ++ beL (u64of (rd_T79 l k).f0) s).length c) (encL (l.take k) s ++ beL (u64of (rd_T79 l k).f0) s) ∧ Below W.heap.size W w') := ⟨fun W hb => AppR_c HR.out s (u64of (rd_T79 l k).f0) W hb (by have := HL.out; omega) hs (u64of_bd _).1 (u64of_bd _).2⟩
      obtain ⟨X, hX⟩ : ∃ X, encL (l.take k) s ++ beL (u64of (rd_T79 l k).f0) s = X := ⟨_, rfl⟩
      rw [hX] at HA1
      have HXl : Aside0 (X.length ≤ 549755813888) := ⟨by rw [← hX, List.length_append, beL_len]; have := HL.out; omega⟩
      have HX := Aside0.mk hX
      clear hX
      go_wp2_with (fail)
      (with_reducible refine (HA1.out _ (below_alloc (Below.refl _ _) _)).mono ?_)
      rintro e w1 ⟨A1, c1, rfl, hr1, hb1⟩
      have hx := fun j => hb1.cell (p := ⟨wr.heap.size, j, none⟩) (by simp <;> omega)
      have hy := fun j => hb1.frozen (p := ⟨wr.heap.size, j, none⟩) (by simp <;> omega)
      have HA2 := Aside0.mk (fun W hb => AppW_c hr1 (wrap64 (rd_T79 l k).f1) W hb (by have := HXl.out; omega))
      have HB1 := Aside0.mk hb1
      clear hb1 hr1
      go_wp2_with (fail)
      (with_reducible refine (HA2.out _ (Below.refl _ _)).mono ?_)
      rintro e w2 ⟨A2, c2, rfl, hr2, hb2⟩
      have HR2 : Aside0 (Kd.R (Kd.int .u8) 5 w2 w.heap.size (fun _ => True) (.slice A2 (X ++ beL (u64of (wrap64 (rd_T79 l k).f1)) 4).length c2) (encL (l.take (k + 1)) s)) := ⟨by
        rw [encL_succ l s k hlt, lpB, ← List.append_assoc, HX.out]
        exact Kd.R_lower hr2 (Nat.le_trans HB.out.size (Nat.le_trans (Nat.le_succ _) (by have := HB1.out.size; simpa using this)))⟩
      have HB2 : Aside0 (Below w.heap.size w w2) := ⟨by
        have h1 := HB1.out.size
        have h0 := HB.out.size
        exact (below_alloc HB.out _).trans ((HB1.out.mono (by simp; omega)).trans (hb2.mono (by simp at h1; omega)))⟩
      clear hr2 hb2 hx hy
      go_wp2_with (fail)
      go_roundw
      case rel => exact ⟨k + 1, by omega, by go_num, ⟨by have := HR2.out; rwa [List.length_append] at this⟩, HB2⟩
      case measure => simp [intOf]; omega
    · obtain rfl : k = l.length := by omega
      go_wp2
      go_ret
      exact ⟨_, rfl, by have := HR.out; rwa [List.take_length] at this, HB.out⟩
end Go.Proofs.YtkdhdhkfkgjcnaaDoor.PBlockRoundTrip
end

section
namespace Go.Proofs.YtkdhdhkfkgjcnaaDoor.PBlockRoundTrip
open Go.RowKit Go.Proofs.YtkdhdhkfkgjcnaaDoorW.PrintWords Go.Proofs.YtkdhdhkfkgjcnaaDoorW.PrintMore
set_option linter.unusedSimpArgs false
set_option linter.unusedVariables false

/-- The bytes of a local time type. -/
def tyB (x : S55) : List Int := beL (u64of (wrap64 x.f0)) 4 ++ [if x.f1 then 1 else 0, x.f2]
theorem tyB_len (x : S55) : (tyB x).length = 6 := by simp [tyB, beL_len]
/-- The bytes of the local time types. -/
def encY (l : List S55) : List Int := l.flatMap tyB
theorem encY_len (l : List S55) : (encY l).length = l.length * 6 := by
  induction l with
  | nil => simp [encY]
  | cons x l ih => simp only [encY, List.flatMap_cons, List.length_append, tyB_len, List.length_cons] at ih ⊢; rw [ih, Nat.succ_mul]; omega
theorem encY_succ (l : List S55) (k : Nat) (h : k < l.length) : encY (l.take (k + 1)) = encY (l.take k) ++ tyB (rd_T55 l k) := by
  have e : rd_T55 l k = l[k] := by simp [rd_T55, List.getD_eq_getElem?_getD, List.getElem?_eq_getElem h]
  rw [List.take_succ_eq_append_getElem h, encY, List.flatMap_append, e, List.flatMap_singleton]
  rfl

theorem C_two (w : World) (a b : Int) (t : TypeId) : (Kd.int .u8).C (w.alloc (.cells #[.int .u8 a, .int .u8 b] t)) (some ⟨w.heap.size, 0, none⟩) 2 [a, b] :=
  C_blk [a, b] (blk_new w (.cells #[.int .u8 a, .int .u8 b] t)) (by
    intro j x h
    rcases j with _ | _ | j
    · simp at h; subst h; rfl
    · simp at h; subst h; rfl
    · simp at h) (by simp)

set_option maxRecDepth 50000 in
set_option maxHeartbeats 2000000 in
theorem YEncode_c (A : Option Addr) (c : Nat) (l : List S55) (w : World) (hA : Kd.C k55 w A l.length l) (hl : l.length ≤ 34359738368) :
    Calls Tryd.prog 55 #[.slice A l.length c] w fun e w' => ∃ r, e = .returned r ∧ Kd.R (Kd.int .u8) 5 w' w.heap.size (fun _ => True) r (encY l) ∧ Below w.heap.size w w' := by
  obtain ⟨M, hM, hmk⟩ := run_mk0 (6 * l.length) (by omega)
  rw [show ((6 * l.length : Nat) : Int) = 6 * (l.length : Int) from by omega] at hmk
  have HM : Aside0 ((w.alloc (.cells M 5)).ownsRow w.heap.size 5 1 (.slice (some ⟨w.heap.size, 0, none⟩) 0 (6 * l.length)) 0 []) := ⟨rfl, .inr ⟨w.heap.size, _, M, rfl, Nat.le_refl _, blk_new _ _, Nat.zero_le _, by simp only [maxLen]; omega, by omega, rfl⟩⟩
  have HR0 : Aside0 (Kd.R (Kd.int .u8) 5 (w.alloc (.cells M 5)) w.heap.size (fun _ => True) (.slice (some ⟨w.heap.size, 0, none⟩) 0 (6 * l.length)) []) := ⟨R_of_nums (k := .u8) (xs := []) HM.out rfl⟩
  have HA := Aside0.mk hA
  clear hA hM HM
  go_enter Tryd.func55, Tryd.ntmps55
  go_wp2
  go_loopw [3, 13] (fun u i wr => ∃ k : Nat, k ≤ l.length ∧ i = .int .i64 k ∧ Aside0 (Kd.R (Kd.int .u8) 5 wr w.heap.size (fun _ => True) u (encY (l.take k))) ∧ Aside0 (Below w.heap.size w wr)) (fun _ i _ => l.length - (intOf i).toNat)
  case atStart => exact ⟨0, by omega, rfl, ⟨by simpa [encY] using HR0.out⟩, ⟨below_alloc (Below.refl _ w) _⟩⟩
  case round =>
    obtain ⟨k, hk, rfl, HR, HB⟩ := hrel
    by_cases hlt : k < l.length
    · obtain ⟨ad, hA0, hc0, hc1, hc2⟩ := at_T55 (Kd.C_below HA.out HB.out) (k : Int) (by omega) (by omega)
      subst hA0
      rw [Int.toNat_natCast] at hc0 hc1 hc2
      obtain ⟨Au, cu, rfl⟩ := Kd.R_slice HR.out
      have HL : Aside0 ((encY (l.take k)).length ≤ 549755813888 - 16) := ⟨by rw [encY_len, List.length_take, Nat.min_eq_left hk]; omega⟩
      have HA1 := Aside0.mk (fun W hb => AppW_c HR.out (wrap64 (rd_T55 l k).f0) W hb (by have := HL.out; omega))
      obtain ⟨X, hX⟩ : ∃ X, encY (l.take k) ++ beL (u64of (wrap64 (rd_T55 l k).f0)) 4 = X := ⟨_, rfl⟩
      rw [hX] at HA1
      have HXl : Aside0 (X.length ≤ 549755813888) := ⟨by rw [← hX, List.length_append, beL_len]; have := HL.out; omega⟩
      have HX := Aside0.mk hX
      clear hX
      go_wp2_with (fail)
      (with_reducible refine (HA1.out _ (below_alloc (Below.refl _ _) _)).mono ?_)
      rintro e w1 ⟨A1, c1, rfl, hr1, hb1⟩
      have hx := fun j => hb1.cell (p := ⟨wr.heap.size, j, none⟩) (by simp <;> omega)
      have hy := fun j => hb1.frozen (p := ⟨wr.heap.size, j, none⟩) (by simp <;> omega)
      have HR2 : Aside0 (Kd.R (Kd.int .u8) 5 w1 w.heap.size (fun _ => True) (.slice A1 X.length c1) X) := ⟨Kd.R_lower hr1 (Nat.le_trans HB.out.size (by simp))⟩
      have HB2 : Aside0 (Below w.heap.size w w1) := ⟨(below_alloc HB.out _).trans (hb1.mono (by have h0 := HB.out.size; simp; omega))⟩
      clear hb1 hr1
      cases hD : (rd_T55 l k).f1
      · rw [hD] at hc1
        go_wp2_with (at_builtin; refine wpList_append_R (w1.alloc (.cells #[.int .u8 0, .int .u8 (rd_T55 l k).f2] 5)) rfl (.tmp 25) (.tmp 29) 22 rfl w.heap.size 5 Tryd.underlying22 info5 (.slice A1 X.length c1) X [0, (rd_T55 l k).f2] (by rfl) (Kd.R_alloc HR2.out _) (some ⟨w1.heap.size, 0, none⟩) 2 2 (by rfl) (C_two _ _ _ _) (by have := HXl.out; omega) (by have := HB2.out.size; simp; omega) ?_; intro v2 w2 hr2 hg2 hat2)
        go_roundw
        case rel => exact ⟨k + 1, by omega, by go_num, ⟨by rw [encY_succ l k hlt, tyB, hD, ← List.append_assoc, HX.out]; exact hr2⟩, ⟨(below_alloc HB2.out _).grown hg2 (by have := HB2.out.size; simp; omega) (Kd.R_base HR2.out)⟩⟩
        case measure => simp [intOf]; omega
      · rw [hD] at hc1
        go_wp2_with (at_builtin; refine wpList_append_R (w1.alloc (.cells #[.int .u8 1, .int .u8 (rd_T55 l k).f2] 5)) rfl (.tmp 25) (.tmp 29) 22 rfl w.heap.size 5 Tryd.underlying22 info5 (.slice A1 X.length c1) X [1, (rd_T55 l k).f2] (by rfl) (Kd.R_alloc HR2.out _) (some ⟨w1.heap.size, 0, none⟩) 2 2 (by rfl) (C_two _ _ _ _) (by have := HXl.out; omega) (by have := HB2.out.size; simp; omega) ?_; intro v2 w2 hr2 hg2 hat2)
        go_roundw
        case rel => exact ⟨k + 1, by omega, by go_num, ⟨by rw [encY_succ l k hlt, tyB, hD, ← List.append_assoc, HX.out]; exact hr2⟩, ⟨(below_alloc HB2.out _).grown hg2 (by have := HB2.out.size; simp; omega) (Kd.R_base HR2.out)⟩⟩
        case measure => simp [intOf]; omega
    · obtain rfl : k = l.length := by omega
      go_wp2
      go_ret
      exact ⟨_, rfl, by have := HR.out; rwa [List.take_length] at this, HB.out⟩
end Go.Proofs.YtkdhdhkfkgjcnaaDoor.PBlockRoundTrip
end

section
namespace Go.Proofs.YtkdhdhkfkgjcnaaDoor.PBlockRoundTrip
open Go.RowKit Go.Proofs.YtkdhdhkfkgjcnaaDoorW.PrintWords Go.Proofs.YtkdhdhkfkgjcnaaDoorW.PrintMore
set_option linter.unusedSimpArgs false
set_option linter.unusedVariables false

theorem mod_step (u P : Int) (hP : 0 < P) : u / 256 % P * 256 + u % 256 = u % (P * 256) := by
  have h1 := Int.mul_ediv_add_emod u 256
  have h2 := Int.mul_ediv_add_emod (u / 256) P
  have b0 := Int.emod_nonneg (u / 256) (Int.ne_of_gt hP)
  have b1 := Int.emod_lt_of_pos (u / 256) hP
  have r0 := Int.emod_nonneg u (show (256 : Int) ≠ 0 by decide)
  have r1 := Int.emod_lt_of_pos u (show (0 : Int) < 256 by decide)
  obtain ⟨a, ha⟩ : ∃ a, u / 256 / P = a := ⟨_, rfl⟩
  obtain ⟨b, hb⟩ : ∃ b, u / 256 % P = b := ⟨_, rfl⟩
  obtain ⟨r, hr⟩ : ∃ r, u % 256 = r := ⟨_, rfl⟩
  rw [ha, hb] at h2
  rw [hb] at b0 b1
  rw [hr] at h1 r0 r1
  rw [hb, hr]
  have hu : u = (b * 256 + r) + P * 256 * a := by
    rw [← h2] at h1
    rw [← h1, Int.mul_add, show P * 256 * a = 256 * (P * a) by rw [Int.mul_comm P 256, Int.mul_assoc]]
    omega
  rw [hu, Int.add_mul_emod_self_left, Int.emod_eq_of_lt (by omega) (by omega)]
theorem beV_part (l : List Int) (off n : Nat) (v : Int) (h : ∀ i, i < n → rd l ((off + i : Nat) : Int) = beB v n i) : ∀ m, m ≤ n → beV l off m = v / 2 ^ (8 * (n - m)) % 256 ^ m
  | 0, _ => by simp [beV, Int.emod_one]
  | m + 1, hm => by
    have ih := beV_part l off n v h m (by omega)
    have e : 8 * (n - m) = 8 * (n - (m + 1)) + 8 := by omega
    have e2 : n - 1 - m = n - (m + 1) := by omega
    rw [beV, ih, h m (by omega), beB, e2, e, Int.pow_add, show (2 : Int) ^ 8 = 256 from by decide, Int.pow_succ]
    rw [← Int.ediv_ediv_of_nonneg (Int.pow_nonneg (by decide))]
    exact mod_step _ _ (Int.pow_pos (by decide))
/-- What was written is read. -/
theorem beV_all (l : List Int) (off n : Nat) (v : Int) (h : ∀ i, i < n → rd l ((off + i : Nat) : Int) = beB v n i) : beV l off n = v % 256 ^ n := by
  rw [beV_part l off n v h n (Nat.le_refl _), Nat.sub_self]
  simp
end Go.Proofs.YtkdhdhkfkgjcnaaDoor.PBlockRoundTrip
end

section
namespace Go.Proofs.YtkdhdhkfkgjcnaaDoor.PBlockRoundTrip
open Go.RowKit Go.Proofs.YtkdhdhkfkgjcnaaDoorW.PrintWords Go.Proofs.YtkdhdhkfkgjcnaaDoorW.PrintMore
set_option linter.unusedSimpArgs false
set_option linter.unusedVariables false

theorem sx8_u64 (v : Int) (h0 : 0 ≤ v) (h1 : v < 18446744073709551616) : u64of (sx 8 v) = v := by
  unfold u64of sx
  rw [if_neg (by decide), IntKind.wrap_u64]
  unfold wrap64
  omega
theorem sx4_u64 (v : Int) (h0 : 0 ≤ v) (h1 : v < 4294967296) : u64of (sx 4 v) % 4294967296 = v := by
  unfold u64of sx
  rw [if_pos rfl, IntKind.wrap_u64]
  split <;> omega
/-- A signed value that fits reads back. -/
theorem sx8_of (t : Int) (h0 : -9223372036854775808 ≤ t) (h1 : t ≤ 9223372036854775807) : sx 8 (u64of t % 256 ^ 8) = t := by
  unfold u64of sx
  rw [if_neg (by decide), IntKind.wrap_u64, q8]
  unfold wrap64
  omega
theorem sx4_of (t : Int) (h0 : -2147483648 ≤ t) (h1 : t ≤ 2147483647) : sx 4 (u64of t % 256 ^ 4) = t := by
  unfold u64of sx
  rw [if_pos rfl, IntKind.wrap_u64, q4]
  split <;> omega
/-- A byte of a value hangs on its remainder alone. -/
theorem beB_mod (v : Int) (n i : Nat) (hi : i < n) : beB (v % 256 ^ n) n i = beB v n i := by
  unfold beB
  have e : (256 : Int) ^ n = 2 ^ (8 * (n - 1 - i)) * (256 * 256 ^ i) := by
    rw [show (256 : Int) = 2 ^ 8 from by decide, ← Int.pow_mul, ← Int.pow_mul, ← Int.pow_add, ← Int.pow_add]
    congr 1
    omega
  rw [e]
  have h := Int.mul_ediv_add_emod v (2 ^ (8 * (n - 1 - i)) * (256 * 256 ^ i))
  obtain ⟨D, hD⟩ : ∃ D : Int, 2 ^ (8 * (n - 1 - i)) = D := ⟨_, rfl⟩
  have hDp : 0 < D := by rw [← hD]; exact Int.pow_pos (by decide)
  rw [hD] at h ⊢
  obtain ⟨a, ha⟩ : ∃ a, v / (D * (256 * 256 ^ i)) = a := ⟨_, rfl⟩
  obtain ⟨b, hb⟩ : ∃ b, v % (D * (256 * 256 ^ i)) = b := ⟨_, rfl⟩
  rw [ha, hb] at h
  rw [hb, ← h, show D * (256 * 256 ^ i) * a + b = b + D * (256 * (256 ^ i * a)) from by rw [Int.add_comm, Int.mul_assoc, Int.mul_assoc], Int.add_mul_ediv_left _ _ (Int.ne_of_gt hDp), Int.add_mul_emod_self_left]
end Go.Proofs.YtkdhdhkfkgjcnaaDoor.PBlockRoundTrip
end

section
namespace Go.Proofs.YtkdhdhkfkgjcnaaDoor.PBlockRoundTrip
open Go.RowKit Go.Proofs.YtkdhdhkfkgjcnaaDoorW.PrintWords Go.Proofs.YtkdhdhkfkgjcnaaDoorW.PrintMore
set_option linter.unusedSimpArgs false
set_option linter.unusedVariables false

theorem beB_beV {l : List Int} (h : Byt l) (off : Nat) : ∀ n i : Nat, i < n → off + n ≤ l.length → beB (beV l off n) n i = rd l ((off + i : Nat) : Int)
  | 0, i, hi, _ => by omega
  | n + 1, i, hi, hl => by
    obtain ⟨b0, b1⟩ := h.at ((off + n : Nat) : Int)
    rw [beV, beB]
    by_cases e : i = n
    · subst e
      rw [show 8 * (i + 1 - 1 - i) = 0 from by omega, Int.pow_zero, Int.ediv_one]
      omega
    · have ih := beB_beV h off n i (by omega) (by omega)
      rw [← ih, beB, show 8 * (n + 1 - 1 - i) = 8 + 8 * (n - 1 - i) from by omega, Int.pow_add, show (2 : Int) ^ 8 = 256 from by decide, ← Int.ediv_ediv_of_nonneg (by decide)]
      rw [show (beV l off n * 256 + rd l ((off + n : Nat) : Int)) / 256 = beV l off n from by omega]
theorem beL_beV {l : List Int} (h : Byt l) (off n : Nat) (hl : off + n ≤ l.length) : beL (beV l off n) n = (l.drop off).take n := by
  apply List.ext_getElem
  · simp [beL]; omega
  · intro i h1 h2
    have hi : i < n := by simpa [beL] using h1
    rw [show (beL (beV l off n) n)[i] = beB (beV l off n) n i from by simp [beL], beB_beV h off n i hi hl, rd_get l (off + i) (by omega)]
    simp
/-- A signed field that was read is written back as it was. -/
theorem beL_sx {l : List Int} (h : Byt l) (off s : Nat) (hs : s = 4 ∨ s = 8) (hl : off + s ≤ l.length) : beL (u64of (sx s (beV l off s))) s = (l.drop off).take s := by
  rw [← beL_beV h off s hl]
  obtain ⟨b0, b1⟩ := beV_bd h off s
  rcases hs with rfl | rfl
  · have e : ∀ i, i < 4 → beB (u64of (sx 4 (beV l off 4))) 4 i = beB (beV l off 4) 4 i := fun i hi => by
      rw [← beB_mod _ 4 i hi, q4, sx4_u64 _ b0 (by rw [q4] at b1; exact b1)]
    exact List.map_congr_left fun i hi => e i (List.mem_range.1 hi)
  · rw [sx8_u64 _ b0 (by rw [q8] at b1; exact b1)]
end Go.Proofs.YtkdhdhkfkgjcnaaDoor.PBlockRoundTrip
end

section
namespace Go.Proofs.YtkdhdhkfkgjcnaaDoor.PBlockRoundTrip
open Go.RowKit Go.Proofs.YtkdhdhkfkgjcnaaDoorW.PrintWords Go.Proofs.YtkdhdhkfkgjcnaaDoorW.PrintMore
set_option linter.unusedSimpArgs false
set_option linter.unusedVariables false

theorem encT_app (a b : List Int) (s : Nat) : encT (a ++ b) s = encT a s ++ encT b s := by simp [encT]
theorem encT_times {l : List Int} (h : Byt l) (s : Nat) (hs : s = 4 ∨ s = 8) : ∀ k, s * k ≤ l.length → encT (timesOf l s k) s = l.take (s * k)
  | 0, _ => by simp [timesOf, encT]
  | k + 1, hk => by
    have e : s * (k + 1) = s * k + s := by rw [Nat.mul_succ]
    rw [timesOf, encT_app, encT_times h s hs k (by omega), e, List.take_add]
    congr 1
    rw [encT, List.flatMap_singleton, beL_sx h (s * k) s hs (by omega)]
theorem encL_app (a b : List S79) (s : Nat) : encL (a ++ b) s = encL a s ++ encL b s := by simp [encL]
theorem wrap64_32 (v : Int) (h0 : 0 ≤ v) (h1 : v < 4294967296) : wrap64 (sx 4 v) = sx 4 v := by
  unfold sx
  rw [if_pos rfl]
  unfold wrap64
  split <;> omega
theorem encL_leaps {l : List Int} (h : Byt l) (s : Nat) (hs : s = 4 ∨ s = 8) : ∀ k, (s + 4) * k ≤ l.length → encL (leapsOf l s k) s = l.take ((s + 4) * k)
  | 0, _ => by simp [leapsOf, encL]
  | k + 1, hk => by
    have e : (s + 4) * (k + 1) = (s + 4) * k + (s + 4) := by rw [Nat.mul_succ]
    obtain ⟨b0, b1⟩ := beV_bd h ((s + 4) * k + s) 4
    rw [leapsOf, encL_app, encL_leaps h s hs k (by omega), e, List.take_add]
    congr 1
    rw [encL, List.flatMap_singleton, lpB, leapAt, wrap64_32 _ b0 (by rw [q4] at b1; exact b1), beL_sx h ((s + 4) * k) s hs (by omega), beL_sx h ((s + 4) * k + s) 4 (.inl rfl) (by omega), List.take_add, List.drop_drop]
end Go.Proofs.YtkdhdhkfkgjcnaaDoor.PBlockRoundTrip
end

section
namespace Go.Proofs.YtkdhdhkfkgjcnaaDoor.PBlockRoundTrip
open Go.RowKit Go.Proofs.YtkdhdhkfkgjcnaaDoorW.PrintWords Go.Proofs.YtkdhdhkfkgjcnaaDoorW.PrintMore
set_option linter.unusedSimpArgs false
set_option linter.unusedVariables false

theorem encY_app (a b : List S55) : encY (a ++ b) = encY a ++ encY b := by simp [encY]
theorem tyB_of {b : List Int} (h : Byt b) (h6 : b.length = 6) (hf : rd b 4 ≤ 1) : tyB (tyOf b) = b := by
  obtain ⟨b0, b1⟩ := beV_bd h 0 4
  obtain ⟨f0, f1⟩ := h.at 4
  rw [tyB, tyOf, wrap64_32 _ b0 (by rw [q4] at b1; exact b1), beL_sx h 0 4 (.inl rfl) (by omega), List.drop_zero]
  have e4 : (if (rd b 4 == 1) = true then (1 : Int) else 0) = rd b 4 := by
    rcases (by omega : rd b 4 = 0 ∨ rd b 4 = 1) with e | e <;> rw [e] <;> rfl
  show b.take 4 ++ [if (rd b 4 == 1) = true then (1 : Int) else 0, rd b 5] = b
  rw [e4, show rd b 4 = b[4] from rd_get b 4 (by omega), show rd b 5 = b[5] from rd_get b 5 (by omega)]
  apply List.ext_getElem
  · simp; omega
  · intro i h1 h2
    rcases (by omega : i < 4 ∨ i = 4 ∨ i = 5) with hi | rfl | rfl
    · rw [List.getElem_append_left (by simp; omega)]
      simp
    · rw [List.getElem_append_right (by simp; omega)]
      simp [h6]
    · rw [List.getElem_append_right (by simp; omega)]
      simp [h6]
theorem encY_types {l : List Int} (h : Byt l) : ∀ k, 6 * k ≤ l.length → FlagT l k → encY (typesOf l k) = l.take (6 * k)
  | 0, _, _ => by simp [typesOf, encY]
  | k + 1, hk, hf => by
    have e : 6 * (k + 1) = 6 * k + 6 := by omega
    rw [typesOf, encY_app, encY_types h k (by omega) (fun i hi => hf i (by omega)), e, List.take_add]
    congr 1
    rw [encY, List.flatMap_singleton]
    exact tyB_of ((h.drop _).take _) (by simp [sub6]; omega) (hf k (by omega))
end Go.Proofs.YtkdhdhkfkgjcnaaDoor.PBlockRoundTrip
end

section
namespace Go.Proofs.YtkdhdhkfkgjcnaaDoor.PBlockRoundTrip
open Go.RowKit Go.Proofs.YtkdhdhkfkgjcnaaDoorW.PrintWords Go.Proofs.YtkdhdhkfkgjcnaaDoorW.PrintMore
set_option linter.unusedSimpArgs false
set_option linter.unusedVariables false

/-- The bytes of the indicators. -/
def encF (l : List Bool) : List Int := l.map fun x => if x then 1 else 0
theorem encF_len (l : List Bool) : (encF l).length = l.length := by simp [encF]
theorem encF_flags {l : List Int} (h : Byt l) (hf : Flags l) : encF (flagsOf l) = l := by
  unfold encF flagsOf
  rw [List.map_map]
  conv => rhs; rw [← List.map_id l]
  apply List.map_congr_left
  intro x hx
  obtain ⟨h0, _⟩ := h x hx
  have h1 := hf x hx
  rcases (by omega : x = 0 ∨ x = 1) with rfl | rfl <;> rfl
theorem set_mid (p : List Int) (n : Nat) (x : Int) : (p ++ List.replicate (n + 1) 0).set p.length x = p ++ [x] ++ List.replicate n 0 := by
  rw [List.set_append_right _ _ (Nat.le_refl _), Nat.sub_self, List.replicate_succ]
  simp
theorem ienc_l0 (l : List Bool) (hm : l.length ≤ 140737488355328) (d : Nat) : ∀ (i K : Nat), i + d = l.length → d < K → indicators_Encode.l0 K (encF (l.take i) ++ List.replicate d 0) l (l.length : Int) (i : Int) = some (encF l) := by
  induction d with
  | zero =>
    intro i K hi hK
    obtain ⟨K, rfl⟩ : ∃ m, K = m + 1 := ⟨K - 1, by omega⟩
    rw [indicators_Encode.l0, if_neg (by omega)]
    obtain rfl : i = l.length := by omega
    simp
  | succ d ih =>
    intro i K hi hK
    obtain ⟨K, rfl⟩ : ∃ m, K = m + 1 := ⟨K - 1, by omega⟩
    have hlt : i < l.length := by omega
    have hlen : (encF (l.take i)).length = i := by rw [encF_len, List.length_take, Nat.min_eq_left (by omega)]
    have hr : rdOf false l (i : Int) = l[i] := by simp [rdOf, List.getD_eq_getElem?_getD, List.getElem?_eq_getElem hlt]
    have hw : wrap64 ((i : Int) + 1) = ((i + 1 : Nat) : Int) := by unfold wrap64; omega
    have ht : encF (l.take (i + 1)) = encF (l.take i) ++ [if l[i] then 1 else 0] := by rw [List.take_succ_eq_append_getElem hlt]; unfold encF; rw [List.map_append]; rfl
    have h := ih (i + 1) K (by omega) (by omega)
    rw [ht] at h
    rw [indicators_Encode.l0, if_pos (by omega), if_pos (by omega), if_pos (by omega), hr, hw]
    cases hb : l[i]
    · rw [if_neg (by simp)]
      rw [hb] at h
      rw [List.replicate_succ, ← List.append_cons] at *
      simpa using h
    · rw [if_pos rfl, if_pos (by rw [List.length_append, hlen, List.length_replicate]; omega)]
      rw [hb] at h
      have hs := set_mid (encF (l.take i)) d 1
      rw [hlen] at hs
      rw [Int.toNat_natCast, hs]
      simpa using h
theorem ienc_f (l : List Bool) (hm : l.length ≤ 140737488355328) : indicators_Encode.f (l.length + 1) l = some (encF l) := by
  rw [indicators_Encode.f, if_pos (by omega), if_pos (by omega)]
  have h := ienc_l0 l hm l.length 0 (l.length + 1) (by omega) (by omega)
  simpa [encF] using h
end Go.Proofs.YtkdhdhkfkgjcnaaDoor.PBlockRoundTrip
end

section
namespace Go.Proofs.YtkdhdhkfkgjcnaaDoor.PBlockRoundTrip
open Go.RowKit Go.Proofs.YtkdhdhkfkgjcnaaDoorW.PrintWords Go.Proofs.YtkdhdhkfkgjcnaaDoorW.PrintMore
set_option linter.unusedSimpArgs false
set_option linter.unusedVariables false

theorem rd_app (a b : List Int) (i : Nat) : rd (a ++ b) ((a.length + i : Nat) : Int) = rd b i := by
  rw [Go.Proofs.YtkdhdhkfkgjcnaaDoorW.PrintWords.rd, Go.Proofs.YtkdhdhkfkgjcnaaDoorW.PrintWords.rd, Int.toNat_natCast, Int.toNat_natCast, List.getD_eq_getElem?_getD, List.getD_eq_getElem?_getD, List.getElem?_append_right (by omega), Nat.add_sub_cancel_left]
theorem rd_appl (a b : List Int) (i : Nat) (h : i < a.length) : rd (a ++ b) (i : Int) = rd a i := by
  simp [Go.Proofs.YtkdhdhkfkgjcnaaDoorW.PrintWords.rd, List.getD_eq_getElem?_getD, List.getElem?_append_left h]
theorem rd_beL (v : Int) (n i : Nat) (h : i < n) : rd (beL v n) (i : Int) = beB v n i := by
  simp [Go.Proofs.YtkdhdhkfkgjcnaaDoorW.PrintWords.rd, List.getD_eq_getElem?_getD, beL, h]
/-- A field that lies behind a is read. -/
theorem beV_mid (a b : List Int) (v : Int) (n : Nat) : beV (a ++ (beL v n ++ b)) a.length n = v % 256 ^ n := by
  apply beV_all
  intro i hi
  rw [rd_app, rd_appl _ _ i (by rw [beL_len]; exact hi), rd_beL v n i hi]
/-- The value fits in s bytes. -/
def Fit1 (s : Nat) (t : Int) : Prop := sx s (u64of t % 256 ^ s) = t
theorem times_encT (l : List Int) (s : Nat) (hf : ∀ t ∈ l, Fit1 s t) : ∀ k, k ≤ l.length → timesOf (encT l s) s k = l.take k
  | 0, _ => by simp [timesOf]
  | k + 1, hk => by
    have hlt : k < l.length := by omega
    rw [timesOf, times_encT l s hf k (by omega), List.take_succ_eq_append_getElem hlt]
    congr 2
    have e : encT l s = encT (l.take k) s ++ (beL (u64of l[k]) s ++ encT (l.drop (k + 1)) s) := by
      have : l = l.take k ++ (l[k] :: l.drop (k + 1)) := by rw [List.getElem_cons_drop]; exact (List.take_append_drop k l).symm
      have h2 := congrArg (fun x => encT x s) this
      refine h2.trans ?_
      show encT (l.take k ++ (l[k] :: l.drop (k + 1))) s = _
      rw [encT_app]
      rfl
    have hl : (encT (l.take k) s).length = s * k := by rw [encT_len, List.length_take, Nat.min_eq_left (by omega), Nat.mul_comm]
    rw [e, ← hl, beV_mid]
    exact hf _ (List.getElem_mem hlt)
end Go.Proofs.YtkdhdhkfkgjcnaaDoor.PBlockRoundTrip
end
