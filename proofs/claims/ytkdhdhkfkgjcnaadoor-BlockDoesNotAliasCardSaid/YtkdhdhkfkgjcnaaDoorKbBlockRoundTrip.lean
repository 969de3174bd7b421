/- The texts B C D P1 J E F G. -/
import Derived.Test.YtkdhdhkfkgjcnaaDoorKaBlockRoundTrip
import Derived.Maps.AppendAt
import Derived.Deep.AppendLies
import Derived.RegionTactic
import Derived.OwnWalk
import Derived.Deep.RegionHeld3
import Derived.Laws.BitsAllLaws
import Derived.WalkSpells
import Derived.LaidEql
import Derived.Stop.Asserts
import Derived.RowKitTokens

section
namespace Go.Proofs.YtkdhdhkfkgjcnaaDoor.PBlockRoundTrip
open Go.RowKit Go.Proofs.YtkdhdhkfkgjcnaaDoorW.PrintWords
set_option linter.unusedSimpArgs false
set_option linter.unusedVariables false

theorem block_of_add (a : Addr) (n : Nat) : (a.add n).block = a.block := by unfold Addr.add; split <;> rfl
theorem add_of_add (a : Addr) (i j : Nat) : (a.add i).add j = a.add (i + j) := by
  unfold Addr.add
  by_cases hi : i = 0 <;> by_cases hj : j = 0 <;> simp [hi, hj, Nat.add_assoc]

def Reads (w : World) (B size : Nat) (A : Option Addr) (n : Nat) (xs : List Value) : Prop :=
  xs.length = n * size ∧ (0 < n → ∃ ad, A = some ad ∧ ad.block < B ∧ ∀ j u, xs[j]? = some u → w.cell? (ad.add j) = some u)

section
variable {w w' : World} {B B' size n : Nat} {A : Option Addr} {xs : List Value}
theorem Reads.none_ : Reads w B size A 0 [] := ⟨by simp, fun h => absurd h (by omega)⟩
theorem Reads.at_ {k : Nat} (h : Reads w B 1 A n xs) (hk : k < n) : ∃ ad u, A = some ad ∧ ad.block < B ∧ xs[k]? = some u ∧ w.cell? (ad.add k) = some u := by
  obtain ⟨ad, e, hb, hc⟩ := h.2 (by omega)
  have hl : k < xs.length := by have := h.1; omega
  exact ⟨ad, xs[k], e, hb, List.getElem?_eq_getElem hl, hc k _ (List.getElem?_eq_getElem hl)⟩
theorem Reads.keep (h : Reads w B size A n xs) (hk : ∀ p : Addr, p.block < B → w'.cell? p = w.cell? p) : Reads w' B size A n xs :=
  ⟨h.1, fun hn => by
    obtain ⟨ad, e, hb, hc⟩ := h.2 hn
    exact ⟨ad, e, hb, fun j u hu => (hk _ (by rw [block_of_add]; exact hb)).trans (hc j u hu)⟩⟩
theorem Reads.more (h : Reads w B size A n xs) (hB : B ≤ B') : Reads w B' size A n xs :=
  ⟨h.1, fun hn => by
    obtain ⟨ad, e, hb, hc⟩ := h.2 hn
    exact ⟨ad, e, by omega, hc⟩⟩
theorem Reads.below (h : Reads w B size A n xs) (hb : Below B w w') : Reads w' B size A n xs := h.keep fun _ hp => hb.cell hp
theorem Reads.drew (h : Reads w B size A n xs) : Reads w.drew B size A n xs := h
theorem Reads.drewN (h : Reads w B size A n xs) (k : Nat) : Reads (w.drewN k) B size A n xs := h
theorem Reads.alloc (h : Reads w B size A n xs) (hB : B ≤ w.heap.size) (o : Obj) : Reads (w.alloc o) B size A n xs := h.keep fun p hp => World.cell?_alloc_lt w o p (by omega)
theorem Reads.setCell (h : Reads w B size A n xs) {p : Addr} (hB : B ≤ p.block) (u : Value) : Reads (w.setCell p u) B size A n xs :=
  h.keep fun q hq => World.cell?_setCell_other w p q u (fun e => by subst e; omega)
theorem Reads.grown (h : Reads w B size A n xs) {row : Option Nat} (hg : w.grownBy w' row) (hB : B ≤ w.heap.size) (hr : ∀ g, row = some g → B ≤ g) : Reads w' B size A n xs :=
  h.keep fun p hp => World.cell?_of_block (hg.block p.block (by omega) (fun e => by have := hr _ e.symm; omega))
theorem Reads.cut (h : Reads w B size A n xs) {k cap : Nat} (hk : k ≤ n) (hc : n ≤ cap) :
    Reads w B size (if cap = k then A else A.map (·.add (k * size))) (n - k) (xs.drop (k * size)) := by
  refine ⟨by rw [List.length_drop, h.1, Nat.sub_mul], fun hn => ?_⟩
  obtain ⟨ad, rfl, hb, hcell⟩ := h.2 (by omega)
  rw [if_neg (by omega)]
  refine ⟨ad.add (k * size), rfl, by rw [block_of_add]; exact hb, fun j u hu => ?_⟩
  rw [add_of_add]
  exact hcell _ u (by rw [← hu, List.getElem?_drop])
theorem Reads.of_own {base : Nat} {e : TypeId} {c : Nat} (h : w.ownsRow base e size (.slice A n c) n xs) : Reads w w.heap.size size A n xs := by
  refine ⟨h.1, fun hn => ?_⟩
  obtain ⟨g, cap, hv, _, hlt⟩ := h.form hn
  have hA : A = some ⟨g, 0, none⟩ := by injection hv
  subst hA
  exact ⟨_, rfl, hlt, h.cells (g := g) rfl⟩
end

section
variable {P : Program} (w : World)

theorem run_append_of_nil (base : Nat) (t ty e : TypeId) (i : TypeInfo) (size : Nat) (ht : P.underlying t = some (.slice e)) (hi : P.info? e = some i)
    (v : Value) (n : Nat) (xs : List Value) (hown : w.ownsRow base e size v n xs) (c : Nat) : (Builtin.append_ #[t, t] ty #[v, .slice none 0 c]).run P w = .ok v w := by
  rcases hown.2 with ⟨rfl, rfl⟩ | ⟨g, cap, cur, rfl, _, _, hnc, _⟩
  · simp [Builtin.append_, run_underlying ht, sizeOf, typeInfo, hi, Builtin.lenOf, Builtin.firstCells]
  · simp [Builtin.append_, run_underlying ht, sizeOf, typeInfo, hi, Builtin.lenOf, Builtin.firstCells, hnc, storeCells]

theorem run_append_any (base : Nat) (t ty e : TypeId) (i : TypeInfo) (z : Value) (size bytes : Nat) (ht : P.underlying t = some (.slice e)) (hi : P.info? e = some i) (hz : i.zero = some z)
    (hsize : i.size = size) (hby : i.bytes = bytes) (hzs : z.cells.size = size) (hsz : 0 < size)
    (v : Value) (n : Nat) (xs : List Value) (hown : w.ownsRow base e size v n xs)
    (B : Nat) (A : Option Addr) (m c : Nat) (news : List Value) (hr : Reads w B size A m news) (h1 : ∀ u ∈ news, u.oneCell' = true)
    (h63 : n + m ≤ maxLen) (hbytes : (n + m) * bytes ≤ 140737488355328) (hbase : base ≤ w.heap.size) :
    ∃ v' w', (Builtin.append_ #[t, t] ty #[v, .slice A m c]).run P w = .ok v' w' ∧ w'.ownsRow base e size v' (n + m) (xs ++ news) ∧ w.grownBy w' v.ownBlock ∧
      (v'.ownBlock = v.ownBlock ∨ v'.ownBlock = some w.heap.size) := by
  rcases A with _ | ad
  · have hm : m = 0 := by
      rcases Nat.eq_zero_or_pos m with h0 | h0
      · exact h0
      · obtain ⟨ad, h, _⟩ := hr.2 h0
        cases h
    subst hm
    have hn : news = [] := List.eq_nil_of_length_eq_zero (by simpa using hr.1)
    subst hn
    exact ⟨v, w, run_append_of_nil w base t ty e i size ht hi v n xs hown c, by simpa using hown, World.grownBy.refl w _, .inl rfl⟩
  · have hcells : ∀ j u, news[j]? = some u → w.cell? (ad.add j) = some u := by
      intro j u hu
      rcases Nat.eq_zero_or_pos m with h0 | h0
      · subst h0
        have hn : news = [] := List.eq_nil_of_length_eq_zero (by simpa using hr.1)
        subst hn
        simp at hu
      · obtain ⟨ad', h, _, hc⟩ := hr.2 h0
        injection h with h
        subst h
        exact hc j u hu
    obtain ⟨v', w', hrun, h2, h3, _, h5⟩ := run_append_own_at (P := P) w base t ty e i z size bytes ht hi hz hsize hby hzs hsz v n xs hown ad m c news hr.1 hcells h1 h63 hbytes hbase
    exact ⟨v', w', hrun, h2, h3, h5⟩

theorem wp_append_any {o : Oper} {a : Act} {K : Act → World → Prop} {Q : Exit → Act → World → Prop} (s x : Operand) (t : TypeId)
    (ho : o.op = .call { callee := .builtin .append, args := #[s, x], argTypes := #[t, t] })
    (base : Nat) (e : TypeId) (i : TypeInfo) (z : Value) (size bytes : Nat) (ht : P.underlying t = some (.slice e)) (hi : P.info? e = some i) (hz : i.zero = some z)
    (hsize : i.size = size) (hby : i.bytes = bytes) (hzs : z.cells.size = size) (hsz : 0 < size)
    (v : Value) (n : Nat) (xs : List Value) (hs : a.eval s = v) (hown : w.ownsRow base e size v n xs)
    (B : Nat) (A : Option Addr) (m c : Nat) (news : List Value) (hx : a.eval x = .slice A m c) (hr : Reads w B size A m news) (h1 : ∀ u ∈ news, u.oneCell' = true)
    (h63 : n + m ≤ maxLen) (hbytes : (n + m) * bytes ≤ 140737488355328) (hbase : base ≤ w.heap.size)
    (h : ∀ v' w', w'.ownsRow base e size v' (n + m) (xs ++ news) → w.grownBy w' v.ownBlock → (v'.ownBlock = v.ownBlock ∨ v'.ownBlock = some w.heap.size) → K (a.put o.dst v') w') : o.wp P a w K Q := by
  obtain ⟨v', w', hrun, h2, h3, h4⟩ := run_append_any (P := P) w base t o.type e i z size bytes ht hi hz hsize hby hzs hsz v n xs hown B A m c news hr h1 h63 hbytes hbase
  unfold Oper.wp execOp
  simp only [ho, resolve, invoke, builtin, Sem.run_bind, Sem.run_pure, Result.andThen_ok, List.map_toArray, List.map_cons, List.map_nil, hs, hx, hrun]
  exact h v' w' h2 h3 h4

theorem wpList_append_any {ops : Array Oper} {rest : List Oper} {o : Oper} {a : Act} {Q : Exit → Act → World → Prop} (hgd : o.guard = none) (s x : Operand) (t : TypeId)
    (ho : o.op = .call { callee := .builtin .append, args := #[s, x], argTypes := #[t, t] })
    (base : Nat) (e : TypeId) (i : TypeInfo) (z : Value) (size bytes : Nat) (ht : P.underlying t = some (.slice e)) (hi : P.info? e = some i) (hz : i.zero = some z)
    (hsize : i.size = size) (hby : i.bytes = bytes) (hzs : z.cells.size = size) (hsz : 0 < size)
    (v : Value) (n : Nat) (xs : List Value) (hs : a.eval s = v) (hown : w.ownsRow base e size v n xs)
    (B : Nat) (A : Option Addr) (m c : Nat) (news : List Value) (hx : a.eval x = .slice A m c) (hr : Reads w B size A m news) (h1 : ∀ u ∈ news, u.oneCell' = true)
    (h63 : n + m ≤ maxLen) (hbytes : (n + m) * bytes ≤ 140737488355328) (hbase : base ≤ w.heap.size)
    (h : ∀ v' w', w'.ownsRow base e size v' (n + m) (xs ++ news) → w.grownBy w' v.ownBlock → (v'.ownBlock = v.ownBlock ∨ v'.ownBlock = some w.heap.size) → wpList P ops Q rest (a.put o.dst v') w') : wpList P ops Q (o :: rest) a w :=
  wpList_plain hgd fun _ hK => wp_append_any w s x t ho base e i z size bytes ht hi hz hsize hby hzs hsz v n xs hs hown B A m c news hx hr h1 h63 hbytes hbase fun v' w' h2 h3 h4 => hK _ _ (h v' w' h2 h3 h4)

theorem step_append_any {ops : Array Oper} {o : Oper} {a : Act} {K : Act → World → Prop} {Q : Exit → Act → World → Prop} {E : Prop} (hgd : o.guard = none) (s x : Operand) (t : TypeId)
    (ho : o.op = .call { callee := .builtin .append, args := #[s, x], argTypes := #[t, t] })
    (base : Nat) (e : TypeId) (i : TypeInfo) (z : Value) (size bytes : Nat) (ht : P.underlying t = some (.slice e)) (hi : P.info? e = some i) (hz : i.zero = some z)
    (hsize : i.size = size) (hby : i.bytes = bytes) (hzs : z.cells.size = size) (hsz : 0 < size)
    (v : Value) (n : Nat) (xs : List Value) (hs : a.eval s = v) (hown : w.ownsRow base e size v n xs)
    (B : Nat) (A : Option Addr) (m c : Nat) (news : List Value) (hx : a.eval x = .slice A m c) (hr : Reads w B size A m news) (h1 : ∀ u ∈ news, u.oneCell' = true)
    (h63 : n + m ≤ maxLen) (hbytes : (n + m) * bytes ≤ 140737488355328) (hbase : base ≤ w.heap.size)
    (h : ∀ v' w', w'.ownsRow base e size v' (n + m) (xs ++ news) → w.grownBy w' v.ownBlock → (v'.ownBlock = v.ownBlock ∨ v'.ownBlock = some w.heap.size) → K (a.put o.dst v') w') :
    if Region.wanted o (yielded ops a.tmps) = true then Oper.wp P o a w K Q else E := by
  have hw : Region.wanted o (yielded ops a.tmps) = true := by simp [Region.wanted, hgd]
  rw [if_pos hw]
  exact wp_append_any w s x t ho base e i z size bytes ht hi hz hsize hby hzs hsz v n xs hs hown B A m c news hx hr h1 h63 hbytes hbase h
end

theorem quiet_add {P : Program} {f : FuncId} {args : Array Value} {w : World} {a n : Nat} {v : Value}
    (h : Calls P f args (w.drewN (a + n)) fun e w' => e = .returned v ∧ ∃ m, w' = (w.drewN (a + n)).drewN m) :
    Calls P f args (w.drewN (a + n)) fun e w'' => e = .returned v ∧ ∃ m, w'' = w.drewN (a + m) :=
  h.mono fun _ _ ⟨he, m, hm⟩ => ⟨he, n + m, by rw [hm, World.drewN_drewN, Nat.add_assoc]⟩
theorem quiet_add_same {P : Program} {f : FuncId} {args : Array Value} {w : World} {a n : Nat} {v : Value}
    (h : Calls P f args (w.drewN (a + n)) fun e w' => e = .returned v ∧ w' = w.drewN (a + n)) :
    Calls P f args (w.drewN (a + n)) fun e w'' => e = .returned v ∧ ∃ m, w'' = w.drewN (a + m) :=
  h.mono fun _ _ ⟨he, hm⟩ => ⟨he, n, hm⟩
theorem quiet_add_left {P : Program} {f : FuncId} {args : Array Value} {w : World} {a n : Nat} {v : Value}
    (h : Calls P f args (w.drewN (a + n)) fun e w' => e = .returned v ∧ w.drewN (a + n) = w') :
    Calls P f args (w.drewN (a + n)) fun e w'' => e = .returned v ∧ ∃ m, w'' = w.drewN (a + m) :=
  h.mono fun _ _ ⟨he, hm⟩ => ⟨he, n, hm.symm⟩
theorem quiet_left {P : Program} {f : FuncId} {args : Array Value} {w : World} {n : Nat} {v : Value}
    (h : Calls P f args (w.drewN n) fun e w' => e = .returned v ∧ w.drewN n = w') : Calls P f args (w.drewN n) fun e w'' => e = .returned v ∧ ∃ m, w'' = w.drewN m :=
  h.mono fun _ _ ⟨he, hm⟩ => ⟨he, n, hm.symm⟩

/-- A row that is read, as cells. -/
theorem reads_of_int {k : IntKind} {w : World} {A : Option Addr} {n : Nat} {xs : List Int} (h : Kd.C (Kd.int k) w A n xs) : Reads w w.heap.size 1 A n (nums k xs) := by
  refine ⟨by rw [Nat.mul_one]; simpa [nums] using h.1, fun hn => ?_⟩
  obtain ⟨ad, e, hc⟩ := h.2.2 hn
  have hcell : ∀ j u, (nums k xs)[j]? = some u → w.cell? (ad.add j) = some u := by
    intro j u hu
    obtain ⟨x, hx, rfl⟩ : ∃ x, xs[j]? = some x ∧ Value.int k x = u := by simpa [nums] using hu
    obtain ⟨c, hl, hK, hcc⟩ := hc j x hx
    obtain rfl : c = [Value.int k x] := hK
    have := hcc 0 (Value.int k x) rfl
    rwa [show (Kd.int k).sz = 1 from rfl, Nat.mul_one, Nat.add_zero] at this
  refine ⟨ad, e, ?_, hcell⟩
  have hl : 0 < (nums k xs).length := by simp [nums]; have := h.1; omega
  have h0 := hcell 0 _ (List.getElem?_eq_getElem hl)
  rw [show ad.add 0 = ad from by simp [Addr.add]] at h0
  exact World.block_lt_of_cell? w _ h0
/-- The cut lo:hi of a row that is read. -/
theorem C_cut {α : Type} {d : Kd α} {w : World} {A : Option Addr} {xs : List α} (h : d.C w A xs.length xs) (lo hi m : Nat) (h1 : lo ≤ hi) (h2 : hi ≤ xs.length) (h3 : hi ≤ m) :
    d.C w (if m = lo then A else A.map (·.add (lo * d.sz))) (hi - lo) ((xs.drop lo).take (hi - lo)) := by
  refine ⟨by simp; omega, by have := h.2.1; omega, fun hp => ?_⟩
  obtain ⟨ad, rfl, hc⟩ := h.2.2 (by omega)
  rw [if_neg (by omega)]
  refine ⟨_, rfl, fun j p hj => ?_⟩
  have hj2 : xs[lo + j]? = some p := by
    rw [List.getElem?_take] at hj
    split at hj
    · rw [← hj, List.getElem?_drop]
    · cases hj
  obtain ⟨c, hl, hK, hcc⟩ := hc (lo + j) p hj2
  refine ⟨c, hl, hK, fun i u hu => ?_⟩
  rw [add_of_add, ← Nat.add_assoc, ← Nat.add_mul]
  exact hcc i u hu
theorem run_cut_lh {P : Program} {α : Type} {d : Kd α} (t e : TypeId) {i : TypeInfo} (ht : P.underlying t = some (.slice e)) (hinf : P.info? e = some i) (hsz : i.size = d.sz) (A : Option Addr) (n c : Nat) (lo hi : Int) (h0 : 0 ≤ lo) (h1 : lo ≤ hi) (h2 : hi ≤ n) (hc : n ≤ c) :
    ∃ A' : Option Addr, (∀ W : World, (Instr.slice t (.slice A n c) (some (.int .i64 lo)) (some (.int .i64 hi)) none).run P W = .ok (.slice A' (hi.toNat - lo.toNat) (c - lo.toNat)) W) ∧
      ∀ (w : World) (xs : List α), xs.length = n → d.C w A n xs → d.C w A' (hi.toNat - lo.toNat) ((xs.drop lo.toNat).take (hi.toNat - lo.toNat)) := by
  refine ⟨if c = lo.toNat then A else A.map (·.add (lo.toNat * d.sz)), fun W => ?_, ?_⟩
  · have hel : P.elem t = e := by simp [Program.elem, ht]
    have hu : P.underlying t = some (.slice (P.elem t)) := by rw [hel]; exact ht
    rw [run_slice_lh W t A n c hu .i64 .i64 lo hi h0 h1 (by omega), hel]
    simp [sizeOf, typeInfo, hinf, hsz, sliced, Result.andThen]
  · intro w xs hn h
    subst hn
    exact C_cut h lo.toNat hi.toNat c (by omega) (by omega) (by omega)
theorem run_cut_lhm {P : Program} {α : Type} {d : Kd α} (t e : TypeId) {i : TypeInfo} (ht : P.underlying t = some (.slice e)) (hinf : P.info? e = some i) (hsz : i.size = d.sz) (A : Option Addr) (n c : Nat) (lo hi : Int) (k1 k2 k3 : IntKind) (h0 : 0 ≤ lo) (h1 : lo ≤ hi) (h2 : hi ≤ n) (hc : n ≤ c) :
    ∃ A' : Option Addr, (∀ W : World, (Instr.slice t (.slice A n c) (some (.int k1 lo)) (some (.int k2 hi)) (some (.int k3 hi))).run P W = .ok (.slice A' (hi.toNat - lo.toNat) (hi.toNat - lo.toNat)) W) ∧
      (A' = A ∨ A' = A.map (·.add (lo.toNat * d.sz))) ∧
      ∀ (w : World) (xs : List α), xs.length = n → d.C w A n xs → d.C w A' (hi.toNat - lo.toNat) ((xs.drop lo.toNat).take (hi.toNat - lo.toNat)) := by
  refine ⟨if hi.toNat = lo.toNat then A else A.map (·.add (lo.toNat * d.sz)), fun W => ?_, ?_, ?_⟩
  · have hel : P.elem t = e := by simp [Program.elem, ht]
    have hu : P.underlying t = some (.slice (P.elem t)) := by rw [hel]; exact ht
    rw [run_slice_lhm W t A n c hu k1 k2 k3 lo hi hi h0 h1 (Int.le_refl _) (by omega), hel]
    simp [sizeOf, typeInfo, hinf, hsz, sliced, Result.andThen]
  · split
    · exact .inl rfl
    · exact .inr rfl
  · intro w xs hn h
    subst hn
    exact C_cut h lo.toNat hi.toNat hi.toNat (by omega) (by omega) (by omega)
/-- Four stores into a block of another type leave a row as it was. -/
theorem R_set4 {α : Type} {d : Kd α} {e base : Nat} {w : World} {ok : Nat → Prop} {v : Value} {xs : List α} {g t : Nat} {cs : Array Value} (h : d.R e w base ok v xs) (hb : w.heap[g]? = some (.cells cs t (0, 0))) (ht : ∀ q, q ∈ e :: d.E → q ≠ t) (i0 i1 i2 i3 : Nat) (u0 u1 u2 u3 : Value) :
    d.R e ((((w.setCell ⟨g, i0, none⟩ u0).setCell ⟨g, i1, none⟩ u1).setCell ⟨g, i2, none⟩ u2).setCell ⟨g, i3, none⟩ u3) base ok v xs :=
  Kd.R_mono (Kd.R_far (p := ⟨g, i3, none⟩) (Kd.R_far (p := ⟨g, i2, none⟩) (Kd.R_far (p := ⟨g, i1, none⟩) (Kd.R_far (p := ⟨g, i0, none⟩) (Kd.R_types h hb ht) (fun _ hk => hk.2) u0) (fun _ hk => hk.2) u1) (fun _ hk => hk.2) u2) (fun _ hk => hk.2) u3) (fun _ hk => hk.1)
theorem R_of_nums {k : IntKind} {e : Nat} {w : World} {base : Nat} {v : Value} {n : Nat} {xs : List Int} (ho : w.ownsRow base e 1 v n (nums k xs)) (hn : n = xs.length) : (Kd.int k).R e w base (fun _ => True) v xs := by
  subst hn
  exact Kd.R_of_own ho (fun _ _ => trivial)
theorem nums_one {k : IntKind} (xs : List Int) : ∀ u ∈ nums k xs, u.oneCell' = true := by
  intro u hu
  obtain ⟨x, _, rfl⟩ : ∃ x, x ∈ xs ∧ Value.int k x = u := by simpa [nums] using hu
  rfl
end Go.Proofs.YtkdhdhkfkgjcnaaDoor.PBlockRoundTrip
end

section
namespace Go.Proofs.YtkdhdhkfkgjcnaaDoor.PBlockRoundTrip
open Go.RowKit Go.Proofs.YtkdhdhkfkgjcnaaDoorW.PrintWords
set_option linter.unusedSimpArgs false
set_option linter.unusedVariables false

theorem Rest_ok (A : Option Addr) (n c : Nat) (p t : Int) (w : World) (h0 : 0 ≤ p) (h1 : p ≤ n) (hn : n ≤ 4611686018427387904) :
    Calls Tryd.prog 26 #[.agg #[.slice A n c, .int .i64 p, .int .i64 0, .int .i64 t]] w fun e w' => e = .returned (.int .i64 (n - p)) ∧ Below w.heap.size w w' := by
  go_enter Tryd.func26, Tryd.ntmps26
  go_wp2
  go_ret
  exact ⟨rfl, below_alloc (Below.refl _ _) _⟩
theorem Rest_err (v : Value) (hv : v.oneCell' = true) (p e t : Int) (w : World) (he : e ≠ 0) :
    Calls Tryd.prog 26 #[.agg #[v, .int .i64 p, .int .i64 e, .int .i64 t]] w fun e w' => e = .returned (.int .i64 0) ∧ Below w.heap.size w w' := by
  have h1 : (e == 0) = false := beq_eq_false_iff_ne.mpr he
  have h2 : (e != 0) = true := bne_iff_ne.mpr he
  go_enter Tryd.func26, Tryd.ntmps26
  go_wp2
  go_ret
  exact ⟨rfl, below_alloc (Below.refl _ _) _⟩
theorem Fail_new (A : Option Addr) (n c : Nat) (p y t a : Int) (w : World) (hy : y ≠ 0) :
    Calls Tryd.prog 27 #[.agg #[.slice A n c, .int .i64 p, .int .i64 0, .int .i64 t], .int .i64 y, .int .i64 a] w fun e w' => e = .returned (.agg #[.slice A n c, .int .i64 p, .int .i64 y, .int .i64 a]) ∧ Below w.heap.size w w' := by
  have h1 : (y == 0) = false := beq_eq_false_iff_ne.mpr hy
  have h2 : (y != 0) = true := bne_iff_ne.mpr hy
  go_enter Tryd.func27, Tryd.ntmps27
  go_wp2
  refine bodyPost_ret (v := .agg #[.slice A n c, .int .i64 p, .int .i64 y, .int .i64 a]) (by simp [results, Tryd.results27, go_sem]) rfl ⟨rfl, ?_⟩
  repeat (first | (with_reducible exact Below.refl _ _) | (with_reducible refine pw_below_drewN ?_ _) | (with_reducible refine Below.drew ?_) | (with_reducible refine Below.setCell ?_ (by simp <;> omega) _) | (with_reducible refine below_alloc ?_ _))
theorem New_c (A : Option Addr) (n c : Nat) (w : World) :
    Calls Tryd.prog 23 #[.slice A n c] w fun e w' => e = .returned (.agg #[.slice A n c, .int .i64 0, .int .i64 0, .int .i64 0]) ∧ Below w.heap.size w w' := by
  go_enter Tryd.func23, Tryd.ntmps23
  go_wp2
  refine bodyPost_ret (v := .agg #[.slice A n c, .int .i64 0, .int .i64 0, .int .i64 0]) (by simp [results, Tryd.results23, go_sem]) rfl ⟨rfl, ?_⟩
  repeat (first | (with_reducible exact Below.refl _ _) | (with_reducible refine pw_below_drewN ?_ _) | (with_reducible refine Below.drew ?_) | (with_reducible refine Below.setCell ?_ (by simp <;> omega) _) | (with_reducible refine below_alloc ?_ _))
theorem advance_ok (A : Option Addr) (n c : Nat) (p t m : Int) (w : World) (h0 : 0 ≤ p) (h1 : p ≤ n) (hn : n ≤ 4611686018427387904) (hm : 0 ≤ m) (hm1 : m ≤ n - p) :
    Calls Tryd.prog 64 #[.agg #[.slice A n c, .int .i64 p, .int .i64 0, .int .i64 t], .int .i64 m] w fun e w' => e = .returned (.tuple #[.agg #[.slice A n c, .int .i64 (p + m), .int .i64 0, .int .i64 t], .bool true]) ∧ Below w.heap.size w w' := by
  have HR := Aside0.mk (fun W => Rest_ok A n c p t W h0 h1 hn)
  have q1 : decide (m < 0) = false := decide_eq_false (by omega)
  have q2 : decide ((n : Int) - p < m) = false := decide_eq_false (by omega)
  go_enter Tryd.func64, Tryd.ntmps64
  go_wp2_with (go_at_call 26; refine (HR.out _).mono ?_; rintro e w1 ⟨rfl, hb⟩; have hc2 := fun j => hb.cell (p := ⟨w.heap.size, j, none⟩) (by simp <;> omega); have hf2 := fun j => hb.frozen (p := ⟨w.heap.size, j, none⟩) (by simp <;> omega); have hc4 := fun j => hb.cell (p := ⟨w.heap.size + 1, j, none⟩) (by simp <;> omega); have hf4 := fun j => hb.frozen (p := ⟨w.heap.size + 1, j, none⟩) (by simp <;> omega); have HB := Aside0.mk hb; clear hb)
  refine bodyPost_ret (v := .tuple #[.agg #[.slice A n c, .int .i64 (p + m), .int .i64 0, .int .i64 t], .bool true]) (by simp [results, Tryd.results64, go_sem, hc2, hc4]) rfl ⟨rfl, ?_⟩
  have hb1 := ((below_alloc (below_alloc (Below.refl w.heap.size w) _) _).trans (HB.out.mono (by simp <;> omega)))
  repeat (first | (with_reducible exact hb1) | (with_reducible refine pw_below_drewN ?_ _) | (with_reducible refine Below.drew ?_) | (with_reducible refine Below.setCell ?_ (by simp <;> omega) _) | (with_reducible refine below_alloc ?_ _))
set_option maxRecDepth 50000 in
set_option maxHeartbeats 4000000 in
theorem Take_ok (A : Option Addr) (c : Nat) (l : List Int) (p t m : Int) (w : World) (hA : Kd.C (Kd.int .u8) w A l.length l) (hlc : l.length ≤ c) (h0 : 0 ≤ p) (h1 : p ≤ l.length) (hn : l.length ≤ 140737488355328) (hm : 0 ≤ m) (hm1 : m ≤ l.length - p) :
    Calls Tryd.prog 28 #[.agg #[.slice A l.length c, .int .i64 p, .int .i64 0, .int .i64 t], .int .i64 m] w fun e w' => ∃ v, e = .returned (.tuple #[v, .agg #[.slice A l.length c, .int .i64 (p + m), .int .i64 0, .int .i64 t]]) ∧
      Kd.R (Kd.int .u8) 5 w' w.heap.size (fun _ => True) v ((l.drop p.toNat).take m.toNat) ∧ Below w.heap.size w w' := by
  have HR := Aside0.mk (fun W => advance_ok A l.length c p t m W h0 h1 (by omega) hm hm1)
  obtain ⟨i0, hi0, hz0, hz1, hz2⟩ := info_parts info5
  obtain ⟨A1, hcut, hread⟩ := run_cut_lh (P := Tryd.prog) (d := Kd.int .u8) 22 5 Tryd.underlying22 hi0 hz1 A l.length c p (p + m) h0 (by omega) (by omega) hlc
  have HA := Aside0.mk (hread w l rfl hA)
  clear hA hread
  go_enter Tryd.func28, Tryd.ntmps28
  go_wp2_with (go_at_call 64; refine (HR.out _).mono ?_; rintro e w1 ⟨rfl, hb⟩; have hc2 := fun j => hb.cell (p := ⟨w.heap.size, j, none⟩) (by simp <;> omega); have hf2 := fun j => hb.frozen (p := ⟨w.heap.size, j, none⟩) (by simp <;> omega); have hc4 := fun j => hb.cell (p := ⟨w.heap.size + 1, j, none⟩) (by simp <;> omega); have hf4 := fun j => hb.frozen (p := ⟨w.heap.size + 1, j, none⟩) (by simp <;> omega); have HB := Aside0.mk hb; clear hb)
  have hb0 := HB.out.size
  simp at hb0
  have k2 := blk_alloc (blk_below (blk_alloc (blk_new w (.cells #[.slice A l.length c, .int .i64 p, .int .i64 0, .int .i64 t] 25)) (.cells #[.slice none 0 0, .int .i64 0, .int .i64 0, .int .i64 0] 25)) HB.out) (.cells #[.slice A l.length c, .int .i64 (p + m), .int .i64 0, .int .i64 t] 25)
  have k5 := blk_alloc (blk_below (blk_new (w.alloc (.cells #[.slice A l.length c, .int .i64 p, .int .i64 0, .int .i64 t] 25)) (.cells #[.slice none 0 0, .int .i64 0, .int .i64 0, .int .i64 0] 25)) HB.out) (.cells #[.slice A l.length c, .int .i64 (p + m), .int .i64 0, .int .i64 t] 25)
  have k6 := blk_new w1 (.cells #[.slice A l.length c, .int .i64 (p + m), .int .i64 0, .int .i64 t] 25)
  have hsz := World.size_alloc w1 (.cells #[.slice A l.length c, .int .i64 (p + m), .int .i64 0, .int .i64 t] 25)
  have HA2 := Aside0.mk (Kd.C_below (Kd.C_below HA.out (below_alloc (below_alloc (Below.refl _ _) _) _)) HB.out)
  have HA3 := Aside0.mk (Kd.C_below HA2.out (below_alloc (Below.refl _ w1) (.cells #[.slice A l.length c, .int .i64 (p + m), .int .i64 0, .int .i64 t] 25)))
  clear hc2 hf2 hc4 hf4 HA HA2
  have HBW := Aside0.mk (below_alloc ((below_alloc (below_alloc (Below.refl _ w) _) _).trans (HB.out.mono (by simp <;> omega))) (.cells #[.slice A l.length c, .int .i64 (p + m), .int .i64 0, .int .i64 t] 25))
  rw [World.size_alloc] at k5
  obtain ⟨W, hW⟩ : ∃ W, w1.alloc (.cells #[.slice A l.length c, .int .i64 (p + m), .int .i64 0, .int .i64 t] 25) = W := ⟨_, rfl⟩
  rw [hW] at k2 k5 k6 hsz HA3 HBW ⊢
  clear hW
  have l2 : w.heap.size < W.heap.size := by omega
  have l5 : w.heap.size + 1 < W.heap.size := by omega
  have l6 : w1.heap.size < W.heap.size := by omega
  have c20 := (blk_cell k2 0)
  have c21 := (blk_cell k2 1)
  have c60 := (blk_cell k6 0)
  have c61 := (blk_cell k6 1)
  have c62 := (blk_cell k6 2)
  have c63 := (blk_cell k6 3)
  simp at c20 c21 c60 c61 c62 c63
  have K5 := Aside0.mk k5
  have HS := Aside0.mk hsz
  have HO := Aside0.mk (World.ownsRow_lit (base := W.heap.size) (e := 5) (size := 1) W #[] 0 (Nat.le_refl _) (by simp [maxLen]) rfl)
  have HR := Aside0.mk ((reads_of_int HA3.out).alloc (Nat.le_refl _) (.cells #[] 5))
  clear k2 k5 k6 hsz
  have hne1 : ¬ w1.heap.size = w.heap.size + 1 := by omega
  have hne2 : ¬ w.heap.size + 1 = w1.heap.size := by omega
  go_region_held3 (fun w' => w'.cell? ⟨w.heap.size, 0, none⟩ = some (.slice A l.length c) ∧ w'.cell? ⟨w.heap.size, 1, none⟩ = some (.int .i64 p) ∧
      w'.cell? ⟨w1.heap.size, 0, none⟩ = some (.slice A l.length c) ∧ w'.cell? ⟨w1.heap.size, 1, none⟩ = some (.int .i64 (p + m)) ∧ w'.cell? ⟨w1.heap.size, 2, none⟩ = some (.int .i64 0) ∧ w'.cell? ⟨w1.heap.size, 3, none⟩ = some (.int .i64 t))
    (first | (refine ⟨?_, ?_, ?_, ?_, ?_, ?_⟩ <;> (go_keep; done)) | (go_split_ands; refine ⟨?_, ?_, ?_, ?_, ?_, ?_⟩ <;> (rw [hg2.cell_far _ (by simp <;> omega) (by simp [Value.ownBlock] <;> omega)]; assumption)))
    ((refine step_append_any _ (by rfl) _ _ _ (by rfl) W.heap.size 5 i0 _ 1 1 Tryd.underlying22 hi0 hz0 hz1 hz2 rfl (by omega) (.slice (some ⟨W.heap.size, 0, none⟩) 0 0) 0 [] (by rfl) (by exact HO.out) W.heap.size A1 _ _ _ (by rfl) (by exact HR.out) (nums_one _) (by simp only [maxLen]; omega) (by omega) (by simp) ?_; intro v2 w2 hown2 hg2 hat2; have k5 := Aside0.mk (blk_grown (w1 := w2) (by exact blk_alloc K5.out _) hg2 (by simp [Value.ownBlock] <;> omega)); have e0 := blk_cell k5.out 0; have e1 := blk_cell k5.out 1; have e2 := blk_cell k5.out 2; have e3 := blk_cell k5.out 3; have f0 := blk_frozen k5.out 0; have f1 := blk_frozen k5.out 1; have f2 := blk_frozen k5.out 2; have f3 := blk_frozen k5.out 3; simp at e0 e1 e2 e3))
  go_wp2
  refine bodyPost_ret (v := .tuple #[v2, .agg #[.slice A l.length c, .int .i64 (p + m), .int .i64 0, .int .i64 t]]) (by simp [results, Tryd.results28, go_sem, e0, e1, e2, e3]) rfl ⟨v2, rfl, ?_, ?_⟩
  · have r1 : (Kd.int .u8).R 5 w2 W.heap.size (fun _ => True) v2 ((l.drop p.toNat).take ((p + m).toNat - p.toNat)) := R_of_nums (by simpa using hown2) (by simp; omega)
    rw [show (p + m).toNat - p.toNat = m.toNat from by omega] at r1
    exact R_set4 (Kd.R_lower r1 (by omega)) k5.out (by intro q hq; rcases List.mem_cons.1 hq with rfl | hq; decide; cases hq) _ _ _ _ _ _ _ _
  · have hb2 : Below w.heap.size w w2 := (((HBW.out.alloc (by omega) (.cells #[] 5))).drew).grown hg2 (by simp <;> omega) (by simp [Value.ownBlock] <;> omega)
    repeat (first | (with_reducible exact hb2) | (with_reducible refine Below.drew ?_) | (with_reducible refine Below.setCell ?_ (by simp <;> omega) _))
end Go.Proofs.YtkdhdhkfkgjcnaaDoor.PBlockRoundTrip
end

section
namespace Go.Proofs.YtkdhdhkfkgjcnaaDoor.PBlockRoundTrip
open Go.RowKit Go.Proofs.YtkdhdhkfkgjcnaaDoorW.PrintWords
set_option linter.unusedSimpArgs false
set_option linter.unusedVariables false

theorem infoB : (Tryd.prog.info? 4).map (fun i => (i.zero, i.size, i.bytes)) = some (some (.bool false), 1, 1) := by kernel_rfl

/-- The package-level variables that the calls read. -/
structure Gl (w : World) : Prop where
  f0 : w.cell? ⟨0, 0, none⟩ = some (.bool false)
  f1 : w.cell? ⟨0, 1, none⟩ = some (.bool true)
  er : w.cell? ⟨1, 0, none⟩ = some (.iface 130 (.agg #[.pointer (some ⟨2, 94, none⟩)]))
theorem Gl.below {w w1 : World} (h : Gl w) (hb : Below w.heap.size w w1) : Gl w1 :=
  ⟨pw_cell_below hb h.f0, pw_cell_below hb h.f1, pw_cell_below hb h.er⟩

/-- Bytes. -/
def Byt (l : List Int) : Prop := ∀ x ∈ l, 0 ≤ x ∧ x ≤ 255
theorem Byt.at {l : List Int} (h : Byt l) (i : Int) : 0 ≤ rd l i ∧ rd l i ≤ 255 := by
  unfold Go.Proofs.YtkdhdhkfkgjcnaaDoorW.PrintWords.rd
  rw [List.getD_eq_getElem?_getD]
  rcases h2 : l[i.toNat]? with _ | x
  · exact ⟨by simp, by simp⟩
  · exact h x (List.mem_of_getElem? h2)
theorem Byt.drop {l : List Int} (h : Byt l) (n : Nat) : Byt (l.drop n) := fun x hx => h x (List.mem_of_mem_drop hx)
theorem Byt.take {l : List Int} (h : Byt l) (n : Nat) : Byt (l.take n) := fun x hx => h x (List.mem_of_mem_take hx)
theorem take_rd (l : List Int) (k : Nat) (hk : k < l.length) : l.take (k + 1) = l.take k ++ [rd l k] := by
  rw [List.take_succ_eq_append_getElem hk]
  simp [Go.Proofs.YtkdhdhkfkgjcnaaDoorW.PrintWords.rd, List.getD_eq_getElem?_getD, List.getElem?_eq_getElem hk]

theorem rd_get (l : List Int) (k : Nat) (hk : k < l.length) : rd l k = l[k] := by
  simp [Go.Proofs.YtkdhdhkfkgjcnaaDoorW.PrintWords.rd, List.getD_eq_getElem?_getD, List.getElem?_eq_getElem hk]
/-- The flags of a list of bytes. -/
def flagsOf (l : List Int) : List Bool := l.map fun x => decide (x = 1)
/-- Every byte is 0 or 1. -/
def Flags (l : List Int) : Prop := ∀ x ∈ l, x ≤ 1

set_option maxRecDepth 50000 in
set_option maxHeartbeats 4000000 in
theorem IDecode_c (A : Option Addr) (c : Nat) (l : List Int) (w : World) (hA : Kd.C (Kd.int .u8) w A l.length l) (hn : l.length ≤ 140737488355328) (hB : Byt l) (hG : Gl w) :
    Calls Tryd.prog 32 #[.slice A l.length c] w fun e w' => (∃ v, Flags l ∧ e = .returned (.tuple #[v, .bool true]) ∧ Kd.R Kd.bool 4 w' w.heap.size (fun _ => True) v (flagsOf l) ∧ Below w.heap.size w w') ∨
      (¬ Flags l ∧ e = .returned (.tuple #[.slice none 0 0, .bool false]) ∧ Below w.heap.size w w') := by
  have HA := Aside0.mk hA
  have HY := Aside0.mk hB
  have HG := Aside0.mk hG
  clear hA hB hG
  go_enter Tryd.func32, Tryd.ntmps32
  go_wp2
  go_loopw [4, 9] (fun v i wr => ∃ k : Nat, k ≤ l.length ∧ i = .int .i64 k ∧ Aside0 (Flags (l.take k)) ∧ Aside0 (Kd.R Kd.bool 4 wr w.heap.size (fun _ => True) v (flagsOf (l.take k))) ∧ Aside0 (Below w.heap.size w wr)) (fun _ i _ => l.length - (intOf i).toNat)
  case atStart => exact ⟨0, by omega, rfl, ⟨by intro x hx; simp at hx⟩, ⟨Kd.R_nil _ _ _ _ _⟩, ⟨Below.refl _ _⟩⟩
  case round =>
    obtain ⟨k, hk, rfl, HF, HR, HB⟩ := hrel
    by_cases hlt : k < l.length
    · obtain ⟨ad, rfl, hc⟩ := Kd.at_int (Kd.C_below HA.out HB.out) (k : Int) (by omega) (by omega)
      rw [Int.toNat_natCast] at hc
      obtain ⟨b0, b1⟩ := HY.out.at (k : Int)
      by_cases hb : rd l k ≤ 1
      · have g := HG.out.below HB.out
        have hcf : wr.cell? ⟨0, (rd l k).toNat, none⟩ = some (.bool (decide (rd l k = 1))) := by
          rcases (by omega : rd l k = 0 ∨ rd l k = 1) with h | h
          · rw [h]; exact g.f0
          · rw [h]; exact g.f1
        clear g
        go_wp2_with (at_builtin; refine Kd.R_append Kd.bool (w0 := w) w.heap.size rfl (.tmp 16) (.tmp 20) 32 4 (.bool false) 1 rfl Tryd.underlying32 infoB rfl (by decide) (by omega) u4 (flagsOf (l.take k)) (decide (rd l k = 1)) [.bool (decide (rd l k = 1))] (fun _ => True) (fun _ => False) rfl rfl ?aP (fun _ hk => hk.elim) ?aF ?aO ?aB ?aS ?aL ?_; (case aP => exact rfl); (case aF => exact (fun _ _ => trivial)); (case aO => exact HR.out); (case aB => exact HB.out); (case aS => exact HB.out.size); (case aL => simp [flagsOf]; omega); intro v1 w1 hr1 hb1 hg1 hat1)
        go_roundw
        case rel => exact ⟨k + 1, by omega, by go_num, ⟨by rw [take_rd l k hlt]; intro x hx; rcases List.mem_append.1 hx with h | h; exact HF.out x h; obtain rfl := List.mem_singleton.1 h; exact hb⟩, ⟨by rw [take_rd l k hlt]; simpa [flagsOf] using hr1⟩, ⟨hb1⟩⟩
        case measure => simp [intOf]; omega
      · have HNF : Aside0 (¬ Flags l) := ⟨fun h => hb (h _ (by rw [rd_get l k hlt]; exact List.getElem_mem hlt))⟩
        go_wp2
        go_ret2
        exact Or.inr ⟨HNF.out, rfl, HB.out⟩
    · obtain rfl : k = l.length := by omega
      have HF2 := HF.out
      have HR2 := HR.out
      rw [List.take_length] at HF2 HR2
      have HF3 := Aside0.mk HF2
      have HR3 := Aside0.mk HR2
      clear HF2 HR2
      go_wp2
      go_ret2
      exact Or.inl ⟨_, HF3.out, rfl, HR3.out, HB.out⟩
end Go.Proofs.YtkdhdhkfkgjcnaaDoor.PBlockRoundTrip
end

section
namespace Go.Proofs.YtkdhdhkfkgjcnaaDoor.PBlockRoundTrip
open Go.RowKit Go.Proofs.YtkdhdhkfkgjcnaaDoorW.PrintWords Go.Proofs.YtkdhdhkfkgjcnaaDoorW.PrintMore
set_option linter.unusedSimpArgs false
set_option linter.unusedVariables false

/-- The value of n bytes from off on. -/
def beV (l : List Int) (off : Nat) : Nat → Int
  | 0 => 0
  | n + 1 => beV l off n * 256 + rd l (off + n : Nat)
theorem beV_bd {l : List Int} (h : Byt l) (off n : Nat) : 0 ≤ beV l off n ∧ beV l off n < 256 ^ n := by
  induction n with
  | zero => exact ⟨Int.le_refl _, by simp [beV]⟩
  | succ n ih =>
    obtain ⟨a, b⟩ := h.at (off + n : Nat)
    simp only [beV]
    rw [Int.pow_succ]
    omega
theorem pow256 (n : Nat) (hn : n ≤ 7) : (256 : Int) ^ n ≤ 72057594037927936 := by
  rcases (by omega : n = 0 ∨ n = 1 ∨ n = 2 ∨ n = 3 ∨ n = 4 ∨ n = 5 ∨ n = 6 ∨ n = 7) with h | h | h | h | h | h | h | h <;> subst h <;> decide
theorem or_byte (v b : Int) (h0 : 0 ≤ v) (h1 : v < 72057594037927936) (h2 : 0 ≤ b) (h3 : b ≤ 255) : Go.bits .or .u64 (IntKind.u64.wrap (v * 256)) (IntKind.u64.wrap b) = v * 256 + b := by
  obtain ⟨V, rfl⟩ := Int.eq_ofNat_of_zero_le h0
  obtain ⟨B, rfl⟩ := Int.eq_ofNat_of_zero_le h2
  rw [IntKind.wrap_u64, IntKind.wrap_u64]
  rw [show ((V : Int) * 256) % 18446744073709551616 = ((V * 256 : Nat) : Int) from by omega, show (B : Int) % 18446744073709551616 = (B : Int) from by omega]
  rw [u64_or_nat _ _ (by omega) (by omega)]
  have e : V * 256 ||| B = V * 256 + B := by
    have := Nat.shiftLeft_add_eq_or_of_lt (i := 8) (b := B) (by omega) V
    rw [Nat.shiftLeft_eq] at this
    exact this.symm
  rw [e]; omega

theorem uint_l0 {l : List Int} (h : Byt l) (off n : Nat) (hl : off + n ≤ l.length) (hn : n ≤ 8) (hm : l.length ≤ 140737488355328) (d : Nat) : ∀ (i k : Nat), i + d = n → d < k → bigendian_Uint.l0 k l off (beV l off i) n i = some (beV l off n, true) := by
  induction d with
  | zero =>
    intro i k hi hk
    obtain ⟨k, rfl⟩ : ∃ m, k = m + 1 := ⟨k - 1, by omega⟩
    obtain rfl : i = n := by omega
    simp only [bigendian_Uint.l0]
    rw [if_neg (by omega)]
  | succ d ih =>
    intro i k hi hk
    obtain ⟨k, rfl⟩ : ∃ m, k = m + 1 := ⟨k - 1, by omega⟩
    simp only [bigendian_Uint.l0]
    have e1 : wrap64 ((off : Int) + i) = ((off + i : Nat) : Int) := by unfold wrap64; omega
    have e2 : wrap64 ((i : Int) + 1) = ((i + 1 : Nat) : Int) := by unfold wrap64; omega
    obtain ⟨b0, b1⟩ := h.at (off + i : Nat)
    obtain ⟨v0, v1⟩ := beV_bd h off i
    have v2 := pow256 i (by omega)
    rw [if_pos (by omega), e1, if_pos (by omega), if_pos (by omega), or_byte _ _ v0 (by omega) b0 b1, e2]
    exact ih (i + 1) k (by omega) (by omega)
theorem uint_f {l : List Int} (h : Byt l) (off n : Nat) (hl : off + n ≤ l.length) (hn : n ≤ 8) (hm : l.length ≤ 140737488355328) (k : Nat) (hk : 10 ≤ k) : bigendian_Uint.f k l off n = some (beV l off n, true) := by
  unfold bigendian_Uint.f
  have e1 : wrap64 ((l.length : Int) - off) = (l.length : Int) - off := by unfold wrap64; omega
  rw [if_neg (by omega), if_neg (by omega), e1, decide_eq_false (by omega)]
  obtain ⟨k, rfl⟩ : ∃ m, k = m + 1 := ⟨k - 1, by omega⟩
  simp only [bigendian_Uint.j0]
  exact uint_l0 h off n hl hn hm n 0 k (by omega) (by omega)

/-- A number's signed reading at n bytes (4 or 8). -/
def sx (n : Nat) (v : Int) : Int := if n = 4 then (if v < 2147483648 then v else v - 4294967296) else wrap64 v
theorem sx4 (v : Int) (h0 : 0 ≤ v) (h1 : v < 4294967296) : wrap64 ((v * 4294967296) % 18446744073709551616) / 4294967296 = if v < 2147483648 then v else v - 4294967296 := by
  unfold wrap64
  split <;> omega
theorem sx8 (v : Int) (h0 : 0 ≤ v) (h1 : v < 18446744073709551616) : wrap64 ((v * 1) % 18446744073709551616) / 1 = wrap64 v := by
  unfold wrap64
  omega
theorem sh4 : IntKind.u64.wrap (wrap64 (64 - wrap64 (8 * ((4 : Nat) : Int)))) = 32 := by
  rw [IntKind.wrap_u64]; unfold wrap64; omega
theorem sh8 : IntKind.u64.wrap (wrap64 (64 - wrap64 (8 * ((8 : Nat) : Int)))) = 0 := by
  rw [IntKind.wrap_u64]; unfold wrap64; omega
theorem p32 : (2 : Int) ^ 32 = 4294967296 := by decide
theorem p0 : (2 : Int) ^ 0 = 1 := by decide
theorem q4 : (256 : Int) ^ 4 = 4294967296 := by decide
theorem q8 : (256 : Int) ^ 8 = 18446744073709551616 := by decide
theorem mn1 : min (32 : Int).toNat IntKind.u64.bits = 32 := by decide
theorem mn2 : min (32 : Int).toNat IntKind.i64.bits = 32 := by decide
theorem mn3 : min (0 : Int).toNat IntKind.u64.bits = 0 := by decide
theorem mn4 : min (0 : Int).toNat IntKind.i64.bits = 0 := by decide
theorem ss4 (v : Int) (h0 : 0 ≤ v) (h1 : v < 4294967296) : shr .i64 (wrap64 (shl .u64 v 32)) 32 = if v < 2147483648 then v else v - 4294967296 := by
  unfold shl shr
  rw [mn1, mn2, IntKind.wrap_u64, p32]
  exact sx4 v h0 h1
theorem ss8 (v : Int) (h0 : 0 ≤ v) (h1 : v < 18446744073709551616) : shr .i64 (wrap64 (shl .u64 v 0)) 0 = wrap64 v := by
  unfold shl shr
  rw [mn3, mn4, IntKind.wrap_u64, p0]
  exact sx8 v h0 h1
theorem int_f4 {l : List Int} (h : Byt l) (off : Nat) (hl : off + 4 ≤ l.length) (hm : l.length ≤ 140737488355328) (k : Nat) (hk : 10 ≤ k) : bigendian_Int.f k l off 4 = some (sx 4 (beV l off 4), true) := by
  unfold bigendian_Int.f
  have e := uint_f h off 4 hl (by omega) hm k hk
  obtain ⟨v0, v1⟩ := beV_bd h off 4
  rw [q4] at v1
  generalize beV l off 4 = v at *
  rw [show ((4 : Nat) : Int) = 4 from rfl] at e
  rw [e]
  simp only [Option.bind_some]
  have s := sh4
  rw [show ((4 : Nat) : Int) = 4 from rfl] at s
  rw [s, if_pos (by omega), ss4 v v0 v1]
  unfold sx
  rw [if_pos rfl]
theorem int_f8 {l : List Int} (h : Byt l) (off : Nat) (hl : off + 8 ≤ l.length) (hm : l.length ≤ 140737488355328) (k : Nat) (hk : 10 ≤ k) : bigendian_Int.f k l off 8 = some (sx 8 (beV l off 8), true) := by
  unfold bigendian_Int.f
  have e := uint_f h off 8 hl (by omega) hm k hk
  obtain ⟨v0, v1⟩ := beV_bd h off 8
  rw [q8] at v1
  generalize beV l off 8 = v at *
  rw [show ((8 : Nat) : Int) = 8 from rfl] at e
  rw [e]
  simp only [Option.bind_some]
  have s := sh8
  rw [show ((8 : Nat) : Int) = 8 from rfl] at s
  rw [s, if_pos (by omega), ss8 v v0 v1]
  unfold sx
  rw [if_neg (by omega)]
end Go.Proofs.YtkdhdhkfkgjcnaaDoor.PBlockRoundTrip
end

section
namespace Go.Proofs.YtkdhdhkfkgjcnaaDoor.PBlockRoundTrip
open Go.RowKit Go.Proofs.YtkdhdhkfkgjcnaaDoorW.PrintWords
set_option linter.unusedSimpArgs false
set_option linter.unusedVariables false

set_option maxRecDepth 50000 in
set_option maxHeartbeats 4000000 in
theorem Join_one (g : Nat) (x : Int) (w : World) (hc : w.cell? ⟨g, 0, none⟩ = some (.iface 97 (.int .u8 x))) :
    Calls Tryd.prog 76 #[.slice (some ⟨g, 0, none⟩) 1 1] w fun e w' => ∃ b h, e = .returned (.iface 126 (.pointer (some ⟨b, 0, none⟩))) ∧
      w'.heap[b]? = some (.cells #[.slice (some ⟨h, 0, none⟩) 1 1] 128 (0, 0)) ∧ w'.cell? ⟨h, 0, none⟩ = some (.iface 97 (.int .u8 x)) ∧ w.heap.size ≤ b ∧ Below w.heap.size w w' := by
  have hmk : ∀ W : World, (Instr.makeSlice 125 (.int .i64 0) (.int .i64 1)).run Tryd.prog W = .ok (.slice (some ⟨W.heap.size, 0, none⟩) 0 1) (W.alloc (.cells #[.nilIface] 94)) := fun _ => by kernel_rfl
  have hlt : g < w.heap.size := World.block_lt_of_cell? w _ hc
  go_enter Tryd.func76, Tryd.ntmps76
  go_wp2
  refine wp_loop_rounds 2 ?_
  rw [rounds_succ]
  go_wp2
  rw [rounds_succ]
  go_wp2
  refine wp_loop_rounds 2 ?_
  rw [rounds_succ]
  go_wp2
  rw [rounds_succ]
  go_wp2
  go_ret
  refine ⟨w.heap.size + 1, w.heap.size, rfl, ?_, ?_, by omega, ?_⟩
  · have h := blk_alloc (blk_new (w.alloc (.cells #[.iface 97 (.int .u8 x)] 94)) (.cells #[.slice (some ⟨w.heap.size, 0, none⟩) 1 1] 128)) (.cells #[.iface 97 (.int .u8 x)] 94)
    rw [World.size_alloc] at h
    exact h
  · exact (blk_cell (blk_alloc (blk_alloc (blk_new w (.cells #[.iface 97 (.int .u8 x)] 94)) (.cells #[.slice (some ⟨w.heap.size, 0, none⟩) 1 1] 128)) (.cells #[.iface 97 (.int .u8 x)] 94)) 0).trans rfl
  · exact below_alloc (below_alloc (below_alloc (Below.refl _ _) _) _) _
end Go.Proofs.YtkdhdhkfkgjcnaaDoor.PBlockRoundTrip
end

section
namespace Go.Proofs.YtkdhdhkfkgjcnaaDoor.PBlockRoundTrip
open Go.RowKit Go.Extern.Stop Go.Stop Go.Extern Go.Proofs.YtkdhdhkfkgjcnaaDoorW.PrintWords
set_option linter.unusedSimpArgs false
set_option linter.unusedVariables false

/-! Closed facts on the model's entries for internal/reflectlite at this program's types. -/
theorem e_valueOf (t : Addr) (w : World) : (ReflectliteValue.unpack (.iface 99 (.pointer (some t)))).run Tryd.prog w
    = .ok (.agg #[.pointer (some ⟨2, 99, none⟩), .pointer (some ⟨w.heap.size, 0, none⟩), .int .u64 150]) (w.alloc (.cells #[.pointer (some t)] 99)) := by kernel_rfl
theorem e_type (a : Addr) (w : World) : (ReflectliteValue.methodAny (ReflectliteValue.valueError "reflectlite.Value.Type" 0) (fun t _ _ _ => ReflectliteType.toType t) #[.agg #[.pointer (some ⟨2, 99, none⟩), .pointer (some a), .int .u64 150]]).run Tryd.prog w
    = .ok (.iface 130 (.agg #[.pointer (some ⟨2, 99, none⟩)])) w := by kernel_rfl
theorem e_kind1 (w : World) : ((ReflectliteType.abiMethod fun t => (fun a : Nat => Value.int IntKind.u8 (a : Int)) <$> Rtype.kind t) #[.pointer (some ⟨2, 99, none⟩)]).run Tryd.prog w = .ok (.int .u8 22) w := by kernel_rfl
theorem e_kind2 (w : World) : ((ReflectliteType.abiMethod fun t => (fun a : Nat => Value.int IntKind.u8 (a : Int)) <$> Rtype.kind t) #[.pointer (some ⟨2, 97, none⟩)]).run Tryd.prog w = .ok (.int .u8 8) w := by kernel_rfl
theorem rlm (z : Sem Value) (f : TypeId → Addr → Nat → Nat → Sem Value) (v : Value) :
    ReflectliteValue.method z f #[v] = (do match ← ReflectliteValue.parts v with | none => z | some (t, a, fl) => f t a fl (fl % 32)) := rfl
theorem e_parts (a : Addr) (w : World) : (ReflectliteValue.parts (.agg #[.pointer (some ⟨2, 99, none⟩), .pointer (some a), .int .u64 150])).run Tryd.prog w = .ok (some (99, a, 150)) w := by kernel_rfl
theorem e_isNil (a p : Addr) (W : World) (ha : W.cell? a = some (.pointer (some p))) :
    (ReflectliteValue.method (ReflectliteValue.valueError "reflectlite.Value.IsNil" 0) ReflectliteValue.isNil #[.agg #[.pointer (some ⟨2, 99, none⟩), .pointer (some a), .int .u64 150]]).run Tryd.prog W = .ok (.bool false) W := by
  rw [rlm]
  simp only [Sem.run_bind, e_parts, Result.andThen]
  simp [ReflectliteValue.isNil, loadVar, isAgg, underlying, Tryd.underlying99, ha, Result.andThen]
theorem e_elem (w : World) : (ReflectliteType.method ReflectliteType.elem #[.agg #[.pointer (some ⟨2, 99, none⟩)]]).run Tryd.prog w = .ok (.iface 130 (.agg #[.pointer (some ⟨2, 97, none⟩)])) w := by kernel_rfl
theorem e_impl (w : World) : (ReflectliteType.relation "Implements" ReflectliteType.implements_ #[.agg #[.pointer (some ⟨2, 97, none⟩)], .iface 130 (.agg #[.pointer (some ⟨2, 94, none⟩)])]).run Tryd.prog w = .ok (.bool true) w := by kernel_rfl
theorem e_typeOf1 (v : Value) (w : World) : (ReflectliteType.typeOf #[.iface 97 v]).run Tryd.prog w = .ok (.iface 130 (.agg #[.pointer (some ⟨2, 97, none⟩)])) w := by kernel_rfl
theorem e_typeOf2 (v : Value) (w : World) : (ReflectliteType.typeOf #[.iface 126 v]).run Tryd.prog w = .ok (.iface 130 (.agg #[.pointer (some ⟨2, 126, none⟩)])) w := by kernel_rfl
theorem e_asg1 (w : World) : (ReflectliteType.relation "AssignableTo" ReflectliteType.assignableTo #[.agg #[.pointer (some ⟨2, 97, none⟩)], .iface 130 (.agg #[.pointer (some ⟨2, 97, none⟩)])]).run Tryd.prog w = .ok (.bool true) w := by kernel_rfl
theorem e_asg2 (w : World) : (ReflectliteType.relation "AssignableTo" ReflectliteType.assignableTo #[.agg #[.pointer (some ⟨2, 126, none⟩)], .iface 130 (.agg #[.pointer (some ⟨2, 97, none⟩)])]).run Tryd.prog w = .ok (.bool false) w := by kernel_rfl
theorem e_valueOf1 (x : Int) (w : World) : (ReflectliteValue.unpack (.iface 97 (.int .u8 x))).run Tryd.prog w
    = .ok (.agg #[.pointer (some ⟨2, 97, none⟩), .pointer (some ⟨w.heap.size, 0, none⟩), .int .u64 136]) (w.alloc (.cells #[.int .u8 x] 97)) := by kernel_rfl
theorem e_elemOf (w : World) : (Rtype.elem? 99).run Tryd.prog w = .ok (some 97) w := by kernel_rfl
theorem e_mk (p : Addr) (w : World) : (ReflectliteValue.mk 97 p ReflectliteValue.flagAddr).run Tryd.prog w = .ok (.agg #[.pointer (some ⟨2, 97, none⟩), .pointer (some p), .int .u64 392]) w := by kernel_rfl
theorem e_elemV (a p : Addr) (W : World) (ha : W.cell? a = some (.pointer (some p))) :
    (ReflectliteValue.method (ReflectliteValue.valueError "reflectlite.Value.Elem" 0) ReflectliteValue.elem #[.agg #[.pointer (some ⟨2, 99, none⟩), .pointer (some a), .int .u64 150]]).run Tryd.prog W
      = .ok (.agg #[.pointer (some ⟨2, 97, none⟩), .pointer (some p), .int .u64 392]) W := by
  rw [rlm]
  simp only [Sem.run_bind, e_parts, Result.andThen]
  simp [ReflectliteValue.elem, loadVar, isAgg, underlying, Tryd.underlying99, ha, Result.andThen, e_elemOf, e_mk]
theorem rls (v x : Value) : ReflectliteValue.set #[v, x] = (do
    let (some (dst, a, fl), some (src, b, _)) := (← ReflectliteValue.parts v, ← ReflectliteValue.parts x)
      | unsupported (.noEntry "extern/(internal/reflectlite.Value).Set.zeroValue")
    if fl / ReflectliteValue.flagAddr % 2 == 0 then unsupported (.noEntry "extern/(internal/reflectlite.Value).Set.unaddressable")
    let val ← loadVar src b
    if ← Rtype.directlyAssignable dst src then storeVar dst a val
    else if ← Rtype.implements dst src then
      if (← Rtype.kind src) == 20 then
        match val with
        | .nilIface => unsupported (.noEntry "extern/reflectlite: a nil value of one interface type handed on as a value of another")
        | _ => storeVar dst a val
      else storeVar dst a (.iface src val)
    else panicString ("reflectlite.Set: value of type " ++ (← Rtype.spelt src) ++ " is not assignable to type " ++ (← Rtype.spelt dst))
    pure (.tuple #[])) := rfl
theorem e_parts1 (a : Addr) (w : World) : (ReflectliteValue.parts (.agg #[.pointer (some ⟨2, 97, none⟩), .pointer (some a), .int .u64 392])).run Tryd.prog w = .ok (some (97, a, 392)) w := by kernel_rfl
theorem e_parts2 (a : Addr) (w : World) : (ReflectliteValue.parts (.agg #[.pointer (some ⟨2, 97, none⟩), .pointer (some a), .int .u64 136])).run Tryd.prog w = .ok (some (97, a, 136)) w := by kernel_rfl
theorem e_direct (w : World) : (Rtype.directlyAssignable 97 97).run Tryd.prog w = .ok true w := by kernel_rfl
theorem e_set (ta b : Addr) (x : Int) (old : Value) (W : World) (hb : W.cell? b = some (.int .u8 x)) (ht : W.cell? ta = some old) (hf : W.frozen? ta = false) :
    (ReflectliteValue.set #[.agg #[.pointer (some ⟨2, 97, none⟩), .pointer (some ta), .int .u64 392], .agg #[.pointer (some ⟨2, 97, none⟩), .pointer (some b), .int .u64 136]]).run Tryd.prog W
      = .ok (.tuple #[]) (W.setCell ta (.int .u8 x)) := by
  rw [rls]
  simp only [Sem.run_bind, e_parts1, e_parts2, Result.andThen]
  simp [ReflectliteValue.flagAddr, loadVar, isAgg, underlying, Tryd.underlying97, hb, Result.andThen, e_direct, storeVar, Value.cells, storeCells, Addr.add]
  rw [run_store Tryd.prog W ta _ _ (by rfl)]
  simp [ht, hf]
theorem e_mAsg (h : Value) (w : World) : (Go.method 271 130 (.agg #[h]) "AssignableTo").run Tryd.prog w = .ok (112, .agg #[h]) w := by kernel_rfl
theorem e_mKind (h : Value) (w : World) : (Go.method 271 130 (.agg #[h]) "Kind").run Tryd.prog w = .ok (102, h) w := by kernel_rfl
theorem e_mElem (h : Value) (w : World) : (Go.method 271 130 (.agg #[h]) "Elem").run Tryd.prog w = .ok (114, .agg #[h]) w := by kernel_rfl
theorem e_mImpl (h : Value) (w : World) : (Go.method 271 130 (.agg #[h]) "Implements").run Tryd.prog w = .ok (115, .agg #[h]) w := by kernel_rfl
theorem e_mUnw (a : Addr) (w : World) : (Go.method 271 126 (.pointer (some a)) "Unwrap").run Tryd.prog w = .ok (110, .pointer (some a)) w := by kernel_rfl
end Go.Proofs.YtkdhdhkfkgjcnaaDoor.PBlockRoundTrip
end

section
namespace Go.Proofs.YtkdhdhkfkgjcnaaDoor.PBlockRoundTrip
open Go.RowKit Go.Extern.Stop Go.Stop Go.Extern Go.Proofs.YtkdhdhkfkgjcnaaDoorW.PrintWords
set_option linter.unusedSimpArgs false
set_option linter.unusedVariables false

theorem e_ta1 (v : Value) (w : World) : (Instr.typeAssert (.iface 126 v) 94 135 true).run Tryd.prog w = .ok (.tuple #[.nilIface, .bool false]) w := run_typeAssert_lacksB Tryd.underlying135 (by kernel_rfl) (by kernel_rfl) v 94 w
theorem e_ta2 (v : Value) (w : World) : (Instr.typeAssert (.iface 126 v) 94 138 true).run Tryd.prog w = .ok (.tuple #[.nilIface, .bool false]) w := run_typeAssert_lacksB Tryd.underlying138 (by kernel_rfl) (by kernel_rfl) v 94 w
theorem e_ta3 (v : Value) (w : World) : (Instr.typeAssert (.iface 126 v) 94 140 true).run Tryd.prog w = .ok (.tuple #[.iface 126 v, .bool true]) w := run_typeAssert_hasB Tryd.underlying140 (by kernel_rfl) v 94 w

set_option maxRecDepth 50000 in
set_option maxHeartbeats 4000000 in
theorem as_hit (x : Int) (t va : Addr) (old : Value) (w : World) (hv : w.cell? va = some (.pointer (some t))) (ht0 : w.cell? t = some old) (hf0 : w.frozen? t = false) :
    Calls Tryd.prog 80 #[.iface 97 (.int .u8 x), .iface 99 (.pointer (some t)), .agg #[.pointer (some ⟨2, 99, none⟩), .pointer (some va), .int .u64 150], .iface 130 (.agg #[.pointer (some ⟨2, 97, none⟩)])] w fun e w' =>
      e = .returned (.bool true) ∧ ∃ w1, Below w.heap.size w w1 ∧ w' = w1.setCell t (.int .u8 x) := by
  have h77 := @run_callFunc_extern Tryd.prog 77 _ (fun args => ReflectliteValue.unpack (args.getD 0 (.tuple #[]))) Tryd.func77 (by kernel_rfl) (by kernel_rfl) (by kernel_rfl) (by kernel_rfl)
  have h85 := @run_callFunc_extern Tryd.prog 85 _ ReflectliteType.typeOf Tryd.func85 (by kernel_rfl) (by kernel_rfl) (by kernel_rfl) (by kernel_rfl)
  have h112 := @run_callFunc_extern Tryd.prog 112 _ (ReflectliteType.relation "AssignableTo" ReflectliteType.assignableTo) Tryd.func112 (by kernel_rfl) (by kernel_rfl) (by kernel_rfl) (by kernel_rfl)
  have h86 := @run_callFunc_extern Tryd.prog 86 _ (ReflectliteValue.method (ReflectliteValue.valueError "reflectlite.Value.Elem" 0) ReflectliteValue.elem) Tryd.func86 (by kernel_rfl) (by kernel_rfl) (by kernel_rfl) (by kernel_rfl)
  have h87 := @run_callFunc_extern Tryd.prog 87 _ ReflectliteValue.set Tryd.func87 (by kernel_rfl) (by kernel_rfl) (by kernel_rfl) (by kernel_rfl)
  have q1 := e_typeOf1
  have q2 := e_asg1
  have q3 := e_valueOf1
  have q4 := e_mAsg
  have hvl := World.block_lt_of_cell? w _ hv
  have htl := World.block_lt_of_cell? w _ ht0
  have el := e_elemV va t (w.alloc (.cells #[.pointer (some ⟨2, 99, none⟩), .pointer (some va), .int .u64 150] 111)) (by rw [World.cell?_alloc_lt _ _ va hvl]; exact hv)
  have st := e_set t ⟨w.heap.size + 1, 0, none⟩ x old ((w.alloc (.cells #[.pointer (some ⟨2, 99, none⟩), .pointer (some va), .int .u64 150] 111)).alloc (.cells #[.int .u8 x] 97)) (by rw [World.cell?_alloc_at _ _ _ _ (by simp)]; rfl)
    (by rw [World.cell?_alloc_lt _ _ t (by simp; omega), World.cell?_alloc_lt _ _ t htl]; exact ht0)
    (by rw [World.frozen?_alloc_old _ _ t (by simp; omega), World.frozen?_alloc_old _ _ t (Nat.ne_of_lt htl)]; exact hf0)
  go_enter Tryd.func80, Tryd.ntmps80
  go_wp2
  refine wp_loop_rounds 1 ?_
  rw [rounds_succ]
  go_wp2
  go_ret
  exact ⟨rfl, _, below_alloc (below_alloc (Below.refl _ _) _) _, rfl⟩

theorem unwrap_c (b h : Nat) (w : World) (hb : w.cell? ⟨b, 0, none⟩ = some (.slice (some ⟨h, 0, none⟩) 1 1)) :
    Calls Tryd.prog 110 #[.pointer (some ⟨b, 0, none⟩)] w fun e w' => e = .returned (.slice (some ⟨h, 0, none⟩) 1 1) ∧ w = w' := by
  go_enter Tryd.func110, Tryd.ntmps110
  go_wp2
  go_ret
  exact ⟨rfl, rfl⟩
set_option maxRecDepth 50000 in
set_option maxHeartbeats 4000000 in
theorem as_join (x : Int) (b h : Nat) (t va : Addr) (old : Value) (w : World) (hb : w.heap[b]? = some (.cells #[.slice (some ⟨h, 0, none⟩) 1 1] 128 (0, 0))) (hh : w.cell? ⟨h, 0, none⟩ = some (.iface 97 (.int .u8 x)))
    (hv : w.cell? va = some (.pointer (some t))) (ht0 : w.cell? t = some old) (hf0 : w.frozen? t = false) :
    Calls Tryd.prog 80 #[.iface 126 (.pointer (some ⟨b, 0, none⟩)), .iface 99 (.pointer (some t)), .agg #[.pointer (some ⟨2, 99, none⟩), .pointer (some va), .int .u64 150], .iface 130 (.agg #[.pointer (some ⟨2, 97, none⟩)])] w fun e w' =>
      e = .returned (.bool true) ∧ ∃ w1, Below w.heap.size w w1 ∧ w' = w1.setCell t (.int .u8 x) := by
  have h85 := @run_callFunc_extern Tryd.prog 85 _ ReflectliteType.typeOf Tryd.func85 (by kernel_rfl) (by kernel_rfl) (by kernel_rfl) (by kernel_rfl)
  have h112 := @run_callFunc_extern Tryd.prog 112 _ (ReflectliteType.relation "AssignableTo" ReflectliteType.assignableTo) Tryd.func112 (by kernel_rfl) (by kernel_rfl) (by kernel_rfl) (by kernel_rfl)
  have q1 := e_typeOf2
  have q2 := e_asg2
  have q4 := e_mAsg
  have q5 := e_mUnw
  have q6 := e_ta1
  have q7 := e_ta2
  have q8 := e_ta3
  have hvl := World.block_lt_of_cell? w _ hv
  have htl := World.block_lt_of_cell? w _ ht0
  have hbl := blk_lt hb
  have hhl : h < w.heap.size := World.block_lt_of_cell? w _ hh
  have hb0 := blk_cell hb 0
  simp at hb0
  clear hb
  have b1 : (w.alloc (.cells #[.pointer (some ⟨2, 99, none⟩), .pointer (some va), .int .u64 150] 111)).cell? ⟨b, 0, none⟩ = some (.slice (some ⟨h, 0, none⟩) 1 1) := by rw [World.cell?_alloc_lt _ _ _ hbl]; exact hb0
  have v1 : (w.alloc (.cells #[.pointer (some ⟨2, 99, none⟩), .pointer (some va), .int .u64 150] 111)).cell? va = some (.pointer (some t)) := by rw [World.cell?_alloc_lt _ _ _ hvl]; exact hv
  have t1 : (w.alloc (.cells #[.pointer (some ⟨2, 99, none⟩), .pointer (some va), .int .u64 150] 111)).cell? t = some old := by rw [World.cell?_alloc_lt _ _ _ htl]; exact ht0
  have f1 : (w.alloc (.cells #[.pointer (some ⟨2, 99, none⟩), .pointer (some va), .int .u64 150] 111)).frozen? t = false := by rw [World.frozen?_alloc_old _ _ t (Nat.ne_of_lt htl)]; exact hf0
  have HU := Aside0.mk (unwrap_c b h _ b1)
  have HH := Aside0.mk (as_hit x t va old _ v1 t1 f1)
  clear b1 v1 t1 f1
  go_enter Tryd.func80, Tryd.ntmps80
  go_wp2_with (fail)
  refine wp_loop_rounds 1 ?_
  rw [rounds_succ]
  go_wp2_with (go_at_call 110; refine HU.out.mono ?_; rintro e w' ⟨rfl, rfl⟩)
  refine wp_loop_rounds 1 ?_
  rw [rounds_succ]
  go_wp2_with (go_at_call 80; refine HH.out.mono ?_; rintro e w' ⟨rfl, w1, hw1, rfl⟩)
  go_ret
  exact ⟨rfl, w1, (below_alloc (Below.refl _ _) _).trans (hw1.mono (by simp)), rfl⟩
end Go.Proofs.YtkdhdhkfkgjcnaaDoor.PBlockRoundTrip
end

section
namespace Go.Proofs.YtkdhdhkfkgjcnaaDoor.PBlockRoundTrip
open Go.RowKit Go.Extern.Stop Go.Stop Go.Extern Go.Proofs.YtkdhdhkfkgjcnaaDoorW.PrintWords
set_option linter.unusedSimpArgs false
set_option linter.unusedVariables false

theorem As_nil (t : Value) (w : World) :
    Calls Tryd.prog 67 #[.nilIface, t] w fun e w' => e = .returned (.bool false) ∧ w = w' := by
  go_enter Tryd.func67, Tryd.ntmps67
  go_wp2
  go_ret
  exact ⟨rfl, rfl⟩

set_option maxRecDepth 50000 in
set_option maxHeartbeats 4000000 in
theorem As_join (x : Int) (b h : Nat) (t : Addr) (old : Value) (w : World) (hG : Gl w) (hb : w.heap[b]? = some (.cells #[.slice (some ⟨h, 0, none⟩) 1 1] 128 (0, 0))) (hh : w.cell? ⟨h, 0, none⟩ = some (.iface 97 (.int .u8 x)))
    (ht0 : w.cell? t = some old) (hf0 : w.frozen? t = false) :
    Calls Tryd.prog 67 #[.iface 126 (.pointer (some ⟨b, 0, none⟩)), .iface 99 (.pointer (some t))] w fun e w' =>
      e = .returned (.bool true) ∧ ∃ w1, Below w.heap.size w w1 ∧ w' = w1.setCell t (.int .u8 x) := by
  have h77 := @run_callFunc_extern Tryd.prog 77 _ (fun args => ReflectliteValue.unpack (args.getD 0 (.tuple #[]))) Tryd.func77 (by kernel_rfl) (by kernel_rfl) (by kernel_rfl) (by kernel_rfl)
  have h78 := @run_callFunc_extern Tryd.prog 78 _ (ReflectliteValue.methodAny (ReflectliteValue.valueError "reflectlite.Value.Type" 0) (fun t _ _ _ => ReflectliteType.toType t)) Tryd.func78 (by kernel_rfl) (by kernel_rfl) (by kernel_rfl) (by kernel_rfl)
  have h79 := @run_callFunc_extern Tryd.prog 79 _ (ReflectliteValue.method (ReflectliteValue.valueError "reflectlite.Value.IsNil" 0) ReflectliteValue.isNil) Tryd.func79 (by kernel_rfl) (by kernel_rfl) (by kernel_rfl) (by kernel_rfl)
  have h102 := @run_callFunc_extern Tryd.prog 102 _ (ReflectliteType.abiMethod fun t => do pure (.int .u8 (← Rtype.kind t))) Tryd.func102 (by kernel_rfl) (by kernel_rfl) (by kernel_rfl) (by kernel_rfl)
  have h114 := @run_callFunc_extern Tryd.prog 114 _ (ReflectliteType.method ReflectliteType.elem) Tryd.func114 (by kernel_rfl) (by kernel_rfl) (by kernel_rfl) (by kernel_rfl)
  have h115 := @run_callFunc_extern Tryd.prog 115 _ (ReflectliteType.relation "Implements" ReflectliteType.implements_) Tryd.func115 (by kernel_rfl) (by kernel_rfl) (by kernel_rfl) (by kernel_rfl)
  have f6 := e_valueOf
  have f7 := e_type
  have mK := e_mKind
  have mE := e_mElem
  have mI := e_mImpl
  have k1 := e_kind1
  have k2 := e_kind2
  have e1 := e_elem
  have i1 := e_impl
  obtain ⟨W1, hW1⟩ : ∃ W, w.alloc (.cells #[.pointer (some t)] 99) = W := ⟨_, rfl⟩
  obtain ⟨W2, hW2⟩ : ∃ W, W1.alloc (.cells #[.pointer (some ⟨2, 99, none⟩), .pointer (some ⟨w.heap.size, 0, none⟩), .int .u64 150] 111) = W := ⟨_, rfl⟩
  have hb1 : Below w.heap.size w W1 := hW1 ▸ below_alloc (Below.refl _ _) _
  have hb2 : Below w.heap.size w W2 := hW2 ▸ below_alloc hb1 _
  have hv1 : W1.cell? ⟨w.heap.size, 0, none⟩ = some (.pointer (some t)) := by rw [← hW1]; exact (blk_cell (blk_new w _) 0).trans rfl
  have hv2 : W2.cell? ⟨w.heap.size, 0, none⟩ = some (.pointer (some t)) := by rw [← hW2, World.cell?_alloc_lt _ _ _ (by rw [← hW1]; simp)]; exact hv1
  have n8 := e_isNil ⟨w.heap.size, 0, none⟩ t W2 hv2
  have er := (hG.below hb2).er
  have HH := Aside0.mk (as_join x b h t ⟨w.heap.size, 0, none⟩ old W2 (blk_below hb hb2) (pw_cell_below hb2 hh) hv2 (pw_cell_below hb2 ht0) ((hb2.frozen (World.block_lt_of_cell? w _ ht0)).trans hf0))
  have HB2 := Aside0.mk hb2
  have hs1 : W1.heap.size = w.heap.size + 1 := by rw [← hW1]; simp
  have HS1 := Aside0.mk hs1
  rw [← hW2, ← hW1] at n8 er HH HB2
  clear hb1 hb2 hv1 hv2 hb hh ht0 hf0 hG hs1 hW1 hW2
  go_enter Tryd.func67, Tryd.ntmps67
  go_wp2_with (go_at_call 80; refine HH.out.mono ?_; rintro e w' ⟨rfl, w1, hw1, rfl⟩)
  go_ret
  exact ⟨rfl, w1, HB2.out.trans (hw1.mono HB2.out.size), rfl⟩
end Go.Proofs.YtkdhdhkfkgjcnaaDoor.PBlockRoundTrip
end
