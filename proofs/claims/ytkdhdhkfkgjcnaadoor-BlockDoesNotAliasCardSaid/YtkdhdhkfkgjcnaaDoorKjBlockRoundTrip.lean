/- The text Rw. -/
import Derived.Test.YtkdhdhkfkgjcnaaDoorRows
import Derived.Test.YtkdhdhkfkgjcnaaDoorKfBlockRoundTrip
import Derived.ProofKit
import Derived.OpenShut
import Derived.Below
import Derived.SizedLaws
import Derived.LaidLaws
import Derived.LaidHandle
import Derived.LaidMore
import Derived.ChangeVars
import Derived.JoinedOf
import Derived.Stop.Joined
import Derived.Lib.SmallJoins
import Derived.Lib.LaidTab
import Derived.Deep.Slices
import Derived.Deep.Fields
namespace Go.Proofs.YtkdhdhkfkgjcnaaDoor.PBlockRoundTrip
open Go.ChangeShapes Go.WideShapes Go.ChangeAt Go.RowKit Go.Joins Go.Deep Go.Proofs.YtkdhdhkfkgjcnaaDoorW.PrintWords Go.Proofs.YtkdhdhkfkgjcnaaDoorW.PrintMore
set_option linter.unusedVariables false
set_option linter.unusedSimpArgs false

theorem own : ownKnob Tryd.prog.godebug = none := by kernel_rfl
theorem laidOut : laidOutB Tryd.prog = true := by kernel_rfl
section
variable {H : Type} {enc : TypeId × Value → H} {P : Program} {w : World} {base : Nat} {spare : Nat → Bool} {held : Bool}
theorem open_agg7 {r : Reach} {b0 : Nat} {t : TypeId} {f0 f1 f2 f3 f4 f5 f6 : Field} {v : Value} {d : DataW H} {p : List MemPlace} (hs : P.underlying t = some (.struct #[f0, f1, f2, f3, f4, f5, f6])) (hone : oneCellFields P #[f0, f1, f2, f3, f4, f5, f6] = true) (hC : P.cellsOf t = 7)
    (hv : Value.okWide P w r b0 t v) (h : DataW.Trod enc P w base spare held t v d p) :
    ∃ (v0 v1 v2 v3 v4 v5 v6 : Value) (y0 y1 y2 y3 y4 y5 y6 : DataW H × List MemPlace) (n : Nat), v = .agg #[v0, v1, v2, v3, v4, v5, v6] ∧ d = .agg [y0.1, y1.1, y2.1, y3.1, y4.1, y5.1, y6.1] ∧ p = y0.2 ++ (y1.2 ++ (y2.2 ++ (y3.2 ++ (y4.2 ++ (y5.2 ++ (y6.2)))))) ∧
      DataW.trod enc P w base spare held n f0.type [v0] = some y0 ∧ DataW.trod enc P w base spare held n f1.type [v1] = some y1 ∧ DataW.trod enc P w base spare held n f2.type [v2] = some y2 ∧ DataW.trod enc P w base spare held n f3.type [v3] = some y3 ∧ DataW.trod enc P w base spare held n f4.type [v4] = some y4 ∧ DataW.trod enc P w base spare held n f5.type [v5] = some y5 ∧ DataW.trod enc P w base spare held n f6.type [v6] = some y6 := by
  obtain ⟨cs, rfl, hsz⟩ := okWide_struct hs hv
  obtain ⟨l⟩ := cs
  match l, hsz.trans hC with
  | [c0, c1, c2, c3, c4, c5, c6], _ =>
    obtain ⟨fuel, hf⟩ := h
    obtain ⟨xs, n, _, hx, _, hlen, hg⟩ := DataW.trod_struct hs hf
    obtain ⟨o0, k0⟩ := hone_of hone 0 f0 rfl
    obtain ⟨o1, k1⟩ := hone_of hone 1 f1 rfl
    obtain ⟨o2, k2⟩ := hone_of hone 2 f2 rfl
    obtain ⟨o3, k3⟩ := hone_of hone 3 f3 rfl
    obtain ⟨o4, k4⟩ := hone_of hone 4 f4 rfl
    obtain ⟨o5, k5⟩ := hone_of hone 5 f5 rfl
    obtain ⟨o6, k6⟩ := hone_of hone 6 f6 rfl
    match xs, hlen with
    | [y0, y1, y2, y3, y4, y5, y6], _ =>
      simp only [Prod.mk.injEq] at hx
      exact ⟨c0, c1, c2, c3, c4, c5, c6, y0, y1, y2, y3, y4, y5, y6, n, rfl, by simpa using hx.1, by simpa using hx.2, by simpa [Value.cells, o0, k0] using hg 0 f0 rfl, by simpa [Value.cells, o1, k1] using hg 1 f1 rfl, by simpa [Value.cells, o2, k2] using hg 2 f2 rfl, by simpa [Value.cells, o3, k3] using hg 3 f3 rfl, by simpa [Value.cells, o4, k4] using hg 4 f4 rfl, by simpa [Value.cells, o5, k5] using hg 5 f5 rfl, by simpa [Value.cells, o6, k6] using hg 6 f6 rfl⟩
end
/-- The listed variables. -/
abbrev laidL : List (String × DataW Unit) := [("zoneinfo/indicators.flags", Rows.laid_zoneinfo_indicators_flags), ("errors.errorType", Rows.laid_errors_errorType)]
theorem gFlags : Tryd.prog.globalNamed "zoneinfo/indicators.flags" = some 0 := by kernel_rfl
theorem tFlags : (Tryd.prog.globals[0]?).map (·.type) = some 100 := by kernel_rfl
theorem gErr : Tryd.prog.globalNamed "errors.errorType" = some 1 := by kernel_rfl
theorem tyRt : (Tryd.prog.cutTypes.find? (·.1 == "internal/reflectlite.rtype")).map (·.2) = some 130 := by kernel_rfl
theorem oneErr : ((List.range Tryd.prog.types.size).filter fun t => Tryd.prog.rowNamed t [101, 114, 114, 111, 114]) = [94] := by kernel_rfl
set_option maxRecDepth 100000 in
/-- What the condition gives the walks. -/
theorem Gl_of_laid {W : World} (h : laidMetH Tryd.prog laidL W) : Gl W := by
  have h' : laidMet Tryd.prog [("zoneinfo/indicators.flags", Rows.laid_zoneinfo_indicators_flags)] W ∧ handlesMet Tryd.prog [("errors.errorType", Rows.laid_errors_errorType)] W := h
  obtain ⟨⟨ps, ⟨g, t, cs, fuel, p, q, hg, ht, hv, hd, _⟩, _⟩, hh⟩ := h'
  obtain rfl := Option.some.inj (gFlags.symm.trans hg)
  obtain rfl := Option.some.inj (tFlags.symm.trans ht)
  obtain ⟨xs, m, rfl, hx, hl, hxl, hi⟩ := DataW.trod_array Tryd.underlying100 hd
  have hce : Tryd.prog.cellsOf 4 = 1 := by kernel_rfl
  have hct : Tryd.prog.cellsOf 100 = 2 := by kernel_rfl
  rw [hct] at hl
  obtain ⟨l⟩ := cs
  match l, hl with
  | [c0, c1], _ =>
    match xs, hxl with
    | [x0, x1], _ =>
      have e0 := hi 0 (by omega)
      have e1 := hi 1 (by omega)
      rw [hce] at e0 e1
      simp at e0 e1
      obtain ⟨b0, rfl', hb0⟩ := DataW.trod_bool Tryd.underlying4 e0
      obtain ⟨b1, rfl'', hb1⟩ := DataW.trod_bool Tryd.underlying4 e1
      simp only [List.cons.injEq, and_true] at rfl' rfl''
      subst rfl' rfl'' hb0 hb1
      simp [Rows.laid_zoneinfo_indicators_flags] at hx
      obtain ⟨⟨rfl, rfl⟩, _⟩ := hx
      obtain ⟨name, u, ty, f1, f2, f3, f4, f5⟩ := hh _ (List.mem_singleton.2 rfl)
      have en : name = [101, 114, 114, 111, 114] := (Option.some.inj f1).symm
      subst en
      obtain rfl := Option.some.inj (tyRt.symm.trans f2)
      have hm : ty ∈ (List.range Tryd.prog.types.size).filter fun t => Tryd.prog.rowNamed t [101, 114, 114, 111, 114] := List.mem_filter.2 ⟨List.mem_range.2 f3, f4⟩
      rw [oneErr] at hm
      obtain rfl := List.mem_singleton.1 hm
      have hh : typeHandle Tryd.prog 94 = .pointer (some ⟨2, 94, none⟩) := by kernel_rfl
      rw [hh] at f5
      exact ⟨by simpa using World.var?_cell gFlags hv 0, by simpa using World.var?_cell gFlags hv 1, by simpa using World.var?_cell gErr f5 0⟩
set_option maxRecDepth 100000 in
/-- The door's own heap meets the condition. -/
theorem door_met (os : Os) (args : Array Value) : laidMetH Tryd.prog laidL ((World.doorLaid Tryd.prog 40 os).forCall (fun _ _ => 0) ⟨#[], args, []⟩).memory :=
  laidMetH_of_parts (laidMet_of_run' 8 (by kernel_rfl) (by kernel_rfl)) (by kernel_rfl)
set_option maxRecDepth 100000 in
/-- A parameter of the type []byte. -/
theorem bytes_of {H : Type} {enc : TypeId × Value → H} {W : World} {r : Reach} {base : Nat} {v : Value} {d : DataW H} {p : List MemPlace} (hv : Value.okWide Tryd.prog W r base 22 v) (h : DataW.Trod enc Tryd.prog W 0 (fun _ => true) true 22 v d p) :
    ∃ (A : Option Addr) (c : Nat) (l : List Int), v = .slice A l.length c ∧ Kd.C (Kd.int .u8) W A l.length l ∧ l.length ≤ c ∧ l.length ≤ maxLen ∧ Byt l := by
  obtain ⟨a, len, cap, rfl⟩ := okWide_slice Tryd.underlying22 hv
  obtain ⟨zs, hz⟩ : ∃ zs : List Int, (a = none ∧ len = 0 ∧ cap = 0 ∧ zs = []) ∨ ∃ x, a = some x ∧ len ≤ cap ∧ cap ≤ maxLen ∧ zs.length = cap ∧ (∀ i, i < zs.length → W.cell? (x.add i) = some (.int .u8 (zs.getD i 0))) ∧ ∀ n ∈ zs, (Lit.int .u8 n).wf = true := by
    obtain ⟨fuel, hf⟩ := h
    rcases open_ints Tryd.underlying22 Tryd.underlying5 (by kernel_rfl) hf with ⟨hcs, _⟩ | ⟨x, l, c, zs, hcs, _, hl, hm, hz, _, hcell, hwz⟩
    · simp [Value.cells] at hcs
      obtain ⟨rfl, rfl, rfl⟩ := hcs
      exact ⟨[], .inl ⟨rfl, rfl, rfl, rfl⟩⟩
    · simp [Value.cells] at hcs
      obtain ⟨rfl, rfl, rfl⟩ := hcs
      exact ⟨zs, .inr ⟨_, rfl, hl, hm, by simpa using hz, hcell, hwz⟩⟩
  obtain ⟨l, rfl, hr, hm, hw, hc⟩ := Go.Proofs.YtkdhdhkfkgjcnaaDoorW.PrintWords.ReadsInt.ofRowC hz
  refine ⟨a, cap, l, rfl, Kd.C_of_reads (d := (0 : Int)) (h1 := fun _ => rfl) hr, hc, hm, fun x hx => ?_⟩
  have h1 := hw x hx
  simp [Lit.wf, IntKind.min, IntKind.max, IntKind.signed, IntKind.bits] at h1
  omega
set_option maxRecDepth 100000 in
/-- A parameter of the type api.Header. -/
theorem header_of {H : Type} {enc : TypeId × Value → H} {W : World} {r : Reach} {base : Nat} {v : Value} {d : DataW H} {p : List MemPlace} (hv : Value.okWide Tryd.prog W r base 28 v) (h : DataW.Trod enc Tryd.prog W 0 (fun _ => true) true 28 v d p) :
    ∃ n a1 a2 a3 a4 a5 a6 : Int, v = .agg #[.int .i64 n, .int .u32 a1, .int .u32 a2, .int .u32 a3, .int .u32 a4, .int .u32 a5, .int .u32 a6] ∧ Hd a1 a2 a3 a4 a5 a6 ∧ (-9223372036854775808 ≤ n ∧ n ≤ 9223372036854775807) := by
  obtain ⟨v0, v1, v2, v3, v4, v5, v6, y0, y1, y2, y3, y4, y5, y6, n, rfl, -, -, t0, t1, t2, t3, t4, t5, t6⟩ := open_agg7 Tryd.underlying28 (by kernel_rfl) (by kernel_rfl) hv h
  obtain ⟨b0, e0, -, q0⟩ := DataW.trod_int Tryd.underlying3 t0
  obtain ⟨b1, e1, -, q1⟩ := DataW.trod_int Tryd.underlying26 t1
  obtain ⟨b2, e2, -, q2⟩ := DataW.trod_int Tryd.underlying26 t2
  obtain ⟨b3, e3, -, q3⟩ := DataW.trod_int Tryd.underlying26 t3
  obtain ⟨b4, e4, -, q4⟩ := DataW.trod_int Tryd.underlying26 t4
  obtain ⟨b5, e5, -, q5⟩ := DataW.trod_int Tryd.underlying26 t5
  obtain ⟨b6, e6, -, q6⟩ := DataW.trod_int Tryd.underlying26 t6
  obtain rfl := (List.cons.inj e0).1
  obtain rfl := (List.cons.inj e1).1
  obtain rfl := (List.cons.inj e2).1
  obtain rfl := (List.cons.inj e3).1
  obtain rfl := (List.cons.inj e4).1
  obtain rfl := (List.cons.inj e5).1
  obtain rfl := (List.cons.inj e6).1
  simp [Lit.wf, IntKind.min, IntKind.max, IntKind.signed, IntKind.bits] at q0 q1 q2 q3 q4 q5 q6
  exact ⟨b0, b1, b2, b3, b4, b5, b6, rfl, ⟨by omega, by omega, by omega, by omega, by omega, by omega, by omega, by omega, by omega, by omega, by omega, by omega⟩, by omega⟩
end Go.Proofs.YtkdhdhkfkgjcnaaDoor.PBlockRoundTrip
