-- PRINTED BY print.sh 35421559b90ae4d0a3588c463048766b98c2df88dd9212a6774a882060cdf62d: not written by this session
import Derived.Test.YtkdhdhkfkgjcnaaDoorProg
import Derived.Below
import Derived.Deep.Draws
import Derived.Deep.AppendLies
import Derived.Maps.AppendAt
import Derived.OwnWalk
import Derived.Laws.BytesArg
import Derived.Laws.MakeOwn
import Derived.Laws.OwnMore
import Derived.Deep.OwnRows
import Derived.Tactics
import Derived.Lib.ConvBytes
import Derived.Laws.Slices
import Derived.WalkKit
import Derived.KernelRfl
import Derived.RowKit3
import Derived.Deep.LoopGhost
import Derived.Deep.QuietTactic
import Derived.BigQuiet
import Derived.WideLaws
import Derived.Deep.DeepCutAuto
import Derived.Deep.CutBlock
import Derived.Deep.RegionHeld3
import Derived.Laws.Rows
import Derived.Lib.AppendStr
import Derived.ArgAppend
import Derived.Laws.IdiomCopy
import Derived.OrdersHeld
import Derived.Laws.BitsLemmas
import Derived.RowKit
import Derived.Test.YtkdhdhkfkgjcnaaDoorWWords
import Derived.Test.YtkdhdhkfkgjcnaaDoorWLast
import Derived.Test.YtkdhdhkfkgjcnaaDoorWTab
import Derived.Test.YtkdhdhkfkgjcnaaDoorWFour
import Derived.Test.YtkdhdhkfkgjcnaaDoorWQPut
import Derived.Test.YtkdhdhkfkgjcnaaDoorWApart
import Derived.Test.YtkdhdhkfkgjcnaaDoorWArr
import Derived.Test.YtkdhdhkfkgjcnaaDoorWZeros
import Derived.Test.YtkdhdhkfkgjcnaaDoorWFoot
import Derived.Test.YtkdhdhkfkgjcnaaDoorWKept
import Derived.Test.YtkdhdhkfkgjcnaaDoorWShare
import Derived.Test.YtkdhdhkfkgjcnaaDoorWN
import Derived.Test.YtkdhdhkfkgjcnaaDoorWFootNe
import Derived.Test.YtkdhdhkfkgjcnaaDoorWAt
import Derived.Test.YtkdhdhkfkgjcnaaDoorWEqStruct
import Derived.Test.YtkdhdhkfkgjcnaaDoorWRepsOne
import Derived.Test.YtkdhdhkfkgjcnaaDoorWInv
import Derived.Test.YtkdhdhkfkgjcnaaDoorWInvWords
import Derived.Test.YtkdhdhkfkgjcnaaDoorWGuard
import Derived.Test.YtkdhdhkfkgjcnaaDoorWNEv
import Derived.Test.YtkdhdhkfkgjcnaaDoorWMore
namespace Go.Proofs.YtkdhdhkfkgjcnaaDoor.PBlockRoundTrip
open Go.RowKit Go.Proofs.YtkdhdhkfkgjcnaaDoorW.PrintWords Go.Proofs.YtkdhdhkfkgjcnaaDoorW.PrintLast Go.Proofs.YtkdhdhkfkgjcnaaDoorW.PrintMore
attribute [local go_sem] max2_int min2_int max_two min_two max_three min_three max_four min_four   -- for this text's walks alone
set_option linter.unusedVariables false
set_option linter.unusedSimpArgs false



def errW : Option Int → Value
  | none => .nilIface
  | some c => .iface 0 (.int .i64 c)
theorem errW_none : errW none = .nilIface := rfl
theorem errW_some (c : Int) : errW (some c) = .iface 0 (.int .i64 c) := rfl

theorem info2 : (Tryd.prog.info? 2).map (fun i => (i.zero, i.size, i.bytes)) = some (some (.int .i64 0), 1, 8) := by kernel_rfl
theorem info5 : (Tryd.prog.info? 5).map (fun i => (i.zero, i.size, i.bytes)) = some (some (.int .u8 0), 1, 1) := by kernel_rfl
theorem info79 : (Tryd.prog.info? 79).map (fun i => (i.zero, i.size, i.bytes)) = some (some (.agg #[(.int .i64 0), (.int .i32 0)]), 2, 16) := by kernel_rfl
-- the values' own types
/-! #### struct type 79 -/
structure S79 where
  f0 : Int
  f1 : Int
def z79 : S79 := ⟨(0 : Int), (0 : Int)⟩
def k79 : Kd S79 := Kd.iso (Kd.pair (Kd.int .i64) (Kd.int .i32)) (fun x : S79 => (x.f0, x.f1))
theorem k79_open {w : World} {x : S79} {cs : List Value} (h : k79.K w x cs) : cs = [.int .i64 x.f0, .int .i32 x.f1] := by
  obtain ⟨_, _, rfl, rfl, rfl⟩ := h
  exact rfl
theorem k79_openM {w : World} {base : Nat} {ok : Nat → Prop} {x : S79} {cs : List Value} (h : k79.M w base ok x cs) : cs = [.int .i64 x.f0, .int .i32 x.f1] := by
  obtain ⟨_, _, rfl, rfl, rfl⟩ := h
  exact rfl
theorem k79_mk (w : World) (x : S79)  : k79.K w x [.int .i64 x.f0, .int .i32 x.f1] := ⟨[.int .i64 x.f0], [.int .i32 x.f1], rfl, rfl, rfl⟩
theorem k79_mkM (w : World) (base : Nat) (ok : Nat → Prop) (x : S79)  : k79.M w base ok x [.int .i64 x.f0, .int .i32 x.f1] := ⟨[.int .i64 x.f0], [.int .i32 x.f1], rfl, rfl, rfl⟩
def rd_T79 (xs : List S79) (i : Int) : S79 := xs.getD i.toNat z79
theorem at_T79 {w : World} {A : Option Addr} {n : Nat} {xs : List S79} (h : Kd.C k79 w A n xs) (i : Int) (h0 : 0 ≤ i) (h1 : i < n) : ∃ ad , A = some ad ∧ w.cell? (ad.add (i.toNat * 2)) = some (.int .i64 (rd_T79 xs i).f0) ∧ w.cell? ⟨(ad.add (i.toNat * 2)).block, (ad.add (i.toNat * 2)).off + 1, none⟩ = some (.int .i32 (rd_T79 xs i).f1) := by
  obtain ⟨ad, c, e, _, hK, hc0⟩ := Kd.C_get h z79 i h0 h1
  have hc : ∀ j u, c[j]? = some u → w.cell? (ad.add (i.toNat * 2 + j)) = some u := hc0
  obtain rfl := k79_open hK
  exact ⟨ad, e, hc 0 _ rfl, by rw [← add_field _ _ 1 (by omega)]; exact hc 1 _ rfl⟩

/-! #### struct type 55 -/
structure S55 where
  f0 : Int
  f1 : Bool
  f2 : Int
def z55 : S55 := ⟨(0 : Int), false, (0 : Int)⟩
def k55 : Kd S55 := Kd.iso (Kd.pair (Kd.int .i32) (Kd.pair Kd.bool (Kd.int .u8))) (fun x : S55 => (x.f0, x.f1, x.f2))
theorem k55_open {w : World} {x : S55} {cs : List Value} (h : k55.K w x cs) : cs = [.int .i32 x.f0, .bool x.f1, .int .u8 x.f2] := by
  obtain ⟨_, _, rfl, rfl, ⟨_, _, rfl, rfl, rfl⟩⟩ := h
  exact rfl
theorem k55_openM {w : World} {base : Nat} {ok : Nat → Prop} {x : S55} {cs : List Value} (h : k55.M w base ok x cs) : cs = [.int .i32 x.f0, .bool x.f1, .int .u8 x.f2] := by
  obtain ⟨_, _, rfl, rfl, ⟨_, _, rfl, rfl, rfl⟩⟩ := h
  exact rfl
theorem k55_mk (w : World) (x : S55)  : k55.K w x [.int .i32 x.f0, .bool x.f1, .int .u8 x.f2] := ⟨[.int .i32 x.f0], [.bool x.f1, .int .u8 x.f2], rfl, rfl, ⟨[.bool x.f1], [.int .u8 x.f2], rfl, rfl, rfl⟩⟩
theorem k55_mkM (w : World) (base : Nat) (ok : Nat → Prop) (x : S55)  : k55.M w base ok x [.int .i32 x.f0, .bool x.f1, .int .u8 x.f2] := ⟨[.int .i32 x.f0], [.bool x.f1, .int .u8 x.f2], rfl, rfl, ⟨[.bool x.f1], [.int .u8 x.f2], rfl, rfl, rfl⟩⟩
def rd_T55 (xs : List S55) (i : Int) : S55 := xs.getD i.toNat z55
theorem at_T55 {w : World} {A : Option Addr} {n : Nat} {xs : List S55} (h : Kd.C k55 w A n xs) (i : Int) (h0 : 0 ≤ i) (h1 : i < n) : ∃ ad , A = some ad ∧ w.cell? (ad.add (i.toNat * 3)) = some (.int .i32 (rd_T55 xs i).f0) ∧ w.cell? ⟨(ad.add (i.toNat * 3)).block, (ad.add (i.toNat * 3)).off + 1, none⟩ = some (.bool (rd_T55 xs i).f1) ∧ w.cell? ⟨(ad.add (i.toNat * 3)).block, (ad.add (i.toNat * 3)).off + 2, none⟩ = some (.int .u8 (rd_T55 xs i).f2) := by
  obtain ⟨ad, c, e, _, hK, hc0⟩ := Kd.C_get h z55 i h0 h1
  have hc : ∀ j u, c[j]? = some u → w.cell? (ad.add (i.toNat * 3 + j)) = some u := hc0
  obtain rfl := k55_open hK
  exact ⟨ad, e, hc 0 _ rfl, by rw [← add_field _ _ 1 (by omega)]; exact hc 1 _ rfl, by rw [← add_field _ _ 2 (by omega)]; exact hc 2 _ rfl⟩

def rd_L6 (xs : List (List Int)) (i : Int) : (List Int) := xs.getD i.toNat ([] : List Int)
theorem at_L6 {w : World} {A : Option Addr} {n : Nat} {xs : List (List Int)} (h : Kd.C (Kd.slice 5 (Kd.int .u8)) w A n xs) (i : Int) (h0 : 0 ≤ i) (h1 : i < n) : ∃ ad A0 c0, A = some ad ∧ w.cell? (ad.add i.toNat) = some (.slice A0 (rd_L6 xs i).length c0) ∧ (rd_L6 xs i).length ≤ c0 ∧ (Kd.int .u8).C w A0 (rd_L6 xs i).length (rd_L6 xs i) := by
  obtain ⟨ad, c, e, _, hK, hc0⟩ := Kd.C_get h ([] : List Int) i h0 h1
  have hc : ∀ j u, c[j]? = some u → w.cell? (ad.add (i.toNat * 1 + j)) = some u := hc0
  obtain ⟨A0, c0, rfl, l0, g0⟩ := hK
  exact ⟨ad, A0, c0, e, by have hq := hc 0 _ rfl; rwa [Nat.mul_one, Nat.add_zero] at hq, l0, g0⟩

end Go.Proofs.YtkdhdhkfkgjcnaaDoor.PBlockRoundTrip
