-- PRINTED BY print.sh 35421559b90ae4d0a3588c463048766b98c2df88dd9212a6774a882060cdf62d: not written by this session
import Derived.Test.YtkdhdhkfkgjcnaaDoorPBlockRoundTripx0
import Derived.Test.YtkdhdhkfkgjcnaaDoorPBlockRoundTripx6
namespace Go.Proofs.YtkdhdhkfkgjcnaaDoor.PBlockRoundTrip
open Go.RowKit Go.Proofs.YtkdhdhkfkgjcnaaDoorW.PrintWords Go.Proofs.YtkdhdhkfkgjcnaaDoorW.PrintLast Go.Proofs.YtkdhdhkfkgjcnaaDoorW.PrintMore
attribute [local go_sem] max2_int min2_int max_two min_two max_three min_three max_four min_four   -- for this text's walks alone
set_option linter.unusedVariables false
set_option linter.unusedSimpArgs false

/-! ### zoneinforef19_Encodable: function 19 -/
def zoneinforef19_Encodable.l0 : Nat → Int → Int → List Int → List Int → List (S55) → List Int → List (S79) → List Bool → List Bool → Option (Bool)
  | 0, _, _, _, _, _, _, _, _, _ => none
  | k + 1, x1, x5, x224000, x224001, x224002, x224003, x224004, x224005, x224006 => if x5 < (x224004.length : Int) then (if 0 ≤ x5 then ((zoneinforef01_Fits.f k ((rd_T79 x224004 x5).f0) x1).bind fun t225 => (if t225 = true then (zoneinforef19_Encodable.l0 k x1 (wrap64 (x5 + 1)) x224000 x224001 x224002 x224003 x224004 x224005 x224006) else (some false))) else (none)) else (if (x224000.length : Int) = (x224001.length : Int) then ((zoneinforef15_Fit.f k x224000 x1).bind fun t226 => (if t226 = true then ((zoneinforef19_Few.f x224000 x224001 x224002 x224003 x224004 x224005 x224006).bind fun t227 => (some t227)) else (some false))) else (some false))
def zoneinforef19_Encodable.f (k : Nat) (l0_0 : List Int) (l0_1 : List Int) (l0_2 : List (S55)) (l0_3 : List Int) (l0_4 : List (S79)) (l0_5 : List Bool) (l0_6 : List Bool) (a1 : Int) : Option (Bool) := zoneinforef19_Encodable.l0 k a1 0 l0_0 l0_1 l0_2 l0_3 l0_4 l0_5 l0_6
theorem zoneinforef19_Encodable.mono_l : ∀ k, (∀ y0 y1 y2 y3 y4 y5 y6 y7 y8, LeO (zoneinforef19_Encodable.l0 k y0 y1 y2 y3 y4 y5 y6 y7 y8) (zoneinforef19_Encodable.l0 (k + 1) y0 y1 y2 y3 y4 y5 y6 y7 y8))
  | 0 => fun _ _ _ _ _ _ _ _ _ r h => by simp [zoneinforef19_Encodable.l0] at h
  | k + 1 => by
    have ih0 := zoneinforef19_Encodable.mono_l k
    · intro y0 y1 y2 y3 y4 y5 y6 y7 y8
      unfold zoneinforef19_Encodable.l0
      repeat' first
      | (with_reducible exact ih0 _ _ _ _ _ _ _ _ _)
      | (with_reducible exact zoneinforef01_Fits.mono _ _ _)
      | (with_reducible exact zoneinforef15_Fit.mono _ _ _)
      | (with_reducible exact LeO.refl _)
      | (with_reducible exact LeO.none _)
      | (with_reducible refine LeO.ite ?_ ?_)
      | (with_reducible refine LeO.bind ?_ (fun _ => ?_))
      | exact ih0 _ _ _ _ _ _ _ _ _
      | exact zoneinforef01_Fits.mono _ _ _
      | exact zoneinforef15_Fit.mono _ _ _
      | exact LeO.none _
      | refine LeO.ite ?_ ?_
      | refine LeO.bind ?_ (fun _ => ?_)
theorem zoneinforef19_Encodable.mono : ∀ a0 a1 a2 a3 a4 a5 a6 a7 k, LeO (zoneinforef19_Encodable.f k a0 a1 a2 a3 a4 a5 a6 a7) (zoneinforef19_Encodable.f (k + 1) a0 a1 a2 a3 a4 a5 a6 a7) := by
  intro a0 a1 a2 a3 a4 a5 a6 a7 k
  have ih0 := zoneinforef19_Encodable.mono_l k
  unfold zoneinforef19_Encodable.f
  repeat' first
      | (with_reducible exact ih0 _ _ _ _ _ _ _ _ _)
      | (with_reducible exact zoneinforef01_Fits.mono _ _ _)
      | (with_reducible exact zoneinforef15_Fit.mono _ _ _)
      | (with_reducible exact LeO.refl _)
      | (with_reducible exact LeO.none _)
      | (with_reducible refine LeO.ite ?_ ?_)
      | (with_reducible refine LeO.bind ?_ (fun _ => ?_))
      | exact ih0 _ _ _ _ _ _ _ _ _
      | exact zoneinforef01_Fits.mono _ _ _
      | exact zoneinforef15_Fit.mono _ _ _
      | exact LeO.none _
      | refine LeO.ite ?_ ?_
      | refine LeO.bind ?_ (fun _ => ?_)
set_option maxHeartbeats 8000000 in
set_option maxRecDepth 100000 in
theorem zoneinforef19_Encodable.calls (k : Nat) (A0_0 : Option Addr) (c0_0 : Nat) (l0_0 : List Int) (A0_1 : Option Addr) (c0_1 : Nat) (l0_1 : List Int) (A0_2 : Option Addr) (c0_2 : Nat) (l0_2 : List (S55)) (A0_3 : Option Addr) (c0_3 : Nat) (l0_3 : List Int) (A0_4 : Option Addr) (c0_4 : Nat) (l0_4 : List (S79)) (A0_5 : Option Addr) (c0_5 : Nat) (l0_5 : List Bool) (A0_6 : Option Addr) (c0_6 : Nat) (l0_6 : List Bool) (a1 : Int) (r : Bool) (w : World) (hr0_0 : Kd.C (Kd.int .i64) w A0_0 l0_0.length l0_0) (hc0_0 : l0_0.length ≤ c0_0) (hr0_1 : Kd.C (Kd.int .u8) w A0_1 l0_1.length l0_1) (hc0_1 : l0_1.length ≤ c0_1) (hr0_2 : Kd.C k55 w A0_2 l0_2.length l0_2) (hc0_2 : l0_2.length ≤ c0_2) (hr0_3 : Kd.C (Kd.int .u8) w A0_3 l0_3.length l0_3) (hc0_3 : l0_3.length ≤ c0_3) (hr0_4 : Kd.C k79 w A0_4 l0_4.length l0_4) (hc0_4 : l0_4.length ≤ c0_4) (hr0_5 : Kd.C Kd.bool w A0_5 l0_5.length l0_5) (hc0_5 : l0_5.length ≤ c0_5) (hr0_6 : Kd.C Kd.bool w A0_6 l0_6.length l0_6) (hc0_6 : l0_6.length ≤ c0_6) (h : zoneinforef19_Encodable.f k l0_0 l0_1 l0_2 l0_3 l0_4 l0_5 l0_6 a1 = some r) :
    Calls Tryd.prog 19 #[.agg #[.slice A0_0 l0_0.length c0_0, .slice A0_1 l0_1.length c0_1, .slice A0_2 l0_2.length c0_2, .slice A0_3 l0_3.length c0_3, .slice A0_4 l0_4.length c0_4, .slice A0_5 l0_5.length c0_5, .slice A0_6 l0_6.length c0_6], .int .i64 a1] w fun e w' => e = .returned (.bool r) ∧ Below w.heap.size w w' := by
  have hu34 := Tryd.underlying34
  have HR0_0 := Aside0.mk hr0_0
  have HC0_0 := Aside0.mk hc0_0
  clear hr0_0 hc0_0
  have HR0_1 := Aside0.mk hr0_1
  have HC0_1 := Aside0.mk hc0_1
  clear hr0_1 hc0_1
  have HR0_2 := Aside0.mk hr0_2
  have HC0_2 := Aside0.mk hc0_2
  clear hr0_2 hc0_2
  have HR0_3 := Aside0.mk hr0_3
  have HC0_3 := Aside0.mk hc0_3
  clear hr0_3 hc0_3
  have HR0_4 := Aside0.mk hr0_4
  have HC0_4 := Aside0.mk hc0_4
  clear hr0_4 hc0_4
  have HR0_5 := Aside0.mk hr0_5
  have HC0_5 := Aside0.mk hc0_5
  clear hr0_5 hc0_5
  have HR0_6 := Aside0.mk hr0_6
  have HC0_6 := Aside0.mk hc0_6
  clear hr0_6 hc0_6
  have HB := Aside0.mk (Below.refl w.heap.size w)
  have H : (zoneinforef19_Encodable.l0 k a1 0 l0_0 l0_1 l0_2 l0_3 l0_4 l0_5 l0_6) = some r := h
  clear h
  have H' := Aside0.mk H
  clear H
  go_enter Tryd.func19, Tryd.ntmps19
  go_wp2_with (first | ((with_reducible refine gate_dst (N := 2) rfl ?_); refine box_event ?hg (N := 2) ?hd (cs := #[.slice A0_0 l0_0.length c0_0, .slice A0_1 l0_1.length c0_1, .slice A0_2 l0_2.length c0_2, .slice A0_3 l0_3.length c0_3, .slice A0_4 l0_4.length c0_4, .slice A0_5 l0_5.length c0_5, .slice A0_6 l0_6.length c0_6]) (t := 34) ?hr ?_; (case hd => rfl); (case hg => rfl); (case hr => first | (go_simp; done) | (go_simp; rfl)); intro gb223 hg w3 hbox hb; have n0_ := Aside0.mk (below_step (by repeat (first | (with_reducible first | exact HB.out | apply below_alloc | apply pw_below_drewN | apply below_drew1) | exact HB.out)) hb); have n1_ := Aside0.mk (hbox); have n2_ := Aside0.mk ((by rw [hg]; exact (below_size (by repeat (first | (with_reducible first | exact HB.out | apply below_alloc | apply pw_below_drewN | apply below_drew1) | exact HB.out))) : w.heap.size ≤ gb223)); have n3_ := Aside0.mk ((by rw [hg]; exact (below_size (by repeat (first | (with_reducible first | exact HB.out | apply below_alloc | apply pw_below_drewN | apply below_drew1) | exact HB.out))) : w.heap.size ≤ gb223)); clear HB; have HB := n0_; have BK223 := n1_; have GW223 := n2_; have GE223 := n3_; clear n0_ n1_ n2_ n3_; clear hb hbox hg))
  go_loopg [5] k (fun kq v5 w' => ∃ (x5_1 : Int), v5 = .int .i64 x5_1 ∧ Aside0 (zoneinforef19_Encodable.l0 kq a1 x5_1 l0_0 l0_1 l0_2 l0_3 l0_4 l0_5 l0_6 = some r) ∧ Aside0 (kq ≤ k) ∧ Aside0 (w'.heap[gb223]? = some (.cells #[(.slice A0_0 l0_0.length c0_0), (.slice A0_1 l0_1.length c0_1), (.slice A0_2 l0_2.length c0_2), (.slice A0_3 l0_3.length c0_3), (.slice A0_4 l0_4.length c0_4), (.slice A0_5 l0_5.length c0_5), (.slice A0_6 l0_6.length c0_6)] 34 (0, 0))) ∧ Aside0 (Below w.heap.size w w'))
  case atStart => exact ⟨(0), (by first | rfl | (simp; done) | (simp [*]; done)), H', ⟨Nat.le_refl _⟩, ⟨by (with_reducible repeat (first | refine blk_drewN ?_ _ | refine blk_drew ?_ | refine blk_alloc ?_ _)); exact BK223.out⟩, ⟨by repeat (first | (with_reducible first | exact HB.out | apply below_alloc | apply pw_below_drewN | apply below_drew1 | refine below_set ?_ GE223.out) | exact HB.out)⟩⟩
  case round =>
    clear H'
    try clear c1
    try clear p2
    obtain ⟨x5_1, rfl, HA, HK1, BK223, HB⟩ := hrel
    cases gk with
    | zero => exact absurd HA.out (by simp [zoneinforef19_Encodable.l0])
    | succ k1 =>
      have H := HA.out
      clear HA
      simp only [zoneinforef19_Encodable.l0] at H
      by_cases c4 : x5_1 < (l0_4.length : Int)
      · rw [if_pos c4] at H
        have c4b0 : decide (x5_1 < (l0_4.length : Int)) = true := decide_eq_true c4
        clear c4
        by_cases c5 : 0 ≤ x5_1
        · rw [if_pos c5] at H
          have c5b0 : decide (0 ≤ x5_1) = true := decide_eq_true c5
          clear c5
          replace H := Option.bind_eq_some_iff.mp H
          obtain ⟨t225, A60, H⟩ := H
          replace H : (if t225 = true then (zoneinforef19_Encodable.l0 k1 a1 (wrap64 (x5_1 + 1)) l0_0 l0_1 l0_2 l0_3 l0_4 l0_5 l0_6) else (some false)) = some r := H
          have A6 := Aside0.mk A60
          clear A60
          by_cases c7 : t225 = true
          · subst c7
            have H1 : (zoneinforef19_Encodable.l0 k1 a1 (wrap64 (x5_1 + 1)) l0_0 l0_1 l0_2 l0_3 l0_4 l0_5 l0_6) = some r := by rw [if_pos rfl] at H; exact H
            clear H
            have H := H1
            clear H1
            have H' := Aside0.mk H
            clear H
            have hcz8_0 : wr.cell? ⟨gb223, 0, none⟩ = some (.slice A0_0 l0_0.length c0_0) := (blk_cell BK223.out 0).trans rfl
            have hcz8_1 : wr.cell? ⟨gb223, 1, none⟩ = some (.slice A0_1 l0_1.length c0_1) := (blk_cell BK223.out 1).trans rfl
            have hcz8_2 : wr.cell? ⟨gb223, 2, none⟩ = some (.slice A0_2 l0_2.length c0_2) := (blk_cell BK223.out 2).trans rfl
            have hcz8_3 : wr.cell? ⟨gb223, 3, none⟩ = some (.slice A0_3 l0_3.length c0_3) := (blk_cell BK223.out 3).trans rfl
            have hcz8_4 : wr.cell? ⟨gb223, 4, none⟩ = some (.slice A0_4 l0_4.length c0_4) := (blk_cell BK223.out 4).trans rfl
            have hcz8_5 : wr.cell? ⟨gb223, 5, none⟩ = some (.slice A0_5 l0_5.length c0_5) := (blk_cell BK223.out 5).trans rfl
            have hcz8_6 : wr.cell? ⟨gb223, 6, none⟩ = some (.slice A0_6 l0_6.length c0_6) := (blk_cell BK223.out 6).trans rfl
            have hfz8_0 := blk_frozen BK223.out 0
            have hfz8_1 := blk_frozen BK223.out 1
            have hfz8_2 := blk_frozen BK223.out 2
            have hfz8_3 := blk_frozen BK223.out 3
            have hfz8_4 := blk_frozen BK223.out 4
            have hfz8_5 := blk_frozen BK223.out 5
            have hfz8_6 := blk_frozen BK223.out 6
            have p224 : 0 ≤ (x5_1 : Int) := of_decide_eq_true (by first | (with_reducible assumption) | assumption)
            have q224 : x5_1 < (l0_4.length : Int) := of_decide_eq_true (by first | (with_reducible assumption) | assumption)
            obtain ⟨ad224, e224, hx224_0, hx224_1⟩ := at_T79 HR0_4.out x5_1 p224 q224
            cases e224
            replace hx224_0 := (HB.out.cell (World.block_lt_of_cell? w _ hx224_0)).trans hx224_0
            replace hx224_1 := (HB.out.cell (World.block_lt_of_cell? w _ hx224_1)).trans hx224_1
            replace p224 := eq_true p224
            replace q224 := eq_true q224
            go_wp2_with (first | ((with_reducible refine gate_callee (f := 51) rfl ?_); refine goesL_ (some 20) rfl rfl Tryd.func51 (by kernel_rfl) rfl #[.int .i64 ((rd_T79 l0_4 x5_1).f0), .int .i64 a1] rfl (by (try simp only [List.map_toArray, List.map_cons, List.map_nil]); first | done | rfl | (simp only [List.length_drop, List.length_take]; rfl)) ?_; (with_reducible refine (zoneinforef01_Fits.calls k1 ((rd_T79 l0_4 x5_1).f0) a1 true _ A6.out).mono ?_); rintro e w' ⟨rfl, ⟨nd, rfl⟩⟩; refine ⟨_, rfl, ?_⟩))
            go_roundg k1
            case measure => have := HK1.out; omega
            case rel => exact ⟨(wrap64 (x5_1 + 1)), (by first | rfl | (simp; done) | (simp [*]; done)), H', ⟨by have := HK1.out; omega⟩, ⟨by (with_reducible repeat (first | refine blk_drewN ?_ _ | refine blk_drew ?_ | refine blk_alloc ?_ _)); exact BK223.out⟩, ⟨by repeat (first | (with_reducible first | exact HB.out | apply below_alloc | apply pw_below_drewN | apply below_drew1 | refine below_set ?_ GE223.out) | exact HB.out)⟩⟩
          · replace c7 := Bool.eq_false_iff.mpr c7
            subst c7
            have H1 : (some false) = some r := by rw [if_neg (show ¬ (false = true) by decide)] at H; exact H
            clear H
            have H := H1
            clear H1
            obtain rfl := Option.some.inj H
            have hcz9_0 : wr.cell? ⟨gb223, 0, none⟩ = some (.slice A0_0 l0_0.length c0_0) := (blk_cell BK223.out 0).trans rfl
            have hcz9_1 : wr.cell? ⟨gb223, 1, none⟩ = some (.slice A0_1 l0_1.length c0_1) := (blk_cell BK223.out 1).trans rfl
            have hcz9_2 : wr.cell? ⟨gb223, 2, none⟩ = some (.slice A0_2 l0_2.length c0_2) := (blk_cell BK223.out 2).trans rfl
            have hcz9_3 : wr.cell? ⟨gb223, 3, none⟩ = some (.slice A0_3 l0_3.length c0_3) := (blk_cell BK223.out 3).trans rfl
            have hcz9_4 : wr.cell? ⟨gb223, 4, none⟩ = some (.slice A0_4 l0_4.length c0_4) := (blk_cell BK223.out 4).trans rfl
            have hcz9_5 : wr.cell? ⟨gb223, 5, none⟩ = some (.slice A0_5 l0_5.length c0_5) := (blk_cell BK223.out 5).trans rfl
            have hcz9_6 : wr.cell? ⟨gb223, 6, none⟩ = some (.slice A0_6 l0_6.length c0_6) := (blk_cell BK223.out 6).trans rfl
            have hfz9_0 := blk_frozen BK223.out 0
            have hfz9_1 := blk_frozen BK223.out 1
            have hfz9_2 := blk_frozen BK223.out 2
            have hfz9_3 := blk_frozen BK223.out 3
            have hfz9_4 := blk_frozen BK223.out 4
            have hfz9_5 := blk_frozen BK223.out 5
            have hfz9_6 := blk_frozen BK223.out 6
            have p224 : 0 ≤ (x5_1 : Int) := of_decide_eq_true (by first | (with_reducible assumption) | assumption)
            have q224 : x5_1 < (l0_4.length : Int) := of_decide_eq_true (by first | (with_reducible assumption) | assumption)
            obtain ⟨ad224, e224, hx224_0, hx224_1⟩ := at_T79 HR0_4.out x5_1 p224 q224
            cases e224
            replace hx224_0 := (HB.out.cell (World.block_lt_of_cell? w _ hx224_0)).trans hx224_0
            replace hx224_1 := (HB.out.cell (World.block_lt_of_cell? w _ hx224_1)).trans hx224_1
            replace p224 := eq_true p224
            replace q224 := eq_true q224
            go_wp2_with (first | ((with_reducible refine gate_callee (f := 51) rfl ?_); refine goesL_ (some 20) rfl rfl Tryd.func51 (by kernel_rfl) rfl #[.int .i64 ((rd_T79 l0_4 x5_1).f0), .int .i64 a1] rfl (by (try simp only [List.map_toArray, List.map_cons, List.map_nil]); first | done | rfl | (simp only [List.length_drop, List.length_take]; rfl)) ?_; (with_reducible refine (zoneinforef01_Fits.calls k1 ((rd_T79 l0_4 x5_1).f0) a1 false _ A6.out).mono ?_); rintro e w' ⟨rfl, ⟨nd, rfl⟩⟩; refine ⟨_, rfl, ?_⟩))
            go_ret
            exact ⟨by first | rfl | (simp [errW_none, errW_some] <;> rfl) | (simp [*, errW_none, errW_some] <;> rfl), by repeat (first | (with_reducible first | exact HB.out | apply below_alloc | apply pw_below_drewN | apply below_drew1 | refine below_set ?_ GE223.out) | exact HB.out)⟩
        · rw [if_neg c5] at H
          exact absurd H (by simp)
      · rw [if_neg c4] at H
        have c4b0 : decide (x5_1 < (l0_4.length : Int)) = false := decide_eq_false c4
        clear c4
        by_cases c10 : (l0_0.length : Int) = (l0_1.length : Int)
        · rw [if_pos c10] at H
          have c10b0 : ((l0_0.length : Int) == (l0_1.length : Int)) = true := beq_iff_eq.mpr c10
          have c10b1 : ((l0_0.length : Int) != (l0_1.length : Int)) = false := bne_eq_false_iff_eq.mpr c10
          have c10b2 : (l0_0.length == l0_1.length) = true := by first | simpa using c10 | (simp at c10 ⊢; omega)
          clear c10
          replace H := Option.bind_eq_some_iff.mp H
          obtain ⟨t226, A110, H⟩ := H
          replace H : (if t226 = true then ((zoneinforef19_Few.f l0_0 l0_1 l0_2 l0_3 l0_4 l0_5 l0_6).bind fun t227 => (some t227)) else (some false)) = some r := H
          have A11 := Aside0.mk A110
          clear A110
          by_cases c12 : t226 = true
          · subst c12
            have H1 : ((zoneinforef19_Few.f l0_0 l0_1 l0_2 l0_3 l0_4 l0_5 l0_6).bind fun t227 => (some t227)) = some r := by rw [if_pos rfl] at H; exact H
            clear H
            have H := H1
            clear H1
            replace H := Option.bind_eq_some_iff.mp H
            obtain ⟨t227, A130, H⟩ := H
            replace H : (some t227) = some r := H
            have A13 := Aside0.mk A130
            clear A130
            obtain rfl := Option.some.inj H
            have hcz14_0 : wr.cell? ⟨gb223, 0, none⟩ = some (.slice A0_0 l0_0.length c0_0) := (blk_cell BK223.out 0).trans rfl
            have hcz14_1 : wr.cell? ⟨gb223, 1, none⟩ = some (.slice A0_1 l0_1.length c0_1) := (blk_cell BK223.out 1).trans rfl
            have hcz14_2 : wr.cell? ⟨gb223, 2, none⟩ = some (.slice A0_2 l0_2.length c0_2) := (blk_cell BK223.out 2).trans rfl
            have hcz14_3 : wr.cell? ⟨gb223, 3, none⟩ = some (.slice A0_3 l0_3.length c0_3) := (blk_cell BK223.out 3).trans rfl
            have hcz14_4 : wr.cell? ⟨gb223, 4, none⟩ = some (.slice A0_4 l0_4.length c0_4) := (blk_cell BK223.out 4).trans rfl
            have hcz14_5 : wr.cell? ⟨gb223, 5, none⟩ = some (.slice A0_5 l0_5.length c0_5) := (blk_cell BK223.out 5).trans rfl
            have hcz14_6 : wr.cell? ⟨gb223, 6, none⟩ = some (.slice A0_6 l0_6.length c0_6) := (blk_cell BK223.out 6).trans rfl
            have hfz14_0 := blk_frozen BK223.out 0
            have hfz14_1 := blk_frozen BK223.out 1
            have hfz14_2 := blk_frozen BK223.out 2
            have hfz14_3 := blk_frozen BK223.out 3
            have hfz14_4 := blk_frozen BK223.out 4
            have hfz14_5 := blk_frozen BK223.out 5
            have hfz14_6 := blk_frozen BK223.out 6
            go_wp2_with (first | (go_at_call 52; (with_reducible refine (zoneinforef15_Fit.calls k1 _ _ l0_0 a1 true _ ?side1 ?side2 A11.out).mono ?_); (case side1 => repeat (first | exact (Kd.C_below HR0_0.out HB.out) | (with_reducible refine Kd.C_alloc ?_ _) | (with_reducible refine Kd.C_drewN ?_ _) | (with_reducible refine Kd.C_drew ?_))); (case side2 => exact HC0_0.out); rintro e w' ⟨rfl, ⟨nd, rfl⟩⟩) | (go_at_call 10; (with_reducible refine (zoneinforef19_Few.calls _ _ l0_0 _ _ l0_1 _ _ l0_2 _ _ l0_3 _ _ l0_4 _ _ l0_5 _ _ l0_6 t227 _ ?side1 ?side2 ?side3 ?side4 ?side5 ?side6 ?side7 ?side8 ?side9 ?side10 ?side11 ?side12 ?side13 ?side14 A13.out).mono ?_); (case side1 => repeat (first | exact (Kd.C_below HR0_0.out (by repeat (first | (with_reducible first | exact HB.out | apply below_alloc | apply pw_below_drewN | apply below_drew1 | refine below_set ?_ GE223.out) | exact HB.out))) | (with_reducible refine Kd.C_alloc ?_ _) | (with_reducible refine Kd.C_drewN ?_ _) | (with_reducible refine Kd.C_drew ?_))); (case side2 => exact HC0_0.out); (case side3 => repeat (first | exact (Kd.C_below HR0_1.out (by repeat (first | (with_reducible first | exact HB.out | apply below_alloc | apply pw_below_drewN | apply below_drew1 | refine below_set ?_ GE223.out) | exact HB.out))) | (with_reducible refine Kd.C_alloc ?_ _) | (with_reducible refine Kd.C_drewN ?_ _) | (with_reducible refine Kd.C_drew ?_))); (case side4 => exact HC0_1.out); (case side5 => repeat (first | exact (Kd.C_below HR0_2.out (by repeat (first | (with_reducible first | exact HB.out | apply below_alloc | apply pw_below_drewN | apply below_drew1 | refine below_set ?_ GE223.out) | exact HB.out))) | (with_reducible refine Kd.C_alloc ?_ _) | (with_reducible refine Kd.C_drewN ?_ _) | (with_reducible refine Kd.C_drew ?_))); (case side6 => exact HC0_2.out); (case side7 => repeat (first | exact (Kd.C_below HR0_3.out (by repeat (first | (with_reducible first | exact HB.out | apply below_alloc | apply pw_below_drewN | apply below_drew1 | refine below_set ?_ GE223.out) | exact HB.out))) | (with_reducible refine Kd.C_alloc ?_ _) | (with_reducible refine Kd.C_drewN ?_ _) | (with_reducible refine Kd.C_drew ?_))); (case side8 => exact HC0_3.out); (case side9 => repeat (first | exact (Kd.C_below HR0_4.out (by repeat (first | (with_reducible first | exact HB.out | apply below_alloc | apply pw_below_drewN | apply below_drew1 | refine below_set ?_ GE223.out) | exact HB.out))) | (with_reducible refine Kd.C_alloc ?_ _) | (with_reducible refine Kd.C_drewN ?_ _) | (with_reducible refine Kd.C_drew ?_))); (case side10 => exact HC0_4.out); (case side11 => repeat (first | exact (Kd.C_below HR0_5.out (by repeat (first | (with_reducible first | exact HB.out | apply below_alloc | apply pw_below_drewN | apply below_drew1 | refine below_set ?_ GE223.out) | exact HB.out))) | (with_reducible refine Kd.C_alloc ?_ _) | (with_reducible refine Kd.C_drewN ?_ _) | (with_reducible refine Kd.C_drew ?_))); (case side12 => exact HC0_5.out); (case side13 => repeat (first | exact (Kd.C_below HR0_6.out (by repeat (first | (with_reducible first | exact HB.out | apply below_alloc | apply pw_below_drewN | apply below_drew1 | refine below_set ?_ GE223.out) | exact HB.out))) | (with_reducible refine Kd.C_alloc ?_ _) | (with_reducible refine Kd.C_drewN ?_ _) | (with_reducible refine Kd.C_drew ?_))); (case side14 => exact HC0_6.out); rintro e w15 ⟨rfl, hb⟩; have n0_ := Aside0.mk (blk_below (g := gb223) (o := .cells #[.slice A0_0 l0_0.length c0_0, .slice A0_1 l0_1.length c0_1, .slice A0_2 l0_2.length c0_2, .slice A0_3 l0_3.length c0_3, .slice A0_4 l0_4.length c0_4, .slice A0_5 l0_5.length c0_5, .slice A0_6 l0_6.length c0_6] 34 (0, 0)) (by (with_reducible repeat (first | refine blk_drewN ?_ _ | refine blk_drew ?_ | refine blk_alloc ?_ _)); exact BK223.out) hb); have n1_ := Aside0.mk (below_step (by repeat (first | (with_reducible first | exact HB.out | apply below_alloc | apply pw_below_drewN | apply below_drew1 | refine below_set ?_ GE223.out) | exact HB.out)) hb); clear BK223; clear HB; have BK223 := n0_; have HB := n1_; clear n0_ n1_; (try clear hb); (try clear hb2); (try clear hk); (try clear hi)))
            go_ret
            exact ⟨by first | rfl | (simp [errW_none, errW_some] <;> rfl) | (simp [*, errW_none, errW_some] <;> rfl), by repeat (first | (with_reducible first | exact HB.out | apply below_alloc | apply pw_below_drewN | apply below_drew1 | refine below_set ?_ GE223.out) | exact HB.out)⟩
          · replace c12 := Bool.eq_false_iff.mpr c12
            subst c12
            have H1 : (some false) = some r := by rw [if_neg (show ¬ (false = true) by decide)] at H; exact H
            clear H
            have H := H1
            clear H1
            obtain rfl := Option.some.inj H
            have hcz16_0 : wr.cell? ⟨gb223, 0, none⟩ = some (.slice A0_0 l0_0.length c0_0) := (blk_cell BK223.out 0).trans rfl
            have hcz16_1 : wr.cell? ⟨gb223, 1, none⟩ = some (.slice A0_1 l0_1.length c0_1) := (blk_cell BK223.out 1).trans rfl
            have hcz16_2 : wr.cell? ⟨gb223, 2, none⟩ = some (.slice A0_2 l0_2.length c0_2) := (blk_cell BK223.out 2).trans rfl
            have hcz16_3 : wr.cell? ⟨gb223, 3, none⟩ = some (.slice A0_3 l0_3.length c0_3) := (blk_cell BK223.out 3).trans rfl
            have hcz16_4 : wr.cell? ⟨gb223, 4, none⟩ = some (.slice A0_4 l0_4.length c0_4) := (blk_cell BK223.out 4).trans rfl
            have hcz16_5 : wr.cell? ⟨gb223, 5, none⟩ = some (.slice A0_5 l0_5.length c0_5) := (blk_cell BK223.out 5).trans rfl
            have hcz16_6 : wr.cell? ⟨gb223, 6, none⟩ = some (.slice A0_6 l0_6.length c0_6) := (blk_cell BK223.out 6).trans rfl
            have hfz16_0 := blk_frozen BK223.out 0
            have hfz16_1 := blk_frozen BK223.out 1
            have hfz16_2 := blk_frozen BK223.out 2
            have hfz16_3 := blk_frozen BK223.out 3
            have hfz16_4 := blk_frozen BK223.out 4
            have hfz16_5 := blk_frozen BK223.out 5
            have hfz16_6 := blk_frozen BK223.out 6
            go_wp2_with (first | (go_at_call 52; (with_reducible refine (zoneinforef15_Fit.calls k1 _ _ l0_0 a1 false _ ?side1 ?side2 A11.out).mono ?_); (case side1 => repeat (first | exact (Kd.C_below HR0_0.out HB.out) | (with_reducible refine Kd.C_alloc ?_ _) | (with_reducible refine Kd.C_drewN ?_ _) | (with_reducible refine Kd.C_drew ?_))); (case side2 => exact HC0_0.out); rintro e w' ⟨rfl, ⟨nd, rfl⟩⟩))
            go_ret
            exact ⟨by first | rfl | (simp [errW_none, errW_some] <;> rfl) | (simp [*, errW_none, errW_some] <;> rfl), by repeat (first | (with_reducible first | exact HB.out | apply below_alloc | apply pw_below_drewN | apply below_drew1 | refine below_set ?_ GE223.out) | exact HB.out)⟩
        · rw [if_neg c10] at H
          have c10b0 : ((l0_0.length : Int) == (l0_1.length : Int)) = false := beq_eq_false_iff_ne.mpr c10
          have c10b1 : ((l0_0.length : Int) != (l0_1.length : Int)) = true := bne_iff_ne.mpr c10
          have c10b2 : (l0_0.length == l0_1.length) = false := by first | simpa using c10 | (simp at c10 ⊢; omega)
          obtain rfl := Option.some.inj H
          have hcz17_0 : wr.cell? ⟨gb223, 0, none⟩ = some (.slice A0_0 l0_0.length c0_0) := (blk_cell BK223.out 0).trans rfl
          have hcz17_1 : wr.cell? ⟨gb223, 1, none⟩ = some (.slice A0_1 l0_1.length c0_1) := (blk_cell BK223.out 1).trans rfl
          have hcz17_2 : wr.cell? ⟨gb223, 2, none⟩ = some (.slice A0_2 l0_2.length c0_2) := (blk_cell BK223.out 2).trans rfl
          have hcz17_3 : wr.cell? ⟨gb223, 3, none⟩ = some (.slice A0_3 l0_3.length c0_3) := (blk_cell BK223.out 3).trans rfl
          have hcz17_4 : wr.cell? ⟨gb223, 4, none⟩ = some (.slice A0_4 l0_4.length c0_4) := (blk_cell BK223.out 4).trans rfl
          have hcz17_5 : wr.cell? ⟨gb223, 5, none⟩ = some (.slice A0_5 l0_5.length c0_5) := (blk_cell BK223.out 5).trans rfl
          have hcz17_6 : wr.cell? ⟨gb223, 6, none⟩ = some (.slice A0_6 l0_6.length c0_6) := (blk_cell BK223.out 6).trans rfl
          have hfz17_0 := blk_frozen BK223.out 0
          have hfz17_1 := blk_frozen BK223.out 1
          have hfz17_2 := blk_frozen BK223.out 2
          have hfz17_3 := blk_frozen BK223.out 3
          have hfz17_4 := blk_frozen BK223.out 4
          have hfz17_5 := blk_frozen BK223.out 5
          have hfz17_6 := blk_frozen BK223.out 6
          go_wp2
          go_ret
          exact ⟨by first | rfl | (simp [errW_none, errW_some] <;> rfl) | (simp [*, errW_none, errW_some] <;> rfl), by repeat (first | (with_reducible first | exact HB.out | apply below_alloc | apply pw_below_drewN | apply below_drew1 | refine below_set ?_ GE223.out) | exact HB.out)⟩

-- NOT PRINTED: function 36 (zoneinforef14_Lengths)

-- NOT PRINTED: function 24 (zoneinforef14_Sum)

-- NOT PRINTED: function 4 (zoneinfolaw19_BlockRoundTrip)

end Go.Proofs.YtkdhdhkfkgjcnaaDoor.PBlockRoundTrip
