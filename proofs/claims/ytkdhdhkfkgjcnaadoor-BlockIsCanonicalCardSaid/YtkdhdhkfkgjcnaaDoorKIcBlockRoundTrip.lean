/- The text Ic. -/
import Derived.Test.YtkdhdhkfkgjcnaaDoorKHcBlockRoundTrip
import Derived.Test.YtkdhdhkfkgjcnaaDoorKPdBlockRoundTrip
namespace Go.Proofs.YtkdhdhkfkgjcnaaDoor.PBlockRoundTrip
open Go.RowKit Go.Proofs.YtkdhdhkfkgjcnaaDoorW.PrintWords Go.Proofs.YtkdhdhkfkgjcnaaDoorW.PrintMore
set_option linter.unusedSimpArgs false
set_option linter.unusedVariables false

theorem SizeN_c (b : Bool) (w : World) : Calls Tryd.prog 11 #[.bool b] w fun e w' => e = .returned (.int .i64 ((if b then 8 else 4 : Nat) : Int)) ∧ Drawn0 w w' :=
  zoneinforef14_Size.calls b _ w (by cases b <;> rfl)
/-- What holds in the law while it goes. -/
structure IS (w W : World) (A : Option Addr) (l : List Int) (v a1 a2 a3 a4 a5 a6 : Int) : Prop where
  r : Kd.C (Kd.int .u8) W A l.length l
  h : LH W w.heap.size v a1 a2 a3 a4 a5 a6
  g : Gl W
  b : Below w.heap.size w W
theorem IS.below {w W W' : World} {A : Option Addr} {l : List Int} {v a1 a2 a3 a4 a5 a6 : Int} (h : IS w W A l v a1 a2 a3 a4 a5 a6) (hb : Below W.heap.size W W') : IS w W' A l v a1 a2 a3 a4 a5 a6 :=
  ⟨Kd.C_below h.r hb, h.h.below hb, h.g.below hb, h.b.trans (hb.mono h.b.size)⟩
theorem IS.new (w : World) {A : Option Addr} {l : List Int} (v a1 a2 a3 a4 a5 a6 : Int) (hr : Kd.C (Kd.int .u8) w A l.length l) (hg : Gl w) : IS w (w.alloc (.cells #[.int .i64 v, .int .u32 a1, .int .u32 a2, .int .u32 a3, .int .u32 a4, .int .u32 a5, .int .u32 a6] 28)) A l v a1 a2 a3 a4 a5 a6 :=
  have hb := below_alloc (Below.refl _ w) (.cells #[.int .i64 v, .int .u32 a1, .int .u32 a2, .int .u32 a3, .int .u32 a4, .int .u32 a5, .int .u32 a6] 28)
  ⟨Kd.C_below hr hb, LH.new _ _ _ _ _ _ _ _, hg.below hb, hb⟩
/-- block.Decode of a slice cut at its end. -/
theorem IS.dec {w W : World} {A : Option Addr} {l : List Int} {v a1 a2 a3 a4 a5 a6 : Int} {s : Nat} (h : IS w W A l v a1 a2 a3 a4 a5 a6) (c : Nat) (at_ : Int) (hs : s = 4 ∨ s = 8) (hlc : l.length ≤ c) (hB : Byt l) (hH : Hd a1 a2 a3 a4 a5 a6) (hn : l.length ≤ 1000) :
    Calls Tryd.prog 12 #[.agg #[.slice A l.length c, .int .i64 0, .int .i64 0, .int .i64 0], .agg #[.int .i64 v, .int .u32 a1, .int .u32 a2, .int .u32 a3, .int .u32 a4, .int .u32 a5, .int .u32 a6], .int .i64 s, .int .i64 at_] W fun e w' =>
      ∃ (y : BV) (b : PB) (q er u : Int), e = .returned (.tuple #[.agg #[.slice y.A0 b.times.length y.c0, .slice y.A1 b.index.length y.c1, .slice y.A2 b.types.length y.c2, .slice y.A3 b.chars.length y.c3, .slice y.A4 b.leaps.length y.c4, .slice y.A5 b.std.length y.c5, .slice y.A6 b.ut.length y.c6], .agg #[.slice A l.length c, .int .i64 q, .int .i64 er, .int .i64 u]]) ∧
        Aside0 (DecRes l 0 0 a1 a2 a3 a4 a5 a6 s at_ b q er u) ∧ Aside0 (BlkR W.heap.size w' y b) ∧ Below W.heap.size W w' :=
  Decode_c A c l 0 0 v a1 a2 a3 a4 a5 a6 at_ s hs W h.r hlc hB h.g hH (by omega) (by omega) (by omega)
theorem req_yz (y : BV) (W : World) (h : BlkC W y zB) :
    Calls Tryd.prog 14 #[.agg #[.slice y.A0 zB.times.length y.c0, .slice y.A1 zB.index.length y.c1, .slice y.A2 zB.types.length y.c2, .slice y.A3 zB.chars.length y.c3, .slice y.A4 zB.leaps.length y.c4, .slice y.A5 zB.std.length y.c5, .slice y.A6 zB.ut.length y.c6], .agg #[.slice none 0 0, .slice none 0 0, .slice none 0 0, .slice none 0 0, .slice none 0 0, .slice none 0 0, .slice none 0 0]] W fun e w' => e = .returned (.bool true) ∧ Below W.heap.size W w' :=
  req_zz y W h
/-- Header, its counts told as a header's. -/
theorem hdr_of (y : BV) (b : PB) (v a1 a2 a3 a4 a5 a6 : Int) (W : World) (h : BlkC W y b) (hm : Sw b) (hc : Cnt b a1 a2 a3 a4 a5 a6) :
    Calls Tryd.prog 16 #[.agg #[.slice y.A0 b.times.length y.c0, .slice y.A1 b.index.length y.c1, .slice y.A2 b.types.length y.c2, .slice y.A3 b.chars.length y.c3, .slice y.A4 b.leaps.length y.c4, .slice y.A5 b.std.length y.c5, .slice y.A6 b.ut.length y.c6], .int .i64 v] W fun e w' => e = .returned (.agg #[.int .i64 v, .int .u32 a1, .int .u32 a2, .int .u32 a3, .int .u32 a4, .int .u32 a5, .int .u32 a6]) ∧ Below W.heap.size W w' := by
  have h2 := Header_c y b v W h hm
  rw [hc.c1, hc.c2, hc.c3, hc.c4, hc.c5, hc.c6] at h2
  exact h2
/-- The bytes that were read are those that are written. -/
theorem same_of (A' A : Option Addr) (c' c : Nat) (d l : List Int) (q : Nat) (W : World) (hr : Kd.C (Kd.int .u8) W A' d.length d) (hc' : d.length ≤ c') (h : Kd.C (Kd.int .u8) W A l.length l) (hc : l.length ≤ c) (hq : q ≤ l.length) (hm : l.length ≤ 1000) (hd : d = l.take q) :
    Calls Tryd.prog 20 #[.slice A' d.length c', .slice A q c] W fun e w' => e = .returned (.bool true) ∧ Drawn0 W w' := by
  subst hd
  have h2 := C_cut (d := Kd.int .u8) h 0 q q (by omega) hq (Nat.le_refl _)
  have hl : (l.take q).length = q := by rw [List.length_take]; omega
  have h3 : Kd.C (Kd.int .u8) W A (l.take q).length (l.take q) := by
    rw [hl]
    by_cases h0 : q = 0
    · subst h0
      exact ⟨by simp, by omega, fun hp => absurd hp (by omega)⟩
    · simpa [h0, Addr.add] using h2
  have h4 := zoneinforef01_Same.calls 1001 A' c' (l.take q) A c (l.take q) true W hr hc' h3 (by omega) (by rw [zoneinforef01_Same_e _ _ (by omega) 1001 (by omega), eqB_true rfl])
  rw [hl] at h4 ⊢
  exact h4

set_option maxRecDepth 50000 in
set_option maxHeartbeats 40000000 in
theorem IC_short (A : Option Addr) (c : Nat) (l : List Int) (v a1 a2 a3 a4 a5 a6 : Int) (wide : Bool) (q0 : Int) (w : World) (hlen : l.length ≤ 1000) (hC : Kd.C (Kd.int .u8) w A l.length l) (hlc : l.length ≤ c) (hB : Byt l) (hq : 0 ≤ q0) (hq' : q0 ≤ 255) (hG : Gl w) (hH : Hd a1 a2 a3 a4 a5 a6) :
    Calls Tryd.prog 5 #[.slice A l.length c, .agg #[.int .i64 v, .int .u32 a1, .int .u32 a2, .int .u32 a3, .int .u32 a4, .int .u32 a5, .int .u32 a6], .bool wide, .int .u8 q0] w fun e w' => e = .returned (.bool true) ∧ Below w.heap.size w w' := by
  have HAW := Aside0.mk (fun W (h : Gl W) => awake_c W h)
  have HH := Aside0.mk hH
  have HY0 := Aside0.mk hB
  have HSZ := Aside0.mk (fun W => SizeN_c wide W)
  obtain ⟨s, hsz⟩ : ∃ s : Nat, (if wide then 8 else 4) = s := ⟨_, rfl⟩
  have hs : Aside0 (s = 4 ∨ s = 8) := ⟨by rw [← hsz]; cases wide <;> simp⟩
  have hs4 : 4 ≤ s := by rcases hs.out with h | h <;> omega
  have hs8 : s ≤ 8 := by rcases hs.out with h | h <;> omega
  rw [hsz] at HSZ
  have HI := Aside0.mk (IS.new w v a1 a2 a3 a4 a5 a6 hC hG)
  clear hG hH hsz hC hB
  go_enter Tryd.func5, Tryd.ntmps5
  go_wp2_with (fail)
  (with_reducible refine (HAW.out _ HI.out.g).mono ?_)
  rintro e w1 ⟨rfl, hb⟩
  have HI1 := Aside0.mk (HI.out.below hb)
  clear hb HI
  go_wp2_with (fail)
  (with_reducible refine (HSZ.out _).mono ?_)
  rintro e W0 ⟨rfl, hd⟩
  have HI2 := Aside0.mk (HI1.out.below hd.below)
  clear hd HI1 HSZ HAW
  have HDf := Aside0.mk (fun W (h : Below W0.heap.size W0 W) => (HI2.out.below h).dec c 5 hs.out hlc HY0.out HH.out hlen)
  go_upto_region 4 with (fail)
  go_cut [10, 11] (fun s6 s7 W => ∃ (g6 g7 : Nat) (y : BV) (b : PB) (q er u : Int), s6 = .pointer (some ⟨g6, 0, none⟩) ∧ s7 = .pointer (some ⟨g7, 0, none⟩) ∧ Aside0 (DecRes l 0 0 a1 a2 a3 a4 a5 a6 s 5 b q er u) ∧ Aside0 (Below W0.heap.size W0 W) ∧ Aside0 (BlkR W0.heap.size W y b ∧ LB W g6 y b ∧ LC W g7 A l.length c q er u))
  case first =>
    go_region_held3 (fun w' => w'.cell? ⟨w.heap.size, 0, none⟩ = some (.int .i64 v) ∧ w'.cell? ⟨w.heap.size, 1, none⟩ = some (.int .u32 a1) ∧ w'.cell? ⟨w.heap.size, 2, none⟩ = some (.int .u32 a2) ∧ w'.cell? ⟨w.heap.size, 3, none⟩ = some (.int .u32 a3) ∧ w'.cell? ⟨w.heap.size, 4, none⟩ = some (.int .u32 a4) ∧ w'.cell? ⟨w.heap.size, 5, none⟩ = some (.int .u32 a5) ∧ w'.cell? ⟨w.heap.size, 6, none⟩ = some (.int .u32 a6))
      ((refine (HI2.out.below ?_).h.all; (repeat (first | (with_reducible exact HBd.out) | (with_reducible exact HBs.out) | (with_reducible exact HBn.out) | (with_reducible exact Below.refl _ _) | (with_reducible refine Below.drew ?_) | (with_reducible refine pw_below_drewN ?_ _) | (with_reducible refine below_alloc ?_ _) | (with_reducible refine Below.setCell ?_ (by first | omega | (simp; done) | (simp; omega)) _))); done))
      (first | (go_at_call 23; (with_reducible refine (New_c _ _ _ _).mono ?_); rintro e wn ⟨rfl, hn⟩; have HBn : Aside0 (Below W0.heap.size W0 wn) := ⟨Below.trans (by (repeat (first | (with_reducible exact HBd.out) | (with_reducible exact HBs.out) | (with_reducible exact HBn.out) | (with_reducible exact Below.refl _ _) | (with_reducible refine Below.drew ?_) | (with_reducible refine pw_below_drewN ?_ _) | (with_reducible refine below_alloc ?_ _) | (with_reducible refine Below.setCell ?_ (by first | omega | (simp; done) | (simp; omega)) _)))) (hn.mono (by first | omega | (simp; done) | (simp; omega)))⟩; have hs_wn := HBn.out.size; have hsz_ := hn.size; (try have hzq : W0.heap.size < wn.heap.size := (by first | omega | (have h9 := hsz_; simp at h9; omega))); (try have hzq : W0.heap.size + 1 < wn.heap.size := (by first | omega | (have h9 := hsz_; simp at h9; omega))); (try simp at hsz_); obtain ⟨hc_wn, hf_wn⟩ := bcell hn; have HZ_wn := Aside0.mk (fun (g : Nat) (o : Obj) (hg : _ = some o) => blk_below (g := g) (o := o) hg hn); clear hn hsz_) | (go_at_call 12; (with_reducible refine (HDf.out _ ?h).mono ?_); (case h => (repeat (first | (with_reducible exact HBd.out) | (with_reducible exact HBs.out) | (with_reducible exact HBn.out) | (with_reducible exact Below.refl _ _) | (with_reducible refine Below.drew ?_) | (with_reducible refine pw_below_drewN ?_ _) | (with_reducible refine below_alloc ?_ _) | (with_reducible refine Below.setCell ?_ (by first | omega | (simp; done) | (simp; omega)) _)))); rintro e wd ⟨y, b, q, er, u, rfl, HDR, HY, hd⟩; have HBd : Aside0 (Below W0.heap.size W0 wd) := ⟨Below.trans (by (repeat (first | (with_reducible exact HBd.out) | (with_reducible exact HBs.out) | (with_reducible exact HBn.out) | (with_reducible exact Below.refl _ _) | (with_reducible refine Below.drew ?_) | (with_reducible refine pw_below_drewN ?_ _) | (with_reducible refine below_alloc ?_ _) | (with_reducible refine Below.setCell ?_ (by first | omega | (simp; done) | (simp; omega)) _)))) (hd.mono (by first | omega | (simp; done) | (simp; omega)))⟩; have hs_wd := HBd.out.size; have hsz_ := hd.size; (try have hzq : W0.heap.size < wd.heap.size := (by first | omega | (have h9 := hsz_; simp at h9; omega))); (try have hzq : W0.heap.size + 1 < wd.heap.size := (by first | omega | (have h9 := hsz_; simp at h9; omega))); (try have hzq : wn.heap.size < wd.heap.size := (by first | omega | (have h9 := hsz_; simp at h9; omega))); (try have hzq : wn.heap.size + 1 < wd.heap.size := (by first | omega | (have h9 := hsz_; simp at h9; omega))); (try simp at hsz_); obtain ⟨hc_wd, hf_wd⟩ := bcell hd; have HZ_wd := Aside0.mk (fun (g : Nat) (o : Obj) (hg : _ = some o) => blk_below (g := g) (o := o) hg hd); clear hd hsz_))
    all_goals go_wp2_with (fail)
    all_goals go_meet
    all_goals exact ⟨_, _, y, b, q, er, u, rfl, rfl, HDR, rg_end HY.out (by first | omega | (simp; done) | (simp; omega)) (by (first | exact .inl (by omega) | exact .inr ⟨_, (by (repeat (first | (with_reducible exact blk_new _ _) | (with_reducible exact blk_new1 _ _ _) | (with_reducible refine blk_newS ?_ <;> (simp; done)) | (with_reducible refine blk_drew ?_) | (with_reducible refine blk_drewN ?_ _) | (with_reducible refine blk_alloc ?_ _) | (with_reducible refine fin6 ?_ _ _ _ _ _ _ _) | (with_reducible refine fin7 ?_ _ _ _ _) | (with_reducible refine HZ_wd.out _ _ ?_) | (with_reducible refine HZ_wn.out _ _ ?_) | (with_reducible refine blk_farN ?_ (by omega) _))))⟩)) (by (first | exact .inl (by omega) | exact .inr ⟨_, (by (repeat (first | (with_reducible exact blk_new _ _) | (with_reducible exact blk_new1 _ _ _) | (with_reducible refine blk_newS ?_ <;> (simp; done)) | (with_reducible refine blk_drew ?_) | (with_reducible refine blk_drewN ?_ _) | (with_reducible refine blk_alloc ?_ _) | (with_reducible refine fin6 ?_ _ _ _ _ _ _ _) | (with_reducible refine fin7 ?_ _ _ _ _) | (with_reducible refine HZ_wd.out _ _ ?_) | (with_reducible refine HZ_wn.out _ _ ?_) | (with_reducible refine blk_farN ?_ (by omega) _))))⟩)) (by (intro k h1 h2 h3; repeat (first | (with_reducible rfl) | (rw [heap_far _ _ _ _ k h2]) | (rw [heap_far _ _ _ _ k h3]) | (rw [Below.heap_alloc _ _ _ (by first | omega | (simp; omega))])))) (by (repeat (first | (with_reducible exact HBd.out) | (with_reducible exact HBs.out) | (with_reducible exact HBn.out) | (with_reducible exact Below.refl _ _) | (with_reducible refine Below.drew ?_) | (with_reducible refine pw_below_drewN ?_ _) | (with_reducible refine below_alloc ?_ _) | (with_reducible refine Below.setCell ?_ (by first | omega | (simp; done) | (simp; omega)) _)))) (by (repeat (first | (with_reducible exact blk_new _ _) | (with_reducible exact blk_new1 _ _ _) | (with_reducible refine blk_newS ?_ <;> (simp; done)) | (with_reducible refine blk_drew ?_) | (with_reducible refine blk_drewN ?_ _) | (with_reducible refine blk_alloc ?_ _) | (with_reducible refine fin6 ?_ _ _ _ _ _ _ _) | (with_reducible refine fin7 ?_ _ _ _ _) | (with_reducible refine HZ_wd.out _ _ ?_) | (with_reducible refine HZ_wn.out _ _ ?_) | (with_reducible refine blk_farN ?_ (by omega) _)))) (by (repeat (first | (with_reducible exact blk_new _ _) | (with_reducible exact blk_new1 _ _ _) | (with_reducible refine blk_newS ?_ <;> (simp; done)) | (with_reducible refine blk_drew ?_) | (with_reducible refine blk_drewN ?_ _) | (with_reducible refine blk_alloc ?_ _) | (with_reducible refine fin6 ?_ _ _ _ _ _ _ _) | (with_reducible refine fin7 ?_ _ _ _ _) | (with_reducible refine HZ_wd.out _ _ ?_) | (with_reducible refine HZ_wn.out _ _ ?_) | (with_reducible refine blk_farN ?_ (by omega) _))))⟩
  case rest =>
  obtain ⟨g10, g11, y, b, q, er, u, rfl, rfl, HDR, HB, HR⟩ := hcut
  obtain ⟨V1, rfl⟩ : ∃ V, V = wc := ⟨_, rfl⟩
  have HI3 := Aside0.mk (HI2.out.below HB.out)
  clear HDf HB HI2
  rcases HDR.out.view HY0.out HH.out hs.out (by omega) with ⟨rfl, rfl, rfl, rfl, -⟩ | ⟨rfl, rfl, rfl, hq0, hql⟩ | ⟨rfl, rfl, hq0, hql, hE, hCnt, hSw, hT⟩
  · clear HDR
    obtain ⟨z0, z1, z2, z3, z4, z5, z6⟩ := HR.out.2.1.all
    obtain ⟨-, q1, q2, q3⟩ := HR.out.2.2.all
    go_wp2_with (fail)
    (with_reducible refine (req_yz y _ HR.out.1.toC).mono ?_)
    rintro e V2 ⟨rfl, hb⟩
    have HI4 := Aside0.mk (HI3.out.below hb)
    have HL4 := HR.out.2.2.below hb
    clear hb HI3 HR z0 z1 z2 z3 z4 z5 z6 q1 q2 q3
    obtain ⟨-, q1, q2, q3⟩ := HL4.all
    clear HL4
    go_wp2
    go_ret
    exact ⟨rfl, HI4.out.b⟩
  · clear HDR
    obtain ⟨z0, z1, z2, z3, z4, z5, z6⟩ := HR.out.2.1.all
    obtain ⟨-, q1, q2, q3⟩ := HR.out.2.2.all
    go_wp2_with (fail)
    (with_reducible refine (req_yz y _ HR.out.1.toC).mono ?_)
    rintro e V2 ⟨rfl, hb⟩
    have HI4 := Aside0.mk (HI3.out.below hb)
    have HL4 := HR.out.2.2.below hb
    clear hb HI3 HR z0 z1 z2 z3 z4 z5 z6 q1 q2 q3
    obtain ⟨-, q1, q2, q3⟩ := HL4.all
    clear HL4
    go_wp2
    go_ret
    exact ⟨rfl, HI4.out.b⟩
  · clear HDR
    obtain ⟨-, q1, q2, q3⟩ := HR.out.2.2.all
    go_upto_region 7 with (fail)
    obtain ⟨T, rfl⟩ := Int.eq_ofNat_of_zero_le hq0
    rw [Int.toNat_natCast] at hE
    obtain ⟨d, hd⟩ : ∃ d, encB b s = d := ⟨_, rfl⟩
    rw [hd] at hE
    have HF := Aside0.mk (And.intro hE (And.intro hCnt (And.intro hSw hT)))
    have hTl : T ≤ l.length := by omega
    have HEN : Aside0 (∀ W, Below V1.heap.size V1 W → Calls Tryd.prog 21 #[.agg #[.slice y.A0 b.times.length y.c0, .slice y.A1 b.index.length y.c1, .slice y.A2 b.types.length y.c2, .slice y.A3 b.chars.length y.c3, .slice y.A4 b.leaps.length y.c4, .slice y.A5 b.std.length y.c5, .slice y.A6 b.ut.length y.c6], .int .i64 s] W fun e w' => ∃ A' c', e = .returned (.slice A' d.length c') ∧ Aside0 (Kd.C (Kd.int .u8) w' A' d.length d ∧ d.length ≤ c') ∧ Below W.heap.size W w') := ⟨fun W hW => by
      refine (Encode_c y b s hs8 W (HR.out.1.toC.below hW) hSw.sm).mono ?_
      rw [hd]
      rintro e w' ⟨A', c', rfl, hr, hb⟩
      exact ⟨A', c', rfl, ⟨R_le hr⟩, hb⟩⟩
    have HHD := Aside0.mk (fun W (hW : Below V1.heap.size V1 W) => hdr_of y b v a1 a2 a3 a4 a5 a6 W (HR.out.1.toC.below hW) HF.out.2.2.1 HF.out.2.1)
    clear hE hCnt hSw hT hd hql
    have hg1 : decide ((l.length : Int) < (T : Int)) = false := decide_eq_false (by omega)
    have hg2 : decide (l.length < T) = false := decide_eq_false (by omega)
    have hg3 : decide ((T : Int) ≤ (l.length : Int)) = true := decide_eq_true (by omega)
    have hTc : (T : Int) ≤ (c : Int) := by omega
    have hTl2 : (T : Int) ≤ (l.length : Int) := by omega
    go_cut [89] (fun s89 W => s89 = .bool false ∧ Aside0 (Below V1.heap.size V1 W))
    case first =>
      go_region_held3 (fun w' => w'.cell? ⟨g10, 0, none⟩ = some (.slice y.A0 b.times.length y.c0) ∧ w'.cell? ⟨g10, 1, none⟩ = some (.slice y.A1 b.index.length y.c1) ∧ w'.cell? ⟨g10, 2, none⟩ = some (.slice y.A2 b.types.length y.c2) ∧ w'.cell? ⟨g10, 3, none⟩ = some (.slice y.A3 b.chars.length y.c3) ∧ w'.cell? ⟨g10, 4, none⟩ = some (.slice y.A4 b.leaps.length y.c4) ∧ w'.cell? ⟨g10, 5, none⟩ = some (.slice y.A5 b.std.length y.c5) ∧ w'.cell? ⟨g10, 6, none⟩ = some (.slice y.A6 b.ut.length y.c6) ∧ w'.cell? ⟨g11, 1, none⟩ = some (.int .i64 (T : Int)) ∧ w'.cell? ⟨w.heap.size, 0, none⟩ = some (.int .i64 v) ∧ w'.cell? ⟨w.heap.size, 1, none⟩ = some (.int .u32 a1) ∧ w'.cell? ⟨w.heap.size, 2, none⟩ = some (.int .u32 a2) ∧ w'.cell? ⟨w.heap.size, 3, none⟩ = some (.int .u32 a3) ∧ w'.cell? ⟨w.heap.size, 4, none⟩ = some (.int .u32 a4) ∧ w'.cell? ⟨w.heap.size, 5, none⟩ = some (.int .u32 a5) ∧ w'.cell? ⟨w.heap.size, 6, none⟩ = some (.int .u32 a6))
          ((refine ⟨(HR.out.2.1.below ?_).all.1, (HR.out.2.1.below ?_).all.2.1, (HR.out.2.1.below ?_).all.2.2.1, (HR.out.2.1.below ?_).all.2.2.2.1, (HR.out.2.1.below ?_).all.2.2.2.2.1, (HR.out.2.1.below ?_).all.2.2.2.2.2.1, (HR.out.2.1.below ?_).all.2.2.2.2.2.2, (HR.out.2.2.below ?_).all.2.1, (HI3.out.below ?_).h.all⟩ <;> (repeat (first | (with_reducible exact HBd.out) | (with_reducible exact HBs.out) | (with_reducible exact HBn.out) | (with_reducible exact Below.refl _ _) | (with_reducible refine Below.drew ?_) | (with_reducible refine pw_below_drewN ?_ _) | (with_reducible refine below_alloc ?_ _) | (with_reducible refine Below.setCell ?_ (by first | omega | (simp; done) | (simp; omega)) _))); done))
          (first | (go_at_call 21; (with_reducible refine (HEN.out _ ?h).mono ?_); (case h => (repeat (first | (with_reducible exact HBd.out) | (with_reducible exact HBs.out) | (with_reducible exact HBn.out) | (with_reducible exact Below.refl _ _) | (with_reducible refine Below.drew ?_) | (with_reducible refine pw_below_drewN ?_ _) | (with_reducible refine below_alloc ?_ _) | (with_reducible refine Below.setCell ?_ (by first | omega | (simp; done) | (simp; omega)) _)))); rintro e wn ⟨A1, c1, rfl, HC1, hn⟩; have HBn : Aside0 (Below V1.heap.size V1 wn) := ⟨Below.trans (by (repeat (first | (with_reducible exact HBd.out) | (with_reducible exact HBs.out) | (with_reducible exact HBn.out) | (with_reducible exact Below.refl _ _) | (with_reducible refine Below.drew ?_) | (with_reducible refine pw_below_drewN ?_ _) | (with_reducible refine below_alloc ?_ _) | (with_reducible refine Below.setCell ?_ (by first | omega | (simp; done) | (simp; omega)) _)))) (hn.mono (by first | omega | (simp; done) | (simp; omega)))⟩; have hs_wn := HBn.out.size; have hsz_ := hn.size; (try have hzq : V1.heap.size < wn.heap.size := (by first | omega | (have h9 := hsz_; simp at h9; omega))); (try have hzq : V1.heap.size + 1 < wn.heap.size := (by first | omega | (have h9 := hsz_; simp at h9; omega))); (try simp at hsz_); obtain ⟨hc_wn, hf_wn⟩ := bcell hn; have HZ_wn := Aside0.mk (fun (g : Nat) (o : Obj) (hg : _ = some o) => blk_below (g := g) (o := o) hg hn); clear hn hsz_) | (go_at_call 20; (with_reducible refine (same_of A1 A c1 c d l T _ HC1.out.1 HC1.out.2 (HI3.out.below HBn.out).r hlc hTl hlen HF.out.1).mono ?_); rintro e ws ⟨rfl, hs0⟩; have hs := hs0.below; clear hs0; have HBs : Aside0 (Below V1.heap.size V1 ws) := ⟨Below.trans (by (repeat (first | (with_reducible exact HBd.out) | (with_reducible exact HBs.out) | (with_reducible exact HBn.out) | (with_reducible exact Below.refl _ _) | (with_reducible refine Below.drew ?_) | (with_reducible refine pw_below_drewN ?_ _) | (with_reducible refine below_alloc ?_ _) | (with_reducible refine Below.setCell ?_ (by first | omega | (simp; done) | (simp; omega)) _)))) (hs.mono (by first | omega | (simp; done) | (simp; omega)))⟩; have hs_ws := HBs.out.size; have hsz_ := hs.size; (try have hzq : V1.heap.size < ws.heap.size := (by first | omega | (have h9 := hsz_; simp at h9; omega))); (try have hzq : V1.heap.size + 1 < ws.heap.size := (by first | omega | (have h9 := hsz_; simp at h9; omega))); (try have hzq : wn.heap.size < ws.heap.size := (by first | omega | (have h9 := hsz_; simp at h9; omega))); (try have hzq : wn.heap.size + 1 < ws.heap.size := (by first | omega | (have h9 := hsz_; simp at h9; omega))); (try simp at hsz_); obtain ⟨hc_ws, hf_ws⟩ := bcell hs; have HZ_ws := Aside0.mk (fun (g : Nat) (o : Obj) (hg : _ = some o) => blk_below (g := g) (o := o) hg hs); clear hs hsz_) | (go_at_call 16; (with_reducible refine (HHD.out _ ?h).mono ?_); (case h => (repeat (first | (with_reducible exact HBd.out) | (with_reducible exact HBs.out) | (with_reducible exact HBn.out) | (with_reducible exact Below.refl _ _) | (with_reducible refine Below.drew ?_) | (with_reducible refine pw_below_drewN ?_ _) | (with_reducible refine below_alloc ?_ _) | (with_reducible refine Below.setCell ?_ (by first | omega | (simp; done) | (simp; omega)) _)))); rintro e wd ⟨rfl, hd⟩; have HBd : Aside0 (Below V1.heap.size V1 wd) := ⟨Below.trans (by (repeat (first | (with_reducible exact HBd.out) | (with_reducible exact HBs.out) | (with_reducible exact HBn.out) | (with_reducible exact Below.refl _ _) | (with_reducible refine Below.drew ?_) | (with_reducible refine pw_below_drewN ?_ _) | (with_reducible refine below_alloc ?_ _) | (with_reducible refine Below.setCell ?_ (by first | omega | (simp; done) | (simp; omega)) _)))) (hd.mono (by first | omega | (simp; done) | (simp; omega)))⟩; have hs_wd := HBd.out.size; have hsz_ := hd.size; (try have hzq : V1.heap.size < wd.heap.size := (by first | omega | (have h9 := hsz_; simp at h9; omega))); (try have hzq : V1.heap.size + 1 < wd.heap.size := (by first | omega | (have h9 := hsz_; simp at h9; omega))); (try have hzq : wn.heap.size < wd.heap.size := (by first | omega | (have h9 := hsz_; simp at h9; omega))); (try have hzq : wn.heap.size + 1 < wd.heap.size := (by first | omega | (have h9 := hsz_; simp at h9; omega))); (try have hzq : ws.heap.size < wd.heap.size := (by first | omega | (have h9 := hsz_; simp at h9; omega))); (try have hzq : ws.heap.size + 1 < wd.heap.size := (by first | omega | (have h9 := hsz_; simp at h9; omega))); (try simp at hsz_); obtain ⟨hc_wd, hf_wd⟩ := bcell hd; have HZ_wd := Aside0.mk (fun (g : Nat) (o : Obj) (hg : _ = some o) => blk_below (g := g) (o := o) hg hd); clear hd hsz_))
      all_goals go_wp2_with (fail)
      all_goals go_meet
      all_goals exact ⟨rfl, ⟨by (repeat (first | (with_reducible exact HBd.out) | (with_reducible exact HBs.out) | (with_reducible exact HBn.out) | (with_reducible exact Below.refl _ _) | (with_reducible refine Below.drew ?_) | (with_reducible refine pw_below_drewN ?_ _) | (with_reducible refine below_alloc ?_ _) | (with_reducible refine Below.setCell ?_ (by first | omega | (simp; done) | (simp; omega)) _)))⟩⟩
    case rest =>
    obtain ⟨rfl, HB⟩ := hcut
    obtain ⟨V2, rfl⟩ : ∃ V, V = wc := ⟨_, rfl⟩
    have HI4 := Aside0.mk (HI3.out.below HB.out)
    have HL4 := HR.out.2.2.below HB.out
    clear HEN HHD HB HI3 HR q1 q2 q3 hg1 hg2 hg3 hTc hTl2
    obtain ⟨-, q1, q2, q3⟩ := HL4.all
    by_cases hT0 : T = 0
    · subst hT0
      go_wp2
      go_ret
      exact ⟨rfl, HI4.out.b⟩
    · have ht1 : ((T : Int) == 0) = false := beq_eq_false_iff_ne.mpr (by omega)
      have ht2 : (1 : Int) ≤ (T : Int) := by omega
      obtain ⟨k, hk⟩ : ∃ k : Nat, q0 % (T : Int) = k := ⟨(q0 % (T : Int)).toNat, by have := Int.emod_nonneg q0 (show (T : Int) ≠ 0 by omega); omega⟩
      have hkT : (k : Int) < (T : Int) := by rw [← hk]; exact Int.emod_lt_of_pos _ (by omega)
      have hkc : (k : Int) ≤ (c : Int) := by omega
      have HK := Aside0.mk hk
      have HDf := Aside0.mk (fun W (h : Below V2.heap.size V2 W) => dec_sc A c k v a1 a2 a3 a4 a5 a6 s 5 W HH.out (by omega) (by omega) (by omega) (by have := HF.out.2.2.2; omega))
      clear hT0 hk
      go_upto_region 12 with (fail)
      rw [HK.out]
      have hk0 : (0 : Int) ≤ (k : Int) := by omega
      clear HK q1 q2 q3
      go_cut [13, 14] (fun s6 s7 W => ∃ (g6 g7 : Nat) (y : BV), s6 = .pointer (some ⟨g6, 0, none⟩) ∧ s7 = .pointer (some ⟨g7, 0, none⟩) ∧ Aside0 (Below V2.heap.size V2 W) ∧ Aside0 (BlkR V2.heap.size W y zB ∧ LB W g6 y zB ∧ LC W g7 A k c 0 1 k))
      case first =>
        go_region_held3 (fun w' => w'.cell? ⟨w.heap.size, 0, none⟩ = some (.int .i64 v) ∧ w'.cell? ⟨w.heap.size, 1, none⟩ = some (.int .u32 a1) ∧ w'.cell? ⟨w.heap.size, 2, none⟩ = some (.int .u32 a2) ∧ w'.cell? ⟨w.heap.size, 3, none⟩ = some (.int .u32 a3) ∧ w'.cell? ⟨w.heap.size, 4, none⟩ = some (.int .u32 a4) ∧ w'.cell? ⟨w.heap.size, 5, none⟩ = some (.int .u32 a5) ∧ w'.cell? ⟨w.heap.size, 6, none⟩ = some (.int .u32 a6))
          ((refine (HI4.out.below ?_).h.all; (repeat (first | (with_reducible exact HBd.out) | (with_reducible exact HBs.out) | (with_reducible exact HBn.out) | (with_reducible exact Below.refl _ _) | (with_reducible refine Below.drew ?_) | (with_reducible refine pw_below_drewN ?_ _) | (with_reducible refine below_alloc ?_ _) | (with_reducible refine Below.setCell ?_ (by first | omega | (simp; done) | (simp; omega)) _))); done))
          (first | (go_at_call 23; (with_reducible refine (New_c _ _ _ _).mono ?_); rintro e wn ⟨rfl, hn⟩; have HBn : Aside0 (Below V2.heap.size V2 wn) := ⟨Below.trans (by (repeat (first | (with_reducible exact HBd.out) | (with_reducible exact HBs.out) | (with_reducible exact HBn.out) | (with_reducible exact Below.refl _ _) | (with_reducible refine Below.drew ?_) | (with_reducible refine pw_below_drewN ?_ _) | (with_reducible refine below_alloc ?_ _) | (with_reducible refine Below.setCell ?_ (by first | omega | (simp; done) | (simp; omega)) _)))) (hn.mono (by first | omega | (simp; done) | (simp; omega)))⟩; have hs_wn := HBn.out.size; have hsz_ := hn.size; (try have hzq : V2.heap.size < wn.heap.size := (by first | omega | (have h9 := hsz_; simp at h9; omega))); (try have hzq : V2.heap.size + 1 < wn.heap.size := (by first | omega | (have h9 := hsz_; simp at h9; omega))); (try simp at hsz_); obtain ⟨hc_wn, hf_wn⟩ := bcell hn; have HZ_wn := Aside0.mk (fun (g : Nat) (o : Obj) (hg : _ = some o) => blk_below (g := g) (o := o) hg hn); clear hn hsz_) | (go_at_call 12; (with_reducible refine (HDf.out _ ?h).mono ?_); (case h => (repeat (first | (with_reducible exact HBd.out) | (with_reducible exact HBs.out) | (with_reducible exact HBn.out) | (with_reducible exact Below.refl _ _) | (with_reducible refine Below.drew ?_) | (with_reducible refine pw_below_drewN ?_ _) | (with_reducible refine below_alloc ?_ _) | (with_reducible refine Below.setCell ?_ (by first | omega | (simp; done) | (simp; omega)) _)))); rintro e wd ⟨y, rfl, HY, hd⟩; have HBd : Aside0 (Below V2.heap.size V2 wd) := ⟨Below.trans (by (repeat (first | (with_reducible exact HBd.out) | (with_reducible exact HBs.out) | (with_reducible exact HBn.out) | (with_reducible exact Below.refl _ _) | (with_reducible refine Below.drew ?_) | (with_reducible refine pw_below_drewN ?_ _) | (with_reducible refine below_alloc ?_ _) | (with_reducible refine Below.setCell ?_ (by first | omega | (simp; done) | (simp; omega)) _)))) (hd.mono (by first | omega | (simp; done) | (simp; omega)))⟩; have hs_wd := HBd.out.size; have hsz_ := hd.size; (try have hzq : V2.heap.size < wd.heap.size := (by first | omega | (have h9 := hsz_; simp at h9; omega))); (try have hzq : V2.heap.size + 1 < wd.heap.size := (by first | omega | (have h9 := hsz_; simp at h9; omega))); (try have hzq : wn.heap.size < wd.heap.size := (by first | omega | (have h9 := hsz_; simp at h9; omega))); (try have hzq : wn.heap.size + 1 < wd.heap.size := (by first | omega | (have h9 := hsz_; simp at h9; omega))); (try simp at hsz_); obtain ⟨hc_wd, hf_wd⟩ := bcell hd; have HZ_wd := Aside0.mk (fun (g : Nat) (o : Obj) (hg : _ = some o) => blk_below (g := g) (o := o) hg hd); clear hd hsz_))
        all_goals go_wp2_with (fail)
        all_goals go_meet
        all_goals exact ⟨_, _, y, rfl, rfl, rg_end HY.out (by first | omega | (simp; done) | (simp; omega)) (by (first | exact .inl (by omega) | exact .inr ⟨_, (by (repeat (first | (with_reducible exact blk_new _ _) | (with_reducible exact blk_new1 _ _ _) | (with_reducible refine blk_newS ?_ <;> (simp; done)) | (with_reducible refine blk_drew ?_) | (with_reducible refine blk_drewN ?_ _) | (with_reducible refine blk_alloc ?_ _) | (with_reducible refine fin6 ?_ _ _ _ _ _ _ _) | (with_reducible refine fin7 ?_ _ _ _ _) | (with_reducible refine HZ_wd.out _ _ ?_) | (with_reducible refine HZ_wn.out _ _ ?_) | (with_reducible refine blk_farN ?_ (by omega) _))))⟩)) (by (first | exact .inl (by omega) | exact .inr ⟨_, (by (repeat (first | (with_reducible exact blk_new _ _) | (with_reducible exact blk_new1 _ _ _) | (with_reducible refine blk_newS ?_ <;> (simp; done)) | (with_reducible refine blk_drew ?_) | (with_reducible refine blk_drewN ?_ _) | (with_reducible refine blk_alloc ?_ _) | (with_reducible refine fin6 ?_ _ _ _ _ _ _ _) | (with_reducible refine fin7 ?_ _ _ _ _) | (with_reducible refine HZ_wd.out _ _ ?_) | (with_reducible refine HZ_wn.out _ _ ?_) | (with_reducible refine blk_farN ?_ (by omega) _))))⟩)) (by (intro k h1 h2 h3; repeat (first | (with_reducible rfl) | (rw [heap_far _ _ _ _ k h2]) | (rw [heap_far _ _ _ _ k h3]) | (rw [Below.heap_alloc _ _ _ (by first | omega | (simp; omega))])))) (by (repeat (first | (with_reducible exact HBd.out) | (with_reducible exact HBs.out) | (with_reducible exact HBn.out) | (with_reducible exact Below.refl _ _) | (with_reducible refine Below.drew ?_) | (with_reducible refine pw_below_drewN ?_ _) | (with_reducible refine below_alloc ?_ _) | (with_reducible refine Below.setCell ?_ (by first | omega | (simp; done) | (simp; omega)) _)))) (show _ = some (Obj.cells #[.slice y.A0 0 y.c0, .slice y.A1 0 y.c1, .slice y.A2 0 y.c2, .slice y.A3 0 y.c3, .slice y.A4 0 y.c4, .slice y.A5 0 y.c5, .slice y.A6 0 y.c6] 34 (0, 0)) from (by (repeat (first | (with_reducible exact blk_new _ _) | (with_reducible exact blk_new1 _ _ _) | (with_reducible refine blk_newS ?_ <;> (simp; done)) | (with_reducible refine blk_drew ?_) | (with_reducible refine blk_drewN ?_ _) | (with_reducible refine blk_alloc ?_ _) | (with_reducible refine fin6 ?_ _ _ _ _ _ _ _) | (with_reducible refine fin7 ?_ _ _ _ _) | (with_reducible refine HZ_wd.out _ _ ?_) | (with_reducible refine HZ_wn.out _ _ ?_) | (with_reducible refine blk_farN ?_ (by omega) _))))) (by (repeat (first | (with_reducible exact blk_new _ _) | (with_reducible exact blk_new1 _ _ _) | (with_reducible refine blk_newS ?_ <;> (simp; done)) | (with_reducible refine blk_drew ?_) | (with_reducible refine blk_drewN ?_ _) | (with_reducible refine blk_alloc ?_ _) | (with_reducible refine fin6 ?_ _ _ _ _ _ _ _) | (with_reducible refine fin7 ?_ _ _ _ _) | (with_reducible refine HZ_wd.out _ _ ?_) | (with_reducible refine HZ_wn.out _ _ ?_) | (with_reducible refine blk_farN ?_ (by omega) _))))⟩
      case rest =>
      obtain ⟨g13, g14, y2, rfl, rfl, HB, HQ⟩ := hcut
      obtain ⟨V3, rfl⟩ : ∃ V, V = wc := ⟨_, rfl⟩
      have HBf := Aside0.mk (HI4.out.b.trans (HB.out.mono HI4.out.b.size))
      clear HDf HB HI4
      obtain ⟨-, q1, q2, q3⟩ := HQ.out.2.2.all
      clear HQ
      go_wp2
      go_ret
      exact ⟨rfl, HBf.out⟩

set_option maxRecDepth 50000 in
set_option maxHeartbeats 4000000 in
theorem IC_long (A : Option Addr) (c : Nat) (l : List Int) (v a1 a2 a3 a4 a5 a6 : Int) (wide : Bool) (q0 : Int) (w : World) (hlen : ¬ l.length ≤ 1000) (hG : Gl w) :
    Calls Tryd.prog 5 #[.slice A l.length c, .agg #[.int .i64 v, .int .u32 a1, .int .u32 a2, .int .u32 a3, .int .u32 a4, .int .u32 a5, .int .u32 a6], .bool wide, .int .u8 q0] w fun e w' => e = .returned (.bool true) ∧ Below w.heap.size w w' := by
  obtain ⟨n, hn⟩ : ∃ n, l.length = n := ⟨_, rfl⟩
  rw [hn] at hlen ⊢
  clear hn
  have HAW := Aside0.mk (fun W (h : Gl W) => awake_c W h)
  have HG := Aside0.mk hG
  have hl : (1000 : Int) < (n : Int) := by omega
  clear hG hlen
  go_enter Tryd.func5, Tryd.ntmps5
  go_wp2_with (fail)
  (with_reducible refine (HAW.out _ ?g).mono ?_)
  case g => exact HG.out.below (below_alloc (Below.refl _ w) _)
  rintro e w1 ⟨rfl, hb⟩
  have HB1 := Aside0.mk ((below_alloc (Below.refl _ w) _).trans (hb.mono (by simp)))
  clear hb
  go_wp2_with (fail)
  (with_reducible refine (HAW.out _ ?g2).mono ?_)
  case g2 => exact HG.out.below HB1.out
  rintro e w2 ⟨rfl, hb⟩
  have HB2 := Aside0.mk (HB1.out.trans (hb.mono HB1.out.size))
  clear hb HB1
  go_wp2
  go_ret
  exact ⟨rfl, HB2.out⟩
theorem IC_law (A : Option Addr) (c : Nat) (l : List Int) (v a1 a2 a3 a4 a5 a6 : Int) (wide : Bool) (q0 : Int) (w : World) (hC : Kd.C (Kd.int .u8) w A l.length l) (hlc : l.length ≤ c) (hB : Byt l) (hq : (Lit.int .u8 q0).wf = true) (hG : Gl w) (hH : Hd a1 a2 a3 a4 a5 a6) (hv : -9223372036854775808 ≤ v ∧ v ≤ 9223372036854775807) :
    Calls Tryd.prog 5 #[.slice A l.length c, .agg #[.int .i64 v, .int .u32 a1, .int .u32 a2, .int .u32 a3, .int .u32 a4, .int .u32 a5, .int .u32 a6], .bool wide, .int .u8 q0] w fun e w' => e = .returned (.bool true) ∧ Below w.heap.size w w' := by
  simp [Lit.wf, IntKind.min, IntKind.max, IntKind.signed, IntKind.bits] at hq
  by_cases hlen : l.length ≤ 1000
  · exact IC_short A c l v a1 a2 a3 a4 a5 a6 wide q0 w hlen hC hlc hB (by omega) (by omega) hG hH
  · exact IC_long A c l v a1 a2 a3 a4 a5 a6 wide q0 w hlen hG
end Go.Proofs.YtkdhdhkfkgjcnaaDoor.PBlockRoundTrip
