/- The text Da. -/
import Derived.Test.YtkdhdhkfkgjcnaaDoorKHcBlockRoundTrip
import Derived.Test.YtkdhdhkfkgjcnaaDoorKDlBlockRoundTrip
namespace Go.Proofs.YtkdhdhkfkgjcnaaDoor.PBlockRoundTrip
open Go.RowKit Go.Proofs.YtkdhdhkfkgjcnaaDoorW.PrintWords Go.Proofs.YtkdhdhkfkgjcnaaDoorW.PrintMore
set_option linter.unusedSimpArgs false
set_option linter.unusedVariables false

theorem SizeD_c (b : Bool) (w : World) : Calls Tryd.prog 11 #[.bool b] w fun e w' => e = .returned (.int .i64 ((if b then 8 else 4 : Nat) : Int)) ∧ Drawn0 w w' :=
  zoneinforef14_Size.calls b _ w (by cases b <;> rfl)
/-- What holds in the law while it goes. -/
structure DS (w W : World) (A : Option Addr) (l : List Int) (v a1 a2 a3 a4 a5 a6 : Int) : Prop where
  r : Kd.C (Kd.int .u8) W A l.length l
  h : LH W w.heap.size v a1 a2 a3 a4 a5 a6
  g : Gl W
  b : Below w.heap.size w W
theorem DS.below {w W W' : World} {A : Option Addr} {l : List Int} {v a1 a2 a3 a4 a5 a6 : Int} (h : DS w W A l v a1 a2 a3 a4 a5 a6) (hb : Below W.heap.size W W') : DS w W' A l v a1 a2 a3 a4 a5 a6 :=
  ⟨Kd.C_below h.r hb, h.h.below hb, h.g.below hb, h.b.trans (hb.mono h.b.size)⟩
theorem DS.new (w : World) {A : Option Addr} {l : List Int} (v a1 a2 a3 a4 a5 a6 : Int) (hr : Kd.C (Kd.int .u8) w A l.length l) (hg : Gl w) : DS w (w.alloc (.cells #[.int .i64 v, .int .u32 a1, .int .u32 a2, .int .u32 a3, .int .u32 a4, .int .u32 a5, .int .u32 a6] 28)) A l v a1 a2 a3 a4 a5 a6 :=
  have hb := below_alloc (Below.refl _ w) (.cells #[.int .i64 v, .int .u32 a1, .int .u32 a2, .int .u32 a3, .int .u32 a4, .int .u32 a5, .int .u32 a6] 28)
  ⟨Kd.C_below hr hb, LH.new _ _ _ _ _ _ _ _, hg.below hb, hb⟩
/-- block.Decode of the bytes l, wherever they lie. -/
theorem DS.dec {w W : World} {A A' : Option Addr} {l : List Int} {v a1 a2 a3 a4 a5 a6 : Int} {s : Nat} (h : DS w W A l v a1 a2 a3 a4 a5 a6) (c : Nat) (at_ : Int) (hr : Kd.C (Kd.int .u8) W A' l.length l) (hs : s = 4 ∨ s = 8) (hlc : l.length ≤ c) (hB : Byt l) (hH : Hd a1 a2 a3 a4 a5 a6) (hn : l.length ≤ 1000) :
    Calls Tryd.prog 12 #[.agg #[.slice A' l.length c, .int .i64 0, .int .i64 0, .int .i64 0], .agg #[.int .i64 v, .int .u32 a1, .int .u32 a2, .int .u32 a3, .int .u32 a4, .int .u32 a5, .int .u32 a6], .int .i64 s, .int .i64 at_] W fun e w' =>
      ∃ (y : BV) (b : PB) (q er u : Int), e = .returned (.tuple #[.agg #[.slice y.A0 b.times.length y.c0, .slice y.A1 b.index.length y.c1, .slice y.A2 b.types.length y.c2, .slice y.A3 b.chars.length y.c3, .slice y.A4 b.leaps.length y.c4, .slice y.A5 b.std.length y.c5, .slice y.A6 b.ut.length y.c6], .agg #[.slice A' l.length c, .int .i64 q, .int .i64 er, .int .i64 u]]) ∧
        Aside0 (DecRes l 0 0 a1 a2 a3 a4 a5 a6 s at_ b q er u) ∧ Aside0 (BlkR W.heap.size w' y b) ∧ Below W.heap.size W w' :=
  Decode_c A' c l 0 0 v a1 a2 a3 a4 a5 a6 at_ s hs W hr hlc hB h.g hH (by omega) (by omega) (by omega)
theorem DecRes.sw {l : List Int} {a1 a2 a3 a4 a5 a6 : Int} {s : Nat} {at_ : Int} {b : PB} {q er u : Int} (h : DecRes l 0 0 a1 a2 a3 a4 a5 a6 s at_ b q er u) (hB : Byt l) (hH : Hd a1 a2 a3 a4 a5 a6) (hs : s = 4 ∨ s = 8) (hl : l.length ≤ 1000000) : Sw b := by
  rcases h.view hB hH hs hl with ⟨_, _, _, rfl, _⟩ | ⟨_, _, rfl, _⟩ | ⟨_, _, _, _, _, _, h, _⟩
  · constructor <;> decide
  · constructor <;> decide
  · exact h
theorem same_ll (A A' : Option Addr) (c c' : Nat) (l : List Int) (W : World) (h : Kd.C (Kd.int .u8) W A l.length l) (hc : l.length ≤ c) (h' : Kd.C (Kd.int .u8) W A' l.length l) (hc' : l.length ≤ c') (hn : l.length ≤ 1000) :
    Calls Tryd.prog 20 #[.slice A l.length c, .slice A' l.length c'] W fun e w' => e = .returned (.bool true) ∧ Drawn0 W w' :=
  zoneinforef01_Same.calls 1001 A c l A' c' l true W h hc h' hc' (by rw [zoneinforef01_Same_e _ _ (by omega) 1001 (by omega), eqB_true rfl])

set_option maxRecDepth 50000 in
set_option maxHeartbeats 40000000 in
theorem DA_short (A : Option Addr) (c : Nat) (l : List Int) (v a1 a2 a3 a4 a5 a6 : Int) (wide : Bool) (w : World) (hlen : l.length ≤ 1000) (hC : Kd.C (Kd.int .u8) w A l.length l) (hlc : l.length ≤ c) (hB : Byt l) (hG : Gl w) (hH : Hd a1 a2 a3 a4 a5 a6) :
    Calls Tryd.prog 7 #[.slice A l.length c, .agg #[.int .i64 v, .int .u32 a1, .int .u32 a2, .int .u32 a3, .int .u32 a4, .int .u32 a5, .int .u32 a6], .bool wide] w fun e w' => e = .returned (.bool true) ∧ Below w.heap.size w w' := by
  have HAW := Aside0.mk (fun W (h : Gl W) => awake_c W h)
  have HH := Aside0.mk hH
  have HY0 := Aside0.mk hB
  have HSZ := Aside0.mk (fun W => SizeD_c wide W)
  obtain ⟨s, hsz⟩ : ∃ s : Nat, (if wide then 8 else 4) = s := ⟨_, rfl⟩
  have hs : Aside0 (s = 4 ∨ s = 8) := ⟨by rw [← hsz]; cases wide <;> simp⟩
  have hs4 : 4 ≤ s := by rcases hs.out with h | h <;> omega
  have hs8 : s ≤ 8 := by rcases hs.out with h | h <;> omega
  rw [hsz] at HSZ
  have HI := Aside0.mk (DS.new w v a1 a2 a3 a4 a5 a6 hC hG)
  clear hG hH hsz hC hB
  go_enter Tryd.func7, Tryd.ntmps7
  go_wp2_with (fail)
  (with_reducible refine (HAW.out _ HI.out.g).mono ?_)
  rintro e w1 ⟨rfl, hb⟩
  have HI1 := Aside0.mk (HI.out.below hb)
  clear hb HI
  go_wp2_with (fail)
  (with_reducible refine (HSZ.out _).mono ?_)
  rintro e V0 ⟨rfl, hd⟩
  have HI2 := Aside0.mk (HI1.out.below hd.below)
  clear hd HI1 HSZ HAW
  have HO := Aside0.mk (R_of_nums (k := .u8) (xs := []) (World.ownsRow_lit (base := V0.heap.size) (e := 5) (size := 1) V0 #[] 0 (Nat.le_refl _) (by simp [maxLen]) rfl) rfl)
  have HCd := Aside0.mk (Kd.C_below HI2.out.r (below_alloc (Below.refl _ V0) (.cells #[] 5)))
  go_upto_region 5 with (at_builtin; refine wpList_append_R _ rfl (.tmp 27) (.tmp 28) 22 rfl V0.heap.size 5 Tryd.underlying22 info5 (.slice (some ⟨V0.heap.size, 0, none⟩) 0 0) [] l (by rfl) HO.out A l.length c (by rfl) HCd.out (by simp; omega) (by simp) ?_; intro vo W0 hr2 hg2 hat2; rw [List.nil_append] at hr2; obtain ⟨Ao, co, rfl⟩ := Kd.R_slice hr2; have HOw := Aside0.mk (R_le hr2); have HB0 : Aside0 (Below V0.heap.size V0 W0) := ⟨(below_alloc (Below.refl _ V0) _).grown hg2 (by simp) (by simp [Value.ownBlock])⟩; clear hr2 hg2 hat2)
  have HI3 := Aside0.mk (HI2.out.below HB0.out)
  clear HI2 HB0 HO HCd
  have HDf := Aside0.mk (fun W (h : Below W0.heap.size W0 W) => (HI3.out.below h).dec co 0 (Kd.C_below HOw.out.1 h) hs.out HOw.out.2 HY0.out HH.out hlen)
  go_cut [9, 10] (fun s6 s7 W => ∃ (g6 g7 : Nat) (y : BV) (b : PB) (q er u : Int), s6 = .pointer (some ⟨g6, 0, none⟩) ∧ s7 = .pointer (some ⟨g7, 0, none⟩) ∧ Aside0 (DecRes l 0 0 a1 a2 a3 a4 a5 a6 s 0 b q er u) ∧ Aside0 (Below W0.heap.size W0 W) ∧ Aside0 (BlkR W0.heap.size W y b ∧ LB W g6 y b ∧ LC W g7 Ao l.length co q er u))
  case first =>
    go_region_held3 (fun w' => w'.cell? ⟨w.heap.size, 0, none⟩ = some (.int .i64 v) ∧ w'.cell? ⟨w.heap.size, 1, none⟩ = some (.int .u32 a1) ∧ w'.cell? ⟨w.heap.size, 2, none⟩ = some (.int .u32 a2) ∧ w'.cell? ⟨w.heap.size, 3, none⟩ = some (.int .u32 a3) ∧ w'.cell? ⟨w.heap.size, 4, none⟩ = some (.int .u32 a4) ∧ w'.cell? ⟨w.heap.size, 5, none⟩ = some (.int .u32 a5) ∧ w'.cell? ⟨w.heap.size, 6, none⟩ = some (.int .u32 a6))
      ((refine (HI3.out.below ?_).h.all; (repeat (first | (with_reducible exact HBd.out) | (with_reducible exact HBs.out) | (with_reducible exact HBn.out) | (with_reducible exact Below.refl _ _) | (with_reducible refine Below.drew ?_) | (with_reducible refine pw_below_drewN ?_ _) | (with_reducible refine below_alloc ?_ _) | (with_reducible refine Below.setCell ?_ (by first | omega | (simp; done) | (simp; omega)) _))); done))
      (first | (go_at_call 23; (with_reducible refine (New_c _ _ _ _).mono ?_); rintro e wn ⟨rfl, hn⟩; have HBn : Aside0 (Below W0.heap.size W0 wn) := ⟨Below.trans (by (repeat (first | (with_reducible exact HBd.out) | (with_reducible exact HBs.out) | (with_reducible exact HBn.out) | (with_reducible exact Below.refl _ _) | (with_reducible refine Below.drew ?_) | (with_reducible refine pw_below_drewN ?_ _) | (with_reducible refine below_alloc ?_ _) | (with_reducible refine Below.setCell ?_ (by first | omega | (simp; done) | (simp; omega)) _)))) (hn.mono (by first | omega | (simp; done) | (simp; omega)))⟩; have hs_wn := HBn.out.size; have hsz_ := hn.size; (try have hzq : W0.heap.size < wn.heap.size := (by first | omega | (have h9 := hsz_; simp at h9; omega))); (try have hzq : W0.heap.size + 1 < wn.heap.size := (by first | omega | (have h9 := hsz_; simp at h9; omega))); (try simp at hsz_); obtain ⟨hc_wn, hf_wn⟩ := bcell hn; have HZ_wn := Aside0.mk (fun (g : Nat) (o : Obj) (hg : _ = some o) => blk_below (g := g) (o := o) hg hn); clear hn hsz_) | (go_at_call 12; (with_reducible refine (HDf.out _ ?h).mono ?_); (case h => (repeat (first | (with_reducible exact HBd.out) | (with_reducible exact HBs.out) | (with_reducible exact HBn.out) | (with_reducible exact Below.refl _ _) | (with_reducible refine Below.drew ?_) | (with_reducible refine pw_below_drewN ?_ _) | (with_reducible refine below_alloc ?_ _) | (with_reducible refine Below.setCell ?_ (by first | omega | (simp; done) | (simp; omega)) _)))); rintro e wd ⟨y, b, q, er, u, rfl, HDR, HY, hd⟩; have HBd : Aside0 (Below W0.heap.size W0 wd) := ⟨Below.trans (by (repeat (first | (with_reducible exact HBd.out) | (with_reducible exact HBs.out) | (with_reducible exact HBn.out) | (with_reducible exact Below.refl _ _) | (with_reducible refine Below.drew ?_) | (with_reducible refine pw_below_drewN ?_ _) | (with_reducible refine below_alloc ?_ _) | (with_reducible refine Below.setCell ?_ (by first | omega | (simp; done) | (simp; omega)) _)))) (hd.mono (by first | omega | (simp; done) | (simp; omega)))⟩; have hs_wd := HBd.out.size; have hsz_ := hd.size; (try have hzq : W0.heap.size < wd.heap.size := (by first | omega | (have h9 := hsz_; simp at h9; omega))); (try have hzq : W0.heap.size + 1 < wd.heap.size := (by first | omega | (have h9 := hsz_; simp at h9; omega))); (try have hzq : wn.heap.size < wd.heap.size := (by first | omega | (have h9 := hsz_; simp at h9; omega))); (try have hzq : wn.heap.size + 1 < wd.heap.size := (by first | omega | (have h9 := hsz_; simp at h9; omega))); (try simp at hsz_); obtain ⟨hc_wd, hf_wd⟩ := bcell hd; have HZ_wd := Aside0.mk (fun (g : Nat) (o : Obj) (hg : _ = some o) => blk_below (g := g) (o := o) hg hd); clear hd hsz_))
    all_goals go_wp2_with (fail)
    all_goals go_meet
    all_goals exact ⟨_, _, y, b, q, er, u, rfl, rfl, HDR, rg_end HY.out (by first | omega | (simp; done) | (simp; omega)) (by (first | exact .inl (by omega) | exact .inr ⟨_, (by (repeat (first | (with_reducible exact blk_new _ _) | (with_reducible exact blk_new1 _ _ _) | (with_reducible refine blk_newS ?_ <;> (simp; done)) | (with_reducible refine blk_drew ?_) | (with_reducible refine blk_drewN ?_ _) | (with_reducible refine blk_alloc ?_ _) | (with_reducible refine fin6 ?_ _ _ _ _ _ _ _) | (with_reducible refine fin7 ?_ _ _ _ _) | (with_reducible refine HZ_wd.out _ _ ?_) | (with_reducible refine HZ_wn.out _ _ ?_) | (with_reducible refine blk_farN ?_ (by omega) _))))⟩)) (by (first | exact .inl (by omega) | exact .inr ⟨_, (by (repeat (first | (with_reducible exact blk_new _ _) | (with_reducible exact blk_new1 _ _ _) | (with_reducible refine blk_newS ?_ <;> (simp; done)) | (with_reducible refine blk_drew ?_) | (with_reducible refine blk_drewN ?_ _) | (with_reducible refine blk_alloc ?_ _) | (with_reducible refine fin6 ?_ _ _ _ _ _ _ _) | (with_reducible refine fin7 ?_ _ _ _ _) | (with_reducible refine HZ_wd.out _ _ ?_) | (with_reducible refine HZ_wn.out _ _ ?_) | (with_reducible refine blk_farN ?_ (by omega) _))))⟩)) (by (intro k h1 h2 h3; repeat (first | (with_reducible rfl) | (rw [heap_far _ _ _ _ k h2]) | (rw [heap_far _ _ _ _ k h3]) | (rw [Below.heap_alloc _ _ _ (by first | omega | (simp; omega))])))) (by (repeat (first | (with_reducible exact HBd.out) | (with_reducible exact HBs.out) | (with_reducible exact HBn.out) | (with_reducible exact Below.refl _ _) | (with_reducible refine Below.drew ?_) | (with_reducible refine pw_below_drewN ?_ _) | (with_reducible refine below_alloc ?_ _) | (with_reducible refine Below.setCell ?_ (by first | omega | (simp; done) | (simp; omega)) _)))) (by (repeat (first | (with_reducible exact blk_new _ _) | (with_reducible exact blk_new1 _ _ _) | (with_reducible refine blk_newS ?_ <;> (simp; done)) | (with_reducible refine blk_drew ?_) | (with_reducible refine blk_drewN ?_ _) | (with_reducible refine blk_alloc ?_ _) | (with_reducible refine fin6 ?_ _ _ _ _ _ _ _) | (with_reducible refine fin7 ?_ _ _ _ _) | (with_reducible refine HZ_wd.out _ _ ?_) | (with_reducible refine HZ_wn.out _ _ ?_) | (with_reducible refine blk_farN ?_ (by omega) _)))) (by (repeat (first | (with_reducible exact blk_new _ _) | (with_reducible exact blk_new1 _ _ _) | (with_reducible refine blk_newS ?_ <;> (simp; done)) | (with_reducible refine blk_drew ?_) | (with_reducible refine blk_drewN ?_ _) | (with_reducible refine blk_alloc ?_ _) | (with_reducible refine fin6 ?_ _ _ _ _ _ _ _) | (with_reducible refine fin7 ?_ _ _ _ _) | (with_reducible refine HZ_wd.out _ _ ?_) | (with_reducible refine HZ_wn.out _ _ ?_) | (with_reducible refine blk_farN ?_ (by omega) _))))⟩
  case rest =>
  obtain ⟨g9, g10, y, b, q, er, u, rfl, rfl, HDR, HB, HR⟩ := hcut
  obtain ⟨V1, rfl⟩ : ∃ V, V = wc := ⟨_, rfl⟩
  have HI4 := Aside0.mk (HI3.out.below HB.out)
  have HB1 := Aside0.mk HB.out
  have HSw := Aside0.mk (HDR.out.sw HY0.out HH.out hs.out (by omega))
  have HBR := Aside0.mk HR.out.1
  have HLB := Aside0.mk HR.out.2.1
  clear HDf HB HR
  obtain ⟨d, hd⟩ : ∃ d, encB b s = d := ⟨_, rfl⟩
  have HEN : Aside0 (∀ W, BlkC W y b → Calls Tryd.prog 21 #[.agg #[.slice y.A0 b.times.length y.c0, .slice y.A1 b.index.length y.c1, .slice y.A2 b.types.length y.c2, .slice y.A3 b.chars.length y.c3, .slice y.A4 b.leaps.length y.c4, .slice y.A5 b.std.length y.c5, .slice y.A6 b.ut.length y.c6], .int .i64 s] W fun e w' => ∃ A' c', e = .returned (.slice A' d.length c') ∧ Aside0 (Wr W.heap.size w' A' d.length) ∧ Below W.heap.size W w') := ⟨fun W hW => by
    refine (Encode_c y b s hs8 W hW HSw.out.sm).mono ?_
    rw [hd]
    rintro e w' ⟨A', c', rfl, hr, hb⟩
    exact ⟨A', c', rfl, ⟨Wr.of (lo := 0) hr (.inl rfl) (R_le hr).1⟩, hb⟩⟩
  have hdl : d.length ≤ 140737488355328 := by rw [← hd]; exact encB_small b s hs8 HSw.out.sm
  clear hd
  obtain ⟨z0, z1, z2, z3, z4, z5, z6⟩ := HLB.out.all
  go_wp2_with (fail)
  (with_reducible refine (HEN.out _ HBR.out.toC).mono ?_)
  rintro e V2 ⟨Ae, ce, rfl, HWe, hb⟩
  have HBe := Aside0.mk hb
  clear hb HEN z0 z1 z2 z3 z4 z5 z6
  go_wp2_with (fail)
  go_loopw [12] (fun i wr => ∃ k : Nat, k ≤ d.length ∧ i = .int .i64 k ∧ Aside0 (Wr V1.heap.size wr Ae d.length) ∧ Aside0 (Below V1.heap.size V1 wr)) (fun i _ => d.length - (intOf i).toNat)
  case atStart => exact ⟨0, by omega, rfl, HWe, HBe⟩
  case round =>
    obtain ⟨k, hk, rfl, HW, HB⟩ := hrel
    by_cases hlt : k < d.length
    · obtain ⟨g, o, rfl, hbg, ⟨cs, hcs⟩, hxs⟩ := HW.out.c (by omega)
      obtain ⟨x, hx⟩ := hxs k hlt
      have hfz := blk_frozen hcs (o + k)
      have HGe := Aside0.mk hbg
      clear hxs hcs hbg
      go_wp2_with (fail)
      go_roundw
      case rel => exact ⟨k + 1, by omega, by go_num, ⟨HW.out.set _ _ _⟩, ⟨HB.out.setCell HGe.out _⟩⟩
      case measure => simp [intOf]; omega
    · obtain rfl : k = d.length := by omega
      clear HWe HBe hk hlt HW
      obtain ⟨V3, rfl⟩ : ∃ V, V = wr := ⟨_, rfl⟩
      have HI5 := Aside0.mk (HI4.out.below HB.out)
      have HLB5 := Aside0.mk (HLB.out.below HB.out)
      have HBR5 := Aside0.mk (HBR.out.below HB.out)
      have HB5 := Aside0.mk (HB1.out.trans (HB.out.mono HB1.out.size))
      clear HI4 HLB HBR HB1 HB
      have HDf := Aside0.mk (fun W (h : Below V3.heap.size V3 W) => (HI5.out.below h).dec c 0 (HI5.out.below h).r hs.out hlc HY0.out HH.out hlen)
      go_upto_region 11 with (fail)
      go_cut [13, 14] (fun s6 s7 W => ∃ (g6 g7 : Nat) (y : BV) (b : PB) (q er u : Int), s6 = .pointer (some ⟨g6, 0, none⟩) ∧ s7 = .pointer (some ⟨g7, 0, none⟩) ∧ Aside0 (DecRes l 0 0 a1 a2 a3 a4 a5 a6 s 0 b q er u) ∧ Aside0 (Below V3.heap.size V3 W) ∧ Aside0 (BlkR V3.heap.size W y b ∧ LB W g6 y b ∧ LC W g7 A l.length c q er u))
      case first =>
        go_region_held3 (fun w' => w'.cell? ⟨w.heap.size, 0, none⟩ = some (.int .i64 v) ∧ w'.cell? ⟨w.heap.size, 1, none⟩ = some (.int .u32 a1) ∧ w'.cell? ⟨w.heap.size, 2, none⟩ = some (.int .u32 a2) ∧ w'.cell? ⟨w.heap.size, 3, none⟩ = some (.int .u32 a3) ∧ w'.cell? ⟨w.heap.size, 4, none⟩ = some (.int .u32 a4) ∧ w'.cell? ⟨w.heap.size, 5, none⟩ = some (.int .u32 a5) ∧ w'.cell? ⟨w.heap.size, 6, none⟩ = some (.int .u32 a6))
          ((refine (HI5.out.below ?_).h.all; (repeat (first | (with_reducible exact HBd.out) | (with_reducible exact HBs.out) | (with_reducible exact HBn.out) | (with_reducible exact Below.refl _ _) | (with_reducible refine Below.drew ?_) | (with_reducible refine pw_below_drewN ?_ _) | (with_reducible refine below_alloc ?_ _) | (with_reducible refine Below.setCell ?_ (by first | omega | (simp; done) | (simp; omega)) _))); done))
          (first | (go_at_call 23; (with_reducible refine (New_c _ _ _ _).mono ?_); rintro e wn ⟨rfl, hn⟩; have HBn : Aside0 (Below V3.heap.size V3 wn) := ⟨Below.trans (by (repeat (first | (with_reducible exact HBd.out) | (with_reducible exact HBs.out) | (with_reducible exact HBn.out) | (with_reducible exact Below.refl _ _) | (with_reducible refine Below.drew ?_) | (with_reducible refine pw_below_drewN ?_ _) | (with_reducible refine below_alloc ?_ _) | (with_reducible refine Below.setCell ?_ (by first | omega | (simp; done) | (simp; omega)) _)))) (hn.mono (by first | omega | (simp; done) | (simp; omega)))⟩; have hs_wn := HBn.out.size; have hsz_ := hn.size; (try have hzq : V3.heap.size < wn.heap.size := (by first | omega | (have h9 := hsz_; simp at h9; omega))); (try have hzq : V3.heap.size + 1 < wn.heap.size := (by first | omega | (have h9 := hsz_; simp at h9; omega))); (try simp at hsz_); obtain ⟨hc_wn, hf_wn⟩ := bcell hn; have HZ_wn := Aside0.mk (fun (g : Nat) (o : Obj) (hg : _ = some o) => blk_below (g := g) (o := o) hg hn); clear hn hsz_) | (go_at_call 12; (with_reducible refine (HDf.out _ ?h).mono ?_); (case h => (repeat (first | (with_reducible exact HBd.out) | (with_reducible exact HBs.out) | (with_reducible exact HBn.out) | (with_reducible exact Below.refl _ _) | (with_reducible refine Below.drew ?_) | (with_reducible refine pw_below_drewN ?_ _) | (with_reducible refine below_alloc ?_ _) | (with_reducible refine Below.setCell ?_ (by first | omega | (simp; done) | (simp; omega)) _)))); rintro e wd ⟨y, b, q, er, u, rfl, HDR, HY, hd⟩; have HBd : Aside0 (Below V3.heap.size V3 wd) := ⟨Below.trans (by (repeat (first | (with_reducible exact HBd.out) | (with_reducible exact HBs.out) | (with_reducible exact HBn.out) | (with_reducible exact Below.refl _ _) | (with_reducible refine Below.drew ?_) | (with_reducible refine pw_below_drewN ?_ _) | (with_reducible refine below_alloc ?_ _) | (with_reducible refine Below.setCell ?_ (by first | omega | (simp; done) | (simp; omega)) _)))) (hd.mono (by first | omega | (simp; done) | (simp; omega)))⟩; have hs_wd := HBd.out.size; have hsz_ := hd.size; (try have hzq : V3.heap.size < wd.heap.size := (by first | omega | (have h9 := hsz_; simp at h9; omega))); (try have hzq : V3.heap.size + 1 < wd.heap.size := (by first | omega | (have h9 := hsz_; simp at h9; omega))); (try have hzq : wn.heap.size < wd.heap.size := (by first | omega | (have h9 := hsz_; simp at h9; omega))); (try have hzq : wn.heap.size + 1 < wd.heap.size := (by first | omega | (have h9 := hsz_; simp at h9; omega))); (try simp at hsz_); obtain ⟨hc_wd, hf_wd⟩ := bcell hd; have HZ_wd := Aside0.mk (fun (g : Nat) (o : Obj) (hg : _ = some o) => blk_below (g := g) (o := o) hg hd); clear hd hsz_))
        all_goals go_wp2_with (fail)
        all_goals go_meet
        all_goals exact ⟨_, _, y, b, q, er, u, rfl, rfl, HDR, rg_end HY.out (by first | omega | (simp; done) | (simp; omega)) (by (first | exact .inl (by omega) | exact .inr ⟨_, (by (repeat (first | (with_reducible exact blk_new _ _) | (with_reducible exact blk_new1 _ _ _) | (with_reducible refine blk_newS ?_ <;> (simp; done)) | (with_reducible refine blk_drew ?_) | (with_reducible refine blk_drewN ?_ _) | (with_reducible refine blk_alloc ?_ _) | (with_reducible refine fin6 ?_ _ _ _ _ _ _ _) | (with_reducible refine fin7 ?_ _ _ _ _) | (with_reducible refine HZ_wd.out _ _ ?_) | (with_reducible refine HZ_wn.out _ _ ?_) | (with_reducible refine blk_farN ?_ (by omega) _))))⟩)) (by (first | exact .inl (by omega) | exact .inr ⟨_, (by (repeat (first | (with_reducible exact blk_new _ _) | (with_reducible exact blk_new1 _ _ _) | (with_reducible refine blk_newS ?_ <;> (simp; done)) | (with_reducible refine blk_drew ?_) | (with_reducible refine blk_drewN ?_ _) | (with_reducible refine blk_alloc ?_ _) | (with_reducible refine fin6 ?_ _ _ _ _ _ _ _) | (with_reducible refine fin7 ?_ _ _ _ _) | (with_reducible refine HZ_wd.out _ _ ?_) | (with_reducible refine HZ_wn.out _ _ ?_) | (with_reducible refine blk_farN ?_ (by omega) _))))⟩)) (by (intro k h1 h2 h3; repeat (first | (with_reducible rfl) | (rw [heap_far _ _ _ _ k h2]) | (rw [heap_far _ _ _ _ k h3]) | (rw [Below.heap_alloc _ _ _ (by first | omega | (simp; omega))])))) (by (repeat (first | (with_reducible exact HBd.out) | (with_reducible exact HBs.out) | (with_reducible exact HBn.out) | (with_reducible exact Below.refl _ _) | (with_reducible refine Below.drew ?_) | (with_reducible refine pw_below_drewN ?_ _) | (with_reducible refine below_alloc ?_ _) | (with_reducible refine Below.setCell ?_ (by first | omega | (simp; done) | (simp; omega)) _)))) (by (repeat (first | (with_reducible exact blk_new _ _) | (with_reducible exact blk_new1 _ _ _) | (with_reducible refine blk_newS ?_ <;> (simp; done)) | (with_reducible refine blk_drew ?_) | (with_reducible refine blk_drewN ?_ _) | (with_reducible refine blk_alloc ?_ _) | (with_reducible refine fin6 ?_ _ _ _ _ _ _ _) | (with_reducible refine fin7 ?_ _ _ _ _) | (with_reducible refine HZ_wd.out _ _ ?_) | (with_reducible refine HZ_wn.out _ _ ?_) | (with_reducible refine blk_farN ?_ (by omega) _)))) (by (repeat (first | (with_reducible exact blk_new _ _) | (with_reducible exact blk_new1 _ _ _) | (with_reducible refine blk_newS ?_ <;> (simp; done)) | (with_reducible refine blk_drew ?_) | (with_reducible refine blk_drewN ?_ _) | (with_reducible refine blk_alloc ?_ _) | (with_reducible refine fin6 ?_ _ _ _ _ _ _ _) | (with_reducible refine fin7 ?_ _ _ _ _) | (with_reducible refine HZ_wd.out _ _ ?_) | (with_reducible refine HZ_wn.out _ _ ?_) | (with_reducible refine blk_farN ?_ (by omega) _))))⟩
      case rest =>
      obtain ⟨g13, g14, y2, b2, q2, er2, u2, rfl, rfl, HDR2, HB, HR2⟩ := hcut
      obtain ⟨V4, rfl⟩ : ∃ V, V = wc := ⟨_, rfl⟩
      obtain ⟨rfl, rfl, rfl, rfl⟩ := DecRes.det HDR.out HDR2.out
      have HI6 := Aside0.mk (HI5.out.below HB.out)
      have HLB6 := Aside0.mk (HLB5.out.below HB.out)
      have HBR6 := Aside0.mk (HBR5.out.below HB.out)
      have HB6 := Aside0.mk (HB5.out.trans (HB.out.mono HB5.out.size))
      have HEQ := Aside0.mk (fun W (h : BlkC W y b) (h' : BlkC W y2 b) => REqual_c y y2 b b W h h' HSw.out.sm)
      rw [eqB_true rfl] at HEQ
      have HX2 := Aside0.mk HR2.out.1
      obtain ⟨x0, x1, x2, x3, x4, x5, x6⟩ := HR2.out.2.1.all
      obtain ⟨z0, z1, z2, z3, z4, z5, z6⟩ := HLB6.out.all
      clear HDf HB HR2 HI5 HLB5 HBR5 HB5 HDR HDR2
      go_wp2_with (fail)
      (with_reducible refine (HEQ.out _ HBR6.out.toC HX2.out.toC).mono ?_)
      rintro e V5 ⟨rfl, hb⟩
      have HLb := Aside0.mk (HLB6.out.below hb)
      have HBR7 := HBR6.out.below hb
      have HBb := Aside0.mk (HB6.out.trans (hb.mono HB6.out.size))
      have hm1 := HSw.out.m1
      have hm3 := HSw.out.m3
      have HWr : Aside0 (Wr W0.heap.size V5 y.A1 b.index.length ∧ Wr W0.heap.size V5 y.A3 b.chars.length) := ⟨by
        obtain ⟨r0, r1, r2, r3, r4, r5, r6, n1, n3, D, cd, dd, lo1, lo3, h1, h2, h3⟩ := HBR7
        exact ⟨Wr.of h1 h2 r1, Wr.of h1 h3 r3⟩⟩
      clear hb HBR7 HI6 HLB6 HBR6 HB6 HEQ HX2 x0 x1 x2 x3 x4 x5 x6 z0 z1 z2 z3 z4 z5 z6
      go_wp2_with (fail)
      go_loopw [15] (fun i wr => ∃ k : Nat, k ≤ b.index.length ∧ i = .int .i64 k ∧ Aside0 (Wr W0.heap.size wr y.A1 b.index.length ∧ Wr W0.heap.size wr y.A3 b.chars.length) ∧ Aside0 (LB wr g9 y b) ∧ Aside0 (Below W0.heap.size W0 wr)) (fun i _ => b.index.length - (intOf i).toNat)
      case atStart => exact ⟨0, by omega, rfl, HWr, HLb, HBb⟩
      case round =>
        obtain ⟨k, hk, rfl, HW, HL, HB⟩ := hrel
        obtain ⟨z0, z1, z2, z3, z4, z5, z6⟩ := HL.out.all
        by_cases hlt : k < b.index.length
        · obtain ⟨g, o, e, hbg, ⟨cs, hcs⟩, hxs⟩ := HW.out.1.c (by omega)
          obtain ⟨x, hx⟩ := hxs k hlt
          have hfz := blk_frozen hcs (o + k)
          have hne : g9 ≠ g := blk_ne HL.out.k hcs (by decide)
          have HG9 := Aside0.mk (And.intro hbg hne)
          have HCS := Aside0.mk hcs
          have hk1 : (0 : Int) ≤ (k : Int) := by omega
          have hk2 : (k : Int) < (b.index.length : Int) := by omega
          rw [e] at z1
          have HE := Aside0.mk e
          have hne' : g ≠ g9 := fun h => hne h.symm
          clear hxs hcs hbg hne e
          go_wp2_with (fail)
          go_region
          all_goals go_wp2_with (fail)
          all_goals go_roundw
          case rel => first
            | exact ⟨k + 1, by omega, by go_num, ⟨⟨(HW.out.1.set _ _ _).below (Below.refl _ _).drew, (HW.out.2.set _ _ _).below (Below.refl _ _).drew⟩⟩, ⟨LB.drew ⟨blk_farN HL.out.k HG9.out.2 _⟩⟩, ⟨Below.drew (HB.out.setCell HG9.out.1 _)⟩⟩
            | exact ⟨k + 1, by omega, by go_num, ⟨⟨HW.out.1.set _ _ _, HW.out.2.set _ _ _⟩⟩, ⟨⟨blk_farN HL.out.k HG9.out.2 _⟩⟩, ⟨HB.out.setCell HG9.out.1 _⟩⟩
          case measure => simp [intOf]; omega
        · obtain rfl : k = b.index.length := by omega
          clear HWr HLb HBb hk hlt
          have HWr := HW
          have HLb := HL
          have HBb := HB
          clear HW HL HB
          go_wp2_with (fail)
          go_loopw [16] (fun i wr => ∃ k : Nat, k ≤ b.chars.length ∧ i = .int .i64 k ∧ Aside0 (Wr W0.heap.size wr y.A1 b.index.length ∧ Wr W0.heap.size wr y.A3 b.chars.length) ∧ Aside0 (LB wr g9 y b) ∧ Aside0 (Below W0.heap.size W0 wr)) (fun i _ => b.chars.length - (intOf i).toNat)
          case atStart => exact ⟨0, by omega, rfl, HWr, HLb, HBb⟩
          case round =>
            obtain ⟨k, hk, rfl, HW, HL, HB⟩ := hrel
            obtain ⟨z0, z1, z2, z3, z4, z5, z6⟩ := HL.out.all
            by_cases hlt : k < b.chars.length
            · obtain ⟨g, o, e, hbg, ⟨cs, hcs⟩, hxs⟩ := HW.out.2.c (by omega)
              obtain ⟨x, hx⟩ := hxs k hlt
              have hfz := blk_frozen hcs (o + k)
              have hne : g9 ≠ g := blk_ne HL.out.k hcs (by decide)
              have HG9 := Aside0.mk (And.intro hbg hne)
              have HCS := Aside0.mk hcs
              have hk1 : (0 : Int) ≤ (k : Int) := by omega
              have hk2 : (k : Int) < (b.chars.length : Int) := by omega
              rw [e] at z3
              have HE := Aside0.mk e
              have hne' : g ≠ g9 := fun h => hne h.symm
              clear hxs hcs hbg hne e
              go_wp2_with (fail)
              go_region
              all_goals go_wp2_with (fail)
              all_goals go_roundw
              case rel => first
                | exact ⟨k + 1, by omega, by go_num, ⟨⟨(HW.out.1.set _ _ _).below (Below.refl _ _).drew, (HW.out.2.set _ _ _).below (Below.refl _ _).drew⟩⟩, ⟨LB.drew ⟨blk_farN HL.out.k HG9.out.2 _⟩⟩, ⟨Below.drew (HB.out.setCell HG9.out.1 _)⟩⟩
                | exact ⟨k + 1, by omega, by go_num, ⟨⟨HW.out.1.set _ _ _, HW.out.2.set _ _ _⟩⟩, ⟨⟨blk_farN HL.out.k HG9.out.2 _⟩⟩, ⟨HB.out.setCell HG9.out.1 _⟩⟩
              case measure => simp [intOf]; omega
            · obtain rfl : k = b.chars.length := by omega
              clear HWr HLb HBb hk hlt
              have HWr := HW
              have HLb := HL
              have HBb := HB
              clear HW HL HB
              go_wp2_with (fail)
              clear z0 z1 z2 z3 z4 z5 z6
              have HI7 := Aside0.mk (HI3.out.below HBb.out)
              have HOw7 := Aside0.mk (Kd.C_below HOw.out.1 HBb.out)
              (with_reducible refine (same_ll Ao A co c l _ HOw7.out HOw.out.2 HI7.out.r hlc hlen).mono ?_)
              rintro e V8 ⟨rfl, hd⟩
              have HBf := Aside0.mk (HI7.out.b.trans (hd.below.mono HI7.out.b.size))
              clear hd
              go_wp2_with (fail)
              go_ret
              exact ⟨rfl, HBf.out⟩

set_option maxRecDepth 50000 in
set_option maxHeartbeats 4000000 in
theorem DA_long (A : Option Addr) (c : Nat) (l : List Int) (v a1 a2 a3 a4 a5 a6 : Int) (wide : Bool) (w : World) (hlen : ¬ l.length ≤ 1000) (hG : Gl w) :
    Calls Tryd.prog 7 #[.slice A l.length c, .agg #[.int .i64 v, .int .u32 a1, .int .u32 a2, .int .u32 a3, .int .u32 a4, .int .u32 a5, .int .u32 a6], .bool wide] w fun e w' => e = .returned (.bool true) ∧ Below w.heap.size w w' := by
  obtain ⟨n, hn⟩ : ∃ n, l.length = n := ⟨_, rfl⟩
  rw [hn] at hlen ⊢
  clear hn
  have HAW := Aside0.mk (fun W (h : Gl W) => awake_c W h)
  have HG := Aside0.mk hG
  have hl : (1000 : Int) < (n : Int) := by omega
  clear hG hlen
  go_enter Tryd.func7, Tryd.ntmps7
  go_wp2_with (fail)
  (with_reducible refine (HAW.out _ ?g).mono ?_)
  case g => exact HG.out.below (below_alloc (Below.refl _ w) _)
  rintro e w1 ⟨rfl, hb⟩
  have HB1 := Aside0.mk ((below_alloc (Below.refl _ w) _).trans (hb.mono (by simp)))
  clear hb
  go_wp2_with (fail)
  (with_reducible refine (HAW.out _ ?g2).mono ?_)
  case g2 => exact HG.out.below HB1.out
  rintro e w2 ⟨rfl, hb⟩
  have HB2 := Aside0.mk (HB1.out.trans (hb.mono HB1.out.size))
  clear hb HB1
  go_wp2
  go_ret
  exact ⟨rfl, HB2.out⟩
theorem DA_law (A : Option Addr) (c : Nat) (l : List Int) (v a1 a2 a3 a4 a5 a6 : Int) (wide : Bool) (w : World) (hC : Kd.C (Kd.int .u8) w A l.length l) (hlc : l.length ≤ c) (hB : Byt l) (hG : Gl w) (hH : Hd a1 a2 a3 a4 a5 a6) :
    Calls Tryd.prog 7 #[.slice A l.length c, .agg #[.int .i64 v, .int .u32 a1, .int .u32 a2, .int .u32 a3, .int .u32 a4, .int .u32 a5, .int .u32 a6], .bool wide] w fun e w' => e = .returned (.bool true) ∧ Below w.heap.size w w' := by
  by_cases hlen : l.length ≤ 1000
  · exact DA_short A c l v a1 a2 a3 a4 a5 a6 wide w hlen hC hlc hB hG hH
  · exact DA_long A c l v a1 a2 a3 a4 a5 a6 wide w hlen hG
end Go.Proofs.YtkdhdhkfkgjcnaaDoor.PBlockRoundTrip
