/- The text Hc. -/
import Derived.Test.YtkdhdhkfkgjcnaaDoorKiBlockRoundTrip
namespace Go.Proofs.YtkdhdhkfkgjcnaaDoor.PBlockRoundTrip
open Go.RowKit Go.Proofs.YtkdhdhkfkgjcnaaDoorW.PrintWords Go.Proofs.YtkdhdhkfkgjcnaaDoorW.PrintMore
set_option linter.unusedSimpArgs false
set_option linter.unusedVariables false

theorem Size_c (b : Bool) (w : World) : Calls Tryd.prog 11 #[.bool b] w fun e w' => e = .returned (.int .i64 (if b then 8 else 4)) ∧ Drawn0 w w' :=
  zoneinforef14_Size.calls b _ w (by cases b <;> rfl)
/-- block.Decode of too short an input, in a world behind another. -/
theorem dec_sc (A : Option Addr) (c n : Nat) (v b1 b2 b3 b4 b5 b6 s at_ : Int) (W : World) (hH : Hd b1 b2 b3 b4 b5 b6) (hs : 4 ≤ s) (hs' : s ≤ 8) (hn : n ≤ 4611686018427387904) (hb : ¬ tot b1 b2 b3 b4 b5 b6 s ≤ n) :
    Calls Tryd.prog 12 #[.agg #[.slice A n c, .int .i64 0, .int .i64 0, .int .i64 0], .agg #[.int .i64 v, .int .u32 b1, .int .u32 b2, .int .u32 b3, .int .u32 b4, .int .u32 b5, .int .u32 b6], .int .i64 s, .int .i64 at_] W fun e w' =>
      ∃ y : BV, e = .returned (.tuple #[.agg #[.slice y.A0 0 y.c0, .slice y.A1 0 y.c1, .slice y.A2 0 y.c2, .slice y.A3 0 y.c3, .slice y.A4 0 y.c4, .slice y.A5 0 y.c5, .slice y.A6 0 y.c6], .agg #[.slice A n c, .int .i64 0, .int .i64 1, .int .i64 n]]) ∧ Aside0 (BlkR W.heap.size w' y zB) ∧ Below W.heap.size W w' := by
  refine (Decode_short A c n 0 0 v b1 b2 b3 b4 b5 b6 s at_ W hH hs hs' (by omega) (by omega) hn (by omega)).mono ?_
  rintro e w' ⟨rfl, hb⟩
  exact ⟨zV, rfl, ⟨BlkR.zero _ _⟩, hb⟩
theorem req_zz (y : BV) (W : World) (h : BlkC W y zB) :
    Calls Tryd.prog 14 #[.agg #[.slice y.A0 0 y.c0, .slice y.A1 0 y.c1, .slice y.A2 0 y.c2, .slice y.A3 0 y.c3, .slice y.A4 0 y.c4, .slice y.A5 0 y.c5, .slice y.A6 0 y.c6], .agg #[.slice none 0 0, .slice none 0 0, .slice none 0 0, .slice none 0 0, .slice none 0 0, .slice none 0 0, .slice none 0 0]] W fun e w' => e = .returned (.bool true) ∧ Below W.heap.size W w' := by
  have h2 := REqual_c y zV zB zB W h (BlkR.zero 0 W).toC (by constructor <;> decide)
  rw [eqB_true rfl] at h2
  exact h2
theorem tot_big {b1 b2 b3 b4 b5 b6 s : Int} (h : Hd b1 b2 b3 b4 b5 b6) (hs : 4 ≤ s) (hs' : s ≤ 8) (hb : b1 = 4294967295 ∨ b2 = 4294967295 ∨ b3 = 4294967295 ∨ b4 = 4294967295 ∨ b5 = 4294967295 ∨ b6 = 4294967295) : 1000 < tot b1 b2 b3 b4 b5 b6 s := by
  obtain ⟨h1, h1', h2, h2', h3, h3', h4, h4', h5, h5', h6, h6'⟩ := h
  obtain ⟨m1, m1'⟩ := mul_bd b4 s 4294967295 8 h4 h4' (by omega) hs'
  obtain ⟨m2, m2'⟩ := mul_bd b3 (s + 4) 4294967295 12 h3 h3' (by omega) (by omega)
  have m3 : b3 * 1 ≤ b3 * (s + 4) := Int.mul_le_mul_of_nonneg_left (by omega) h3
  unfold tot
  omega

set_option maxRecDepth 50000 in
set_option maxHeartbeats 40000000 in
theorem HC_short (A : Option Addr) (c : Nat) (l : List Int) (v a1 a2 a3 a4 a5 a6 : Int) (wide : Bool) (q : Int) (w : World) (hlen : l.length ≤ 1000) (hq : 0 ≤ q) (hq' : q ≤ 255) (hG : Gl w) (hH : Hd a1 a2 a3 a4 a5 a6) :
    Calls Tryd.prog 6 #[.slice A l.length c, .agg #[.int .i64 v, .int .u32 a1, .int .u32 a2, .int .u32 a3, .int .u32 a4, .int .u32 a5, .int .u32 a6], .bool wide, .int .u8 q] w fun e w' => e = .returned (.bool true) ∧ Below w.heap.size w w' := by
  obtain ⟨n, hn⟩ : ∃ n, l.length = n := ⟨_, rfl⟩
  rw [hn] at hlen ⊢
  clear hn
  have HAW := Aside0.mk (fun W (h : Gl W) => awake_c W h)
  have HG := Aside0.mk hG
  have HH := Aside0.mk hH
  have HSZ := Aside0.mk (fun W => Size_c wide W)
  obtain ⟨sz, hsz⟩ : ∃ s : Int, (if wide then 8 else 4) = s := ⟨_, rfl⟩
  have hs4 : 4 ≤ sz := by rw [← hsz]; split <;> omega
  have hs8 : sz ≤ 8 := by rw [← hsz]; split <;> omega
  rw [hsz] at HSZ
  have HL := Aside0.mk (LH.new w v a1 a2 a3 a4 a5 a6)
  have hq6 : 0 ≤ q % 6 ∧ q % 6 < 6 := by omega
  clear hG hH hsz
  go_enter Tryd.func6, Tryd.ntmps6
  go_upto_block 0 with (go_at_call 8; (with_reducible refine (HAW.out _ ?g).mono ?_); (case g => exact HG.out.below (below_alloc (Below.refl _ w) _)); rintro e w1 ⟨rfl, hb⟩; have HB1 := Aside0.mk ((below_alloc (Below.refl _ w) _).trans (hb.mono (by simp))); have HL1 := Aside0.mk (HL.out.below hb); obtain ⟨h0, h1, h2, h3, h4, h5, h6⟩ := HL1.out.all; have k0 := blk_frozen HL1.out.k 1; have k1 := blk_frozen HL1.out.k 2; have k2 := blk_frozen HL1.out.k 3; have k3 := blk_frozen HL1.out.k 4; have k4 := blk_frozen HL1.out.k 5; have k5 := blk_frozen HL1.out.k 6; clear hb)
  go_cut [20] (fun s20 W => ∃ b1 b2 b3 b4 b5 b6 : Int, LH W w.heap.size v b1 b2 b3 b4 b5 b6 ∧ Aside0 (Hd b1 b2 b3 b4 b5 b6) ∧ Aside0 (b1 = 4294967295 ∨ b2 = 4294967295 ∨ b3 = 4294967295 ∨ b4 = 4294967295 ∨ b5 = 4294967295 ∨ b6 = 4294967295) ∧ Aside0 (Below w.heap.size w W))
  case first =>
    go_wp2_with (fail)
    · go_meet
      exact ⟨a1, a2, a3, 4294967295, a5, a6, ⟨blk_put HL1.out.k 4 (.int .u32 4294967295) rfl⟩, ⟨by obtain ⟨g1, g2, g3, g4, g5, g6, g7, g8, g9, g10, g11, g12⟩ := HH.out; constructor <;> omega⟩, ⟨by simp⟩, ⟨HB1.out.setCell (Nat.le_refl _) _⟩⟩
    · go_meet
      exact ⟨a1, a2, a3, a4, 4294967295, a6, ⟨blk_put HL1.out.k 5 (.int .u32 4294967295) rfl⟩, ⟨by obtain ⟨g1, g2, g3, g4, g5, g6, g7, g8, g9, g10, g11, g12⟩ := HH.out; constructor <;> omega⟩, ⟨by simp⟩, ⟨HB1.out.setCell (Nat.le_refl _) _⟩⟩
    · go_meet
      exact ⟨a1, a2, a3, a4, a5, 4294967295, ⟨blk_put HL1.out.k 6 (.int .u32 4294967295) rfl⟩, ⟨by obtain ⟨g1, g2, g3, g4, g5, g6, g7, g8, g9, g10, g11, g12⟩ := HH.out; constructor <;> omega⟩, ⟨by simp⟩, ⟨HB1.out.setCell (Nat.le_refl _) _⟩⟩
    · go_meet
      exact ⟨a1, a2, 4294967295, a4, a5, a6, ⟨blk_put HL1.out.k 3 (.int .u32 4294967295) rfl⟩, ⟨by obtain ⟨g1, g2, g3, g4, g5, g6, g7, g8, g9, g10, g11, g12⟩ := HH.out; constructor <;> omega⟩, ⟨by simp⟩, ⟨HB1.out.setCell (Nat.le_refl _) _⟩⟩
    · go_meet
      exact ⟨a1, 4294967295, a3, a4, a5, a6, ⟨blk_put HL1.out.k 2 (.int .u32 4294967295) rfl⟩, ⟨by obtain ⟨g1, g2, g3, g4, g5, g6, g7, g8, g9, g10, g11, g12⟩ := HH.out; constructor <;> omega⟩, ⟨by simp⟩, ⟨HB1.out.setCell (Nat.le_refl _) _⟩⟩
    · go_meet
      exact ⟨4294967295, a2, a3, a4, a5, a6, ⟨blk_put HL1.out.k 1 (.int .u32 4294967295) rfl⟩, ⟨by obtain ⟨g1, g2, g3, g4, g5, g6, g7, g8, g9, g10, g11, g12⟩ := HH.out; constructor <;> omega⟩, ⟨by simp⟩, ⟨HB1.out.setCell (Nat.le_refl _) _⟩⟩
  case rest =>
  obtain ⟨b1, b2, b3, b4, b5, b6, HL2, HH2, HX, HB2⟩ := hcut
  obtain ⟨W0, rfl⟩ : ∃ V, V = wc := ⟨_, rfl⟩
  have htot := tot_big HH2.out hs4 hs8 HX.out
  have hnt : ¬ tot b1 b2 b3 b4 b5 b6 sz ≤ n := by omega
  have HDf := Aside0.mk (fun W (h : Below W0.heap.size W0 W) => dec_sc A c n v b1 b2 b3 b4 b5 b6 sz 0 W HH2.out hs4 hs8 (by omega) hnt)
  have HL0 := Aside0.mk HL2
  clear HX htot hnt HL2 HB1 HH HL HL1 hq6 HAW h0 h1 h2 h3 h4 h5 h6 k0 k1 k2 k3 k4 k5
  go_upto_region 16 with (fail)
  go_cut [9, 10] (fun s6 s7 W => ∃ (g6 g7 : Nat) (y : BV), s6 = .pointer (some ⟨g6, 0, none⟩) ∧ s7 = .pointer (some ⟨g7, 0, none⟩) ∧ Aside0 (Below W0.heap.size W0 W) ∧ Aside0 (BlkR W0.heap.size W y zB ∧ LB W g6 y zB ∧ LC W g7 A n c 0 1 n))
  case first =>
    go_region_held3 (fun w' => w'.cell? ⟨w.heap.size, 0, none⟩ = some (.int .i64 v) ∧ w'.cell? ⟨w.heap.size, 1, none⟩ = some (.int .u32 b1) ∧ w'.cell? ⟨w.heap.size, 2, none⟩ = some (.int .u32 b2) ∧ w'.cell? ⟨w.heap.size, 3, none⟩ = some (.int .u32 b3) ∧ w'.cell? ⟨w.heap.size, 4, none⟩ = some (.int .u32 b4) ∧ w'.cell? ⟨w.heap.size, 5, none⟩ = some (.int .u32 b5) ∧ w'.cell? ⟨w.heap.size, 6, none⟩ = some (.int .u32 b6))
      ((refine (HL0.out.below ?_).all; (repeat (first | (with_reducible exact HBd.out) | (with_reducible exact HBs.out) | (with_reducible exact HBn.out) | (with_reducible exact Below.refl _ _) | (with_reducible refine Below.drew ?_) | (with_reducible refine pw_below_drewN ?_ _) | (with_reducible refine below_alloc ?_ _) | (with_reducible refine Below.setCell ?_ (by first | omega | (simp; done) | (simp; omega)) _))); done))
      (first | (go_at_call 23; (with_reducible refine (New_c _ _ _ _).mono ?_); rintro e wn ⟨rfl, hn⟩; have HBn : Aside0 (Below W0.heap.size W0 wn) := ⟨Below.trans (by (repeat (first | (with_reducible exact HBd.out) | (with_reducible exact HBs.out) | (with_reducible exact HBn.out) | (with_reducible exact Below.refl _ _) | (with_reducible refine Below.drew ?_) | (with_reducible refine pw_below_drewN ?_ _) | (with_reducible refine below_alloc ?_ _) | (with_reducible refine Below.setCell ?_ (by first | omega | (simp; done) | (simp; omega)) _)))) (hn.mono (by first | omega | (simp; done) | (simp; omega)))⟩; have hs_wn := HBn.out.size; have hsz_ := hn.size; (try have q : W0.heap.size < wn.heap.size := (by first | omega | (have h9 := hsz_; simp at h9; omega))); (try have q : W0.heap.size + 1 < wn.heap.size := (by first | omega | (have h9 := hsz_; simp at h9; omega))); (try have q : ws.heap.size < wn.heap.size := (by first | omega | (have h9 := hsz_; simp at h9; omega))); (try have q : ws.heap.size + 1 < wn.heap.size := (by first | omega | (have h9 := hsz_; simp at h9; omega))); (try simp at hsz_); obtain ⟨hc_wn, hf_wn⟩ := bcell hn; have HZ_wn := Aside0.mk (fun (g : Nat) (o : Obj) (hg : _ = some o) => blk_below (g := g) (o := o) hg hn); clear hn hsz_) | (go_at_call 11; (with_reducible refine (HSZ.out _).mono ?_); rintro e ws ⟨rfl, hs0⟩; have hs := hs0.below; clear hs0; have HBs : Aside0 (Below W0.heap.size W0 ws) := ⟨Below.trans (by (repeat (first | (with_reducible exact HBd.out) | (with_reducible exact HBs.out) | (with_reducible exact HBn.out) | (with_reducible exact Below.refl _ _) | (with_reducible refine Below.drew ?_) | (with_reducible refine pw_below_drewN ?_ _) | (with_reducible refine below_alloc ?_ _) | (with_reducible refine Below.setCell ?_ (by first | omega | (simp; done) | (simp; omega)) _)))) (hs.mono (by first | omega | (simp; done) | (simp; omega)))⟩; have hs_ws := HBs.out.size; have hsz_ := hs.size; (try have q : W0.heap.size < ws.heap.size := (by first | omega | (have h9 := hsz_; simp at h9; omega))); (try have q : W0.heap.size + 1 < ws.heap.size := (by first | omega | (have h9 := hsz_; simp at h9; omega))); (try have q : wn.heap.size < ws.heap.size := (by first | omega | (have h9 := hsz_; simp at h9; omega))); (try have q : wn.heap.size + 1 < ws.heap.size := (by first | omega | (have h9 := hsz_; simp at h9; omega))); (try simp at hsz_); obtain ⟨hc_ws, hf_ws⟩ := bcell hs; have HZ_ws := Aside0.mk (fun (g : Nat) (o : Obj) (hg : _ = some o) => blk_below (g := g) (o := o) hg hs); clear hs hsz_) | (go_at_call 12; (with_reducible refine (HDf.out _ ?h).mono ?_); (case h => (repeat (first | (with_reducible exact HBd.out) | (with_reducible exact HBs.out) | (with_reducible exact HBn.out) | (with_reducible exact Below.refl _ _) | (with_reducible refine Below.drew ?_) | (with_reducible refine pw_below_drewN ?_ _) | (with_reducible refine below_alloc ?_ _) | (with_reducible refine Below.setCell ?_ (by first | omega | (simp; done) | (simp; omega)) _)))); rintro e wd ⟨y, rfl, HY, hd⟩; have HBd : Aside0 (Below W0.heap.size W0 wd) := ⟨Below.trans (by (repeat (first | (with_reducible exact HBd.out) | (with_reducible exact HBs.out) | (with_reducible exact HBn.out) | (with_reducible exact Below.refl _ _) | (with_reducible refine Below.drew ?_) | (with_reducible refine pw_below_drewN ?_ _) | (with_reducible refine below_alloc ?_ _) | (with_reducible refine Below.setCell ?_ (by first | omega | (simp; done) | (simp; omega)) _)))) (hd.mono (by first | omega | (simp; done) | (simp; omega)))⟩; have hs_wd := HBd.out.size; have hsz_ := hd.size; (try have q : W0.heap.size < wd.heap.size := (by first | omega | (have h9 := hsz_; simp at h9; omega))); (try have q : W0.heap.size + 1 < wd.heap.size := (by first | omega | (have h9 := hsz_; simp at h9; omega))); (try have q : wn.heap.size < wd.heap.size := (by first | omega | (have h9 := hsz_; simp at h9; omega))); (try have q : wn.heap.size + 1 < wd.heap.size := (by first | omega | (have h9 := hsz_; simp at h9; omega))); (try have q : ws.heap.size < wd.heap.size := (by first | omega | (have h9 := hsz_; simp at h9; omega))); (try have q : ws.heap.size + 1 < wd.heap.size := (by first | omega | (have h9 := hsz_; simp at h9; omega))); (try simp at hsz_); obtain ⟨hc_wd, hf_wd⟩ := bcell hd; have HZ_wd := Aside0.mk (fun (g : Nat) (o : Obj) (hg : _ = some o) => blk_below (g := g) (o := o) hg hd); clear hd hsz_))
    all_goals go_wp2_with (fail)
    all_goals go_meet
    all_goals exact ⟨_, _, y, rfl, rfl, rg_end HY.out (by first | omega | (simp; done) | (simp; omega)) (by (first | exact .inl (by omega) | exact .inr ⟨_, (by (repeat (first | (with_reducible exact blk_new _ _) | (with_reducible exact blk_new1 _ _ _) | (with_reducible refine blk_newS ?_ <;> (simp; done)) | (with_reducible refine blk_drew ?_) | (with_reducible refine blk_drewN ?_ _) | (with_reducible refine blk_alloc ?_ _) | (with_reducible refine fin6 ?_ _ _ _ _ _ _ _) | (with_reducible refine fin7 ?_ _ _ _ _) | (with_reducible refine HZ_wd.out _ _ ?_) | (with_reducible refine HZ_ws.out _ _ ?_) | (with_reducible refine HZ_wn.out _ _ ?_) | (with_reducible refine blk_farN ?_ (by omega) _))))⟩)) (by (first | exact .inl (by omega) | exact .inr ⟨_, (by (repeat (first | (with_reducible exact blk_new _ _) | (with_reducible exact blk_new1 _ _ _) | (with_reducible refine blk_newS ?_ <;> (simp; done)) | (with_reducible refine blk_drew ?_) | (with_reducible refine blk_drewN ?_ _) | (with_reducible refine blk_alloc ?_ _) | (with_reducible refine fin6 ?_ _ _ _ _ _ _ _) | (with_reducible refine fin7 ?_ _ _ _ _) | (with_reducible refine HZ_wd.out _ _ ?_) | (with_reducible refine HZ_ws.out _ _ ?_) | (with_reducible refine HZ_wn.out _ _ ?_) | (with_reducible refine blk_farN ?_ (by omega) _))))⟩)) (by (intro k h1 h2 h3; repeat (first | (with_reducible rfl) | (rw [heap_far _ _ _ _ k h2]) | (rw [heap_far _ _ _ _ k h3]) | (rw [Below.heap_alloc _ _ _ (by first | omega | (simp; omega))])))) (by (repeat (first | (with_reducible exact HBd.out) | (with_reducible exact HBs.out) | (with_reducible exact HBn.out) | (with_reducible exact Below.refl _ _) | (with_reducible refine Below.drew ?_) | (with_reducible refine pw_below_drewN ?_ _) | (with_reducible refine below_alloc ?_ _) | (with_reducible refine Below.setCell ?_ (by first | omega | (simp; done) | (simp; omega)) _)))) (show _ = some (Obj.cells #[.slice y.A0 0 y.c0, .slice y.A1 0 y.c1, .slice y.A2 0 y.c2, .slice y.A3 0 y.c3, .slice y.A4 0 y.c4, .slice y.A5 0 y.c5, .slice y.A6 0 y.c6] 34 (0, 0)) from (by (repeat (first | (with_reducible exact blk_new _ _) | (with_reducible exact blk_new1 _ _ _) | (with_reducible refine blk_newS ?_ <;> (simp; done)) | (with_reducible refine blk_drew ?_) | (with_reducible refine blk_drewN ?_ _) | (with_reducible refine blk_alloc ?_ _) | (with_reducible refine fin6 ?_ _ _ _ _ _ _ _) | (with_reducible refine fin7 ?_ _ _ _ _) | (with_reducible refine HZ_wd.out _ _ ?_) | (with_reducible refine HZ_ws.out _ _ ?_) | (with_reducible refine HZ_wn.out _ _ ?_) | (with_reducible refine blk_farN ?_ (by omega) _))))) (by (repeat (first | (with_reducible exact blk_new _ _) | (with_reducible exact blk_new1 _ _ _) | (with_reducible refine blk_newS ?_ <;> (simp; done)) | (with_reducible refine blk_drew ?_) | (with_reducible refine blk_drewN ?_ _) | (with_reducible refine blk_alloc ?_ _) | (with_reducible refine fin6 ?_ _ _ _ _ _ _ _) | (with_reducible refine fin7 ?_ _ _ _ _) | (with_reducible refine HZ_wd.out _ _ ?_) | (with_reducible refine HZ_ws.out _ _ ?_) | (with_reducible refine HZ_wn.out _ _ ?_) | (with_reducible refine blk_farN ?_ (by omega) _))))⟩
  case rest =>
  obtain ⟨g9, g10, y, rfl, rfl, HB, HR⟩ := hcut
  obtain ⟨V1, rfl⟩ : ∃ V, V = wc := ⟨_, rfl⟩
  have HB3 := Aside0.mk (HB2.out.trans (HB.out.mono HB2.out.size))
  clear HDf HB HB2 HL0 HH2 HSZ HG
  obtain ⟨z0, z1, z2, z3, z4, z5, z6⟩ := HR.out.2.1.allz
  obtain ⟨-, q1, q2, q3⟩ := HR.out.2.2.all
  go_wp2_with (fail)
  (with_reducible refine (req_zz y _ HR.out.1.toC).mono ?_)
  rintro e V2 ⟨rfl, hb⟩
  have HB4 := Aside0.mk (HB3.out.trans (hb.mono HB3.out.size))
  clear hb HB3 HR z0 z1 z2 z3 z4 z5 z6 q1 q2 q3
  go_wp2
  go_ret
  exact ⟨rfl, HB4.out⟩

set_option maxRecDepth 50000 in
set_option maxHeartbeats 4000000 in
theorem HC_long (A : Option Addr) (c : Nat) (l : List Int) (v a1 a2 a3 a4 a5 a6 : Int) (wide : Bool) (q : Int) (w : World) (hlen : ¬ l.length ≤ 1000) (hG : Gl w) :
    Calls Tryd.prog 6 #[.slice A l.length c, .agg #[.int .i64 v, .int .u32 a1, .int .u32 a2, .int .u32 a3, .int .u32 a4, .int .u32 a5, .int .u32 a6], .bool wide, .int .u8 q] w fun e w' => e = .returned (.bool true) ∧ Below w.heap.size w w' := by
  obtain ⟨n, hn⟩ : ∃ n, l.length = n := ⟨_, rfl⟩
  rw [hn] at hlen ⊢
  clear hn
  have HAW := Aside0.mk (fun W (h : Gl W) => awake_c W h)
  have HG := Aside0.mk hG
  have hl : (1000 : Int) < (n : Int) := by omega
  clear hG hlen
  go_enter Tryd.func6, Tryd.ntmps6
  go_wp2_with (fail)
  (with_reducible refine (HAW.out _ ?g).mono ?_)
  case g => exact HG.out.below (below_alloc (Below.refl _ w) _)
  rintro e w1 ⟨rfl, hb⟩
  have HB1 := Aside0.mk ((below_alloc (Below.refl _ w) _).trans (hb.mono (by simp)))
  clear hb
  go_wp2_with (fail)
  (with_reducible refine (HAW.out _ ?g2).mono ?_)
  case g2 => exact HG.out.below HB1.out
  rintro e w2 ⟨rfl, hb⟩
  have HB2 := Aside0.mk (HB1.out.trans (hb.mono HB1.out.size))
  clear hb HB1
  go_wp2
  go_ret
  exact ⟨rfl, HB2.out⟩
theorem HC_law (A : Option Addr) (c : Nat) (l : List Int) (v a1 a2 a3 a4 a5 a6 : Int) (wide : Bool) (q : Int) (w : World) (hC : Kd.C (Kd.int .u8) w A l.length l) (hlc : l.length ≤ c) (hB : Byt l) (hq : (Lit.int .u8 q).wf = true) (hG : Gl w) (hH : Hd a1 a2 a3 a4 a5 a6) :
    Calls Tryd.prog 6 #[.slice A l.length c, .agg #[.int .i64 v, .int .u32 a1, .int .u32 a2, .int .u32 a3, .int .u32 a4, .int .u32 a5, .int .u32 a6], .bool wide, .int .u8 q] w fun e w' => e = .returned (.bool true) ∧ Below w.heap.size w w' := by
  simp [Lit.wf, IntKind.min, IntKind.max, IntKind.signed, IntKind.bits] at hq
  by_cases hlen : l.length ≤ 1000
  · exact HC_short A c l v a1 a2 a3 a4 a5 a6 wide q w hlen (by omega) (by omega) hG hH
  · exact HC_long A c l v a1 a2 a3 a4 a5 a6 wide q w hlen hG
end Go.Proofs.YtkdhdhkfkgjcnaaDoor.PBlockRoundTrip
