/- The text At. -/
import Derived.Test.YtkdhdhkfkgjcnaaDoorKgBlockRoundTrip
namespace Go.Proofs.YtkdhdhkfkgjcnaaDoor.PBlockRoundTrip
open Go.RowKit Go.Proofs.YtkdhdhkfkgjcnaaDoorW.PrintWords Go.Proofs.YtkdhdhkfkgjcnaaDoorW.PrintMore
set_option linter.unusedSimpArgs false
set_option linter.unusedVariables false

theorem bcell {W w1 : World} (hb : Below W.heap.size W w1) : (∀ b o, b < W.heap.size → w1.cell? ⟨b, o, none⟩ = W.cell? ⟨b, o, none⟩) ∧ (∀ b o, b < W.heap.size → w1.frozen? ⟨b, o, none⟩ = W.frozen? ⟨b, o, none⟩) :=
  ⟨fun b o h => hb.cell (p := ⟨b, o, none⟩) h, fun b o h => hb.frozen (p := ⟨b, o, none⟩) h⟩
/-- A sequence without its first parts. -/
def dropSeq : Nat → Code → Code
  | 0, c => c
  | n + 1, .seq _ b => dropSeq n b
  | _, c => c
set_option maxRecDepth 100000 in
set_option maxHeartbeats 40000000 in
theorem aw_tail (w V2 : World) (g0 g1 g2 g3 gh g6 g7 g9 : Nat) (Ae : Option Addr) (ce : Nat) (Af : Option Addr) (cf : Nat) (y : BV) (HS2 : Aside0 (AS w V2 g0 g1 g2 g3 gh Ae ce Af cf)) (HY2 : Aside0 (BlkC V2 y xB ∧ LB V2 g6 y xB ∧ LC V2 g7 Af 21 cf 21 0 0)) (HD2 : Aside0 (LC V2 g9 Af 20 cf 0 1 20)) (s0 s8 s10 s11 s12 s13 s14 s15 s16 s17 s18 s19 s20 s21 s22 s23 s24 s25 s26 s27 s28 s29 s30 s31 s32 s33 s34 s35 s36 s37 s38 s39 s40 s41 s42 s43 s44 s45 s46 s47 s48 s49 s50 s51 s52 s53 s54 s55 s56 s57 s58 s59 s60 s61 s62 s63 s64 s65 s66 s67 s68 s69 s70 s71 s72 s73 s74 s75 s76 s77 s78 s79 s80 s81 s82 s83 s84 s85 s86 s87 s88 s89 s90 s91 s92 s93 s94 s95 s96 s97 s98 s99 s100 s101 s102 s103 s104 s105 s106 s107 s108 s109 s110 s111 s112 s113 s114 s115 s116 s117 s118 s119 s120 s121 s122 s123 s124 s125 s126 s127 s128 s129 s130 s131 : Value) :
    Code.wp Tryd.prog (dropSeq 9 (Tryd.f8.body.getD .skip)) (bodyPost Tryd.prog Tryd.f8 fun e w' => e = .returned (.bool true) ∧ Below w.heap.size w w')
      { tmps := #[s0, .pointer (some ⟨g1, 0, none⟩), .slice Ae 7 ce, .pointer (some ⟨g3, 0, none⟩), .slice Af 21 cf, .pointer (some ⟨gh, 0, none⟩), .pointer (some ⟨g6, 0, none⟩), .pointer (some ⟨g7, 0, none⟩), s8, .pointer (some ⟨g9, 0, none⟩), s10, s11, s12, s13, s14, s15, s16, s17, s18, s19, s20, s21, s22, s23, s24, s25, s26, s27, s28, s29, s30, s31, s32, s33, s34, s35, s36, s37, s38, s39, s40, s41, s42, s43, s44, s45, s46, s47, s48, s49, s50, s51, s52, s53, s54, s55, s56, s57, s58, s59, s60, s61, s62, s63, s64, s65, s66, s67, s68, s69, s70, s71, s72, s73, s74, s75, s76, s77, s78, s79, s80, s81, s82, s83, s84, s85, s86, s87, s88, s89, s90, s91, s92, s93, s94, s95, s96, s97, s98, s99, s100, s101, s102, s103, s104, s105, s106, s107, s108, s109, s110, s111, s112, s113, s114, s115, s116, s117, s118, s119, s120, s121, s122, s123, s124, s125, s126, s127, s128, s129, s130, s131], defers := [] } V2 := by
  obtain ⟨cd, hcd⟩ : ∃ c, dropSeq 9 (Tryd.f8.body.getD .skip) = c := ⟨_, rfl⟩
  rw [hcd]
  dsimp only [dropSeq, Option.getD, Tryd.f8] at hcd
  subst hcd
  have HO := Aside0.mk (R_of_nums (k := .u8) (xs := []) (World.ownsRow_lit (base := V2.heap.size) (e := 5) (size := 1) V2 #[] 0 (Nat.le_refl _) (by simp [maxLen]) rfl) rfl)
  have HCf := Aside0.mk (Kd.C_below HS2.out.f.2 (below_alloc (Below.refl _ V2) (.cells #[] 5)))
  go_upto_region 12 with (at_builtin; refine wpList_append_R _ rfl (.tmp 48) (.tmp 49) 22 rfl V2.heap.size 5 Tryd.underlying22 info5 (.slice (some ⟨V2.heap.size, 0, none⟩) 0 0) [] fB (by rfl) HO.out Af 21 cf (by rfl) HCf.out (by simp) (by simp) ?_; intro v2 V3 hr2 hg2 hat2; have hr3 : Kd.R (Kd.int .u8) 5 V3 V2.heap.size (fun _ => True) v2 fB := by { simpa using hr2 }; obtain ⟨gb, cb, he, hgb, hgl, -⟩ := Kd.R_form hr3 (by decide); obtain rfl : v2 = .slice (some ⟨gb, 0, none⟩) 21 cb := he; have hr4 : Kd.R (Kd.int .u8) 5 V3 V2.heap.size (fun _ => True) (.slice (some ⟨gb, 0, none⟩) 21 cb) fB := hr3; obtain ⟨hx0, hf0⟩ := Kd.R_celln 0 hr4 (20 : Int) (by decide) (by decide); rw [show (20 : Int).toNat = 20 from rfl] at hx0 hf0; have HP := Aside0.mk (Kd.R_putg hr4 (20 : Int) 2); have HB3 : Aside0 (Below V2.heap.size V2 V3) := ⟨(below_alloc (Below.refl _ V2) _).grown hg2 (by simp) (by simp [Value.ownBlock])⟩; have HCB := Aside0.mk (And.intro hr4 hgb); clear hr2 hg2 hat2 hr3 hr4 hgb hgl)
  have HB4 : Aside0 (Below V2.heap.size V2 (V3.setCell ⟨gb, 20, none⟩ (.int .u8 2))) := ⟨HB3.out.setCell HCB.out.2 _⟩
  have HP4 : Aside0 (Kd.R (Kd.int .u8) 5 (V3.setCell ⟨gb, 20, none⟩ (.int .u8 2)) V2.heap.size (fun _ => True) (.slice (some ⟨gb, 0, none⟩) 21 cb) (fB.set 20 2)) := ⟨HP.out.1⟩
  obtain ⟨V4, hV4⟩ : ∃ V, V3.setCell ⟨gb, 20, none⟩ (.int .u8 2) = V := ⟨_, rfl⟩
  rw [hV4] at HB4 HP4 ⊢
  clear hV4 hx0 hf0 HP HCB HB3 HCf HO
  have HS4 := Aside0.mk (HS2.out.below HB4.out)
  have HY4 := Aside0.mk (And.intro (HY2.out.1.below HB4.out) (And.intro (HY2.out.2.1.below HB4.out) (HY2.out.2.2.below HB4.out)))
  have HD4 := Aside0.mk (HD2.out.below HB4.out)
  have hp4 : Kd.R (Kd.int .u8) 5 V4 V2.heap.size (fun _ => True) (.slice (some ⟨gb, 0, none⟩) (fB.set 20 2).length cb) (fB.set 20 2) := HP4.out
  have HC4 := Aside0.mk (R_le hp4)
  have HDf := Aside0.mk (fun W (h : Below V4.heap.size V4 W) => dec_bc (some ⟨gb, 0, none⟩) cb W HC4.out.2 (Kd.C_below HC4.out.1 h) (HS4.out.below h).g)
  clear hp4 HP4 HS2 HY2 HD2 HB4

  go_cut [11, 12] (fun s6 s7 W => ∃ (g6 g7 : Nat) (y : BV), s6 = .pointer (some ⟨g6, 0, none⟩) ∧ s7 = .pointer (some ⟨g7, 0, none⟩) ∧ Aside0 (Below V4.heap.size V4 W) ∧ Aside0 (BlkR V4.heap.size W y zB ∧ LB W g6 y zB ∧ LC W g7 (some ⟨gb, 0, none⟩) 21 cb 21 10 7))
  case first =>
    go_region_held3 (fun w' => w'.cell? ⟨gh, 0, none⟩ = some (.int .i64 2) ∧ w'.cell? ⟨gh, 1, none⟩ = some (.int .u32 0) ∧ w'.cell? ⟨gh, 2, none⟩ = some (.int .u32 2) ∧ w'.cell? ⟨gh, 3, none⟩ = some (.int .u32 0) ∧ w'.cell? ⟨gh, 4, none⟩ = some (.int .u32 1) ∧ w'.cell? ⟨gh, 5, none⟩ = some (.int .u32 2) ∧ w'.cell? ⟨gh, 6, none⟩ = some (.int .u32 2))
      ((refine (HS4.out.below ?_).h.allx; (repeat (first | (with_reducible exact HBd.out) | (with_reducible exact HBs.out) | (with_reducible exact HBn.out) | (with_reducible exact Below.refl _ _) | (with_reducible refine Below.drew ?_) | (with_reducible refine pw_below_drewN ?_ _) | (with_reducible refine below_alloc ?_ _) | (with_reducible refine Below.setCell ?_ (by first | omega | (simp; done) | (simp; omega)) _))); done))
      (first | (go_at_call 23; (with_reducible refine (New_c _ _ _ _).mono ?_); rintro e wn ⟨rfl, hn⟩; have HBn : Aside0 (Below V4.heap.size V4 wn) := ⟨Below.trans (by (repeat (first | (with_reducible exact HBd.out) | (with_reducible exact HBs.out) | (with_reducible exact HBn.out) | (with_reducible exact Below.refl _ _) | (with_reducible refine Below.drew ?_) | (with_reducible refine pw_below_drewN ?_ _) | (with_reducible refine below_alloc ?_ _) | (with_reducible refine Below.setCell ?_ (by first | omega | (simp; done) | (simp; omega)) _)))) (hn.mono (by first | omega | (simp; done) | (simp; omega)))⟩; have hs_wn := HBn.out.size; have hsz_ := hn.size; (try have q : V4.heap.size < wn.heap.size := (by first | omega | (have h9 := hsz_; simp at h9; omega))); (try have q : V4.heap.size + 1 < wn.heap.size := (by first | omega | (have h9 := hsz_; simp at h9; omega))); (try simp at hsz_); obtain ⟨hc_wn, hf_wn⟩ := bcell hn; have HZ_wn := Aside0.mk (fun (g : Nat) (o : Obj) (hg : _ = some o) => blk_below (g := g) (o := o) hg hn); clear hn hsz_) | (go_at_call 12; (with_reducible refine (HDf.out _ ?h).mono ?_); (case h => (repeat (first | (with_reducible exact HBd.out) | (with_reducible exact HBs.out) | (with_reducible exact HBn.out) | (with_reducible exact Below.refl _ _) | (with_reducible refine Below.drew ?_) | (with_reducible refine pw_below_drewN ?_ _) | (with_reducible refine below_alloc ?_ _) | (with_reducible refine Below.setCell ?_ (by first | omega | (simp; done) | (simp; omega)) _)))); rintro e wd ⟨y, rfl, HY, hd⟩; have HBd : Aside0 (Below V4.heap.size V4 wd) := ⟨Below.trans (by (repeat (first | (with_reducible exact HBd.out) | (with_reducible exact HBs.out) | (with_reducible exact HBn.out) | (with_reducible exact Below.refl _ _) | (with_reducible refine Below.drew ?_) | (with_reducible refine pw_below_drewN ?_ _) | (with_reducible refine below_alloc ?_ _) | (with_reducible refine Below.setCell ?_ (by first | omega | (simp; done) | (simp; omega)) _)))) (hd.mono (by first | omega | (simp; done) | (simp; omega)))⟩; have hs_wd := HBd.out.size; have hsz_ := hd.size; (try have q : V4.heap.size < wd.heap.size := (by first | omega | (have h9 := hsz_; simp at h9; omega))); (try have q : V4.heap.size + 1 < wd.heap.size := (by first | omega | (have h9 := hsz_; simp at h9; omega))); (try have q : wn.heap.size < wd.heap.size := (by first | omega | (have h9 := hsz_; simp at h9; omega))); (try have q : wn.heap.size + 1 < wd.heap.size := (by first | omega | (have h9 := hsz_; simp at h9; omega))); (try simp at hsz_); obtain ⟨hc_wd, hf_wd⟩ := bcell hd; have HZ_wd := Aside0.mk (fun (g : Nat) (o : Obj) (hg : _ = some o) => blk_below (g := g) (o := o) hg hd); clear hd hsz_))
    all_goals go_wp2_with (fail)
    all_goals go_meet
    all_goals exact ⟨_, _, y, rfl, rfl, rg_end HY.out (by first | omega | (simp; done) | (simp; omega)) (by (first | exact .inl (by omega) | exact .inr ⟨_, (by (repeat (first | (with_reducible exact blk_new _ _) | (with_reducible exact blk_new1 _ _ _) | (with_reducible refine blk_newS ?_ <;> (simp; done)) | (with_reducible refine blk_drew ?_) | (with_reducible refine blk_drewN ?_ _) | (with_reducible refine blk_alloc ?_ _) | (with_reducible refine fin6 ?_ _ _ _ _ _ _ _) | (with_reducible refine fin7 ?_ _ _ _ _) | (with_reducible refine HZ_wd.out _ _ ?_) | (with_reducible refine HZ_wn.out _ _ ?_) | (with_reducible refine blk_farN ?_ (by omega) _))))⟩)) (by (first | exact .inl (by omega) | exact .inr ⟨_, (by (repeat (first | (with_reducible exact blk_new _ _) | (with_reducible exact blk_new1 _ _ _) | (with_reducible refine blk_newS ?_ <;> (simp; done)) | (with_reducible refine blk_drew ?_) | (with_reducible refine blk_drewN ?_ _) | (with_reducible refine blk_alloc ?_ _) | (with_reducible refine fin6 ?_ _ _ _ _ _ _ _) | (with_reducible refine fin7 ?_ _ _ _ _) | (with_reducible refine HZ_wd.out _ _ ?_) | (with_reducible refine HZ_wn.out _ _ ?_) | (with_reducible refine blk_farN ?_ (by omega) _))))⟩)) (by (intro k h1 h2 h3; repeat (first | (with_reducible rfl) | (rw [heap_far _ _ _ _ k h2]) | (rw [heap_far _ _ _ _ k h3]) | (rw [Below.heap_alloc _ _ _ (by first | omega | (simp; omega))])))) (by (repeat (first | (with_reducible exact HBd.out) | (with_reducible exact HBs.out) | (with_reducible exact HBn.out) | (with_reducible exact Below.refl _ _) | (with_reducible refine Below.drew ?_) | (with_reducible refine pw_below_drewN ?_ _) | (with_reducible refine below_alloc ?_ _) | (with_reducible refine Below.setCell ?_ (by first | omega | (simp; done) | (simp; omega)) _)))) (show _ = some (Obj.cells #[.slice y.A0 0 y.c0, .slice y.A1 0 y.c1, .slice y.A2 0 y.c2, .slice y.A3 0 y.c3, .slice y.A4 0 y.c4, .slice y.A5 0 y.c5, .slice y.A6 0 y.c6] 34 (0, 0)) from (by (repeat (first | (with_reducible exact blk_new _ _) | (with_reducible exact blk_new1 _ _ _) | (with_reducible refine blk_newS ?_ <;> (simp; done)) | (with_reducible refine blk_drew ?_) | (with_reducible refine blk_drewN ?_ _) | (with_reducible refine blk_alloc ?_ _) | (with_reducible refine fin6 ?_ _ _ _ _ _ _ _) | (with_reducible refine fin7 ?_ _ _ _ _) | (with_reducible refine HZ_wd.out _ _ ?_) | (with_reducible refine HZ_wn.out _ _ ?_) | (with_reducible refine blk_farN ?_ (by omega) _))))) (by (repeat (first | (with_reducible exact blk_new _ _) | (with_reducible exact blk_new1 _ _ _) | (with_reducible refine blk_newS ?_ <;> (simp; done)) | (with_reducible refine blk_drew ?_) | (with_reducible refine blk_drewN ?_ _) | (with_reducible refine blk_alloc ?_ _) | (with_reducible refine fin6 ?_ _ _ _ _ _ _ _) | (with_reducible refine fin7 ?_ _ _ _ _) | (with_reducible refine HZ_wd.out _ _ ?_) | (with_reducible refine HZ_wn.out _ _ ?_) | (with_reducible refine blk_farN ?_ (by omega) _))))⟩
  case rest =>
  obtain ⟨g11, g12, y3_, rfl, rfl, HB, HQ⟩ := hcut
  obtain ⟨V5, rfl⟩ : ∃ V, V = wc := ⟨_, rfl⟩
  have HS5 := Aside0.mk (HS4.out.below HB.out)
  have HY5 := Aside0.mk (And.intro (HY4.out.1.below HB.out) (And.intro (HY4.out.2.1.below HB.out) (HY4.out.2.2.below HB.out)))
  have HD5 := Aside0.mk (HD4.out.below HB.out)
  have HE5 := Aside0.mk HQ.out.2.2
  clear HDf HS4 HY4 HD4 HC4 HB HQ
  have hmk := run_mk7
  have hA := below_alloc (Below.refl _ V5) (.cells #[.int .u8 0, .int .u8 0, .int .u8 0, .int .u8 0, .int .u8 0, .int .u8 0, .int .u8 0] 5)
  have HM : Aside0 (Kd.C (Kd.int .u8) (V5.alloc (.cells #[.int .u8 0, .int .u8 0, .int .u8 0, .int .u8 0, .int .u8 0, .int .u8 0, .int .u8 0] 5)) (some ⟨V5.heap.size, 0, none⟩) 7 (List.replicate 7 0)) := ⟨C_ints (k := .u8) (List.replicate 7 0) (blk_new V5 (.cells #[.int .u8 0, .int .u8 0, .int .u8 0, .int .u8 0, .int .u8 0, .int .u8 0, .int .u8 0] 5)) (by simp)⟩
  have HCe6 := Aside0.mk (And.intro HS5.out.e.1 (Kd.C_below HS5.out.e.2 hA))
  clear hA
  go_wp2_with (fail)
  (with_reducible refine (same_e Ae (some ⟨V5.heap.size, 0, none⟩) ce 7 _ HCe6.out.2 HCe6.out.1 HM.out (Nat.le_refl _)).mono ?_)
  rintro e V6 ⟨rfl, ⟨k6, hk6⟩⟩
  have hB6 : Below V5.heap.size V5 V6 := by
    rw [hk6]
    exact pw_below_drewN (below_alloc (Below.refl _ V5) _) k6
  clear hk6 HM HCe6 hmk
  have HS6 := Aside0.mk (HS5.out.below hB6)
  have HY6 := Aside0.mk (And.intro (HY5.out.1.below hB6) (And.intro (HY5.out.2.1.below hB6) (HY5.out.2.2.below hB6)))
  have HD6 := Aside0.mk (HD5.out.below hB6)
  have HE6 := Aside0.mk (HE5.out.below hB6)
  clear hB6 HS5 HY5 HD5 HE5
  obtain ⟨ad, rfl, c0⟩ := Kd.at_int HS6.out.f.2 0 (by omega) (by omega)
  obtain ⟨ad', e', c4⟩ := Kd.at_int HS6.out.f.2 4 (by omega) (by omega)
  obtain ⟨ad2, e2, c20⟩ := Kd.at_int HS6.out.f.2 20 (by omega) (by omega)
  obtain rfl := Option.some.inj e'
  obtain rfl := Option.some.inj e2
  have c0' : V6.cell? ad = some (.int .u8 255) := c0
  have c4' : V6.cell? ⟨ad.block, ad.off + 4, none⟩ = some (.int .u8 1) := c4
  have c20' : V6.cell? ⟨ad.block, ad.off + 20, none⟩ = some (.int .u8 1) := c20
  clear c0 c4 c20 e' e2
  obtain ⟨h0, h1, h2, h3, h4, h5, h6⟩ := HS6.out.h.allx
  obtain ⟨x0, x1, x2, x3, x4, x5, x6⟩ := HS6.out.lx.allx
  obtain ⟨z0, z1, z2, z3, z4, z5, z6⟩ := HY6.out.2.1.ally
  go_wp2_with (fail)
  (with_reducible refine (req_xy g2 y _ HS6.out.x HY6.out.1).mono ?_)
  rintro e V7 ⟨rfl, hb⟩
  have HS7 := Aside0.mk (HS6.out.below hb)
  have HY7 := Aside0.mk (And.intro (HY6.out.1.below hb) (And.intro (HY6.out.2.1.below hb) (HY6.out.2.2.below hb)))
  have HD7 := Aside0.mk (HD6.out.below hb)
  have HE7 := Aside0.mk (HE6.out.below hb)
  clear hb HS6 HY6 HD6 HE6 c0' c4' c20' h0 h1 h2 h3 h4 h5 h6 x0 x1 x2 x3 x4 x5 x6 z0 z1 z2 z3 z4 z5 z6
  obtain ⟨x0, x1, x2, x3, x4, x5, x6⟩ := HS7.out.lx.allx
  obtain ⟨z0, z1, z2, z3, z4, z5, z6⟩ := HY7.out.2.1.ally
  obtain ⟨-, q1, q2, -⟩ := HY7.out.2.2.all
  obtain ⟨-, -, r2, r3⟩ := HD7.out.all
  obtain ⟨-, -, s2, s3⟩ := HE7.out.all
  go_wp2_with (fail)
  (with_reducible refine (eq_xy g2 y _ HS7.out.x HY7.out.1).mono ?_)
  rintro e V8 ⟨rfl, hb⟩
  have HS8 := Aside0.mk (HS7.out.below hb)
  clear hb HS7 HY7 HD7 HE7 x0 x1 x2 x3 x4 x5 x6 z0 z1 z2 z3 z4 z5 z6 q1 q2 r2 r3 s2 s3
  obtain ⟨x0, x1, x2, x3, x4, x5, x6⟩ := HS8.out.lx.allx
  obtain ⟨z0, z1, z2, z3, z4, z5, z6⟩ := HS8.out.ls.allsl
  go_wp2_with (fail)
  (with_reducible refine (eq_xs g2 g0 _ HS8.out.x HS8.out.s).mono ?_)
  rintro e V9 ⟨rfl, hb⟩
  have HB9 := Aside0.mk (HS8.out.b.trans (hb.mono HS8.out.b.size))
  clear hb HS8 x0 x1 x2 x3 x4 x5 x6 z0 z1 z2 z3 z4 z5 z6
  go_wp2
  go_ret
  exact ⟨rfl, HB9.out⟩
end Go.Proofs.YtkdhdhkfkgjcnaaDoor.PBlockRoundTrip
