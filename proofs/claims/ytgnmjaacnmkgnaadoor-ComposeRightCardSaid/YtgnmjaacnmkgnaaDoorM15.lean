/- Words and walks that the row of ComposeRight needs: printed by programs, and plain laws. -/
import Derived.Test.YtgnmjaacnmkgnaaDoorM14
import Derived.Test.YtgnmjaacnmkgnaaDoorM3
import Derived.Test.YtgnmjaacnmkgnaaDoorM10
import Derived.Test.YtgnmjaacnmkgnaaDoorM4
import Derived.Test.YtgnmjaacnmkgnaaDoorM9
namespace Go.Proofs.YtgnmjaacnmkgnaaDoorW.PrintWords
end Go.Proofs.YtgnmjaacnmkgnaaDoorW.PrintWords
namespace Go.Proofs.YtgnmjaacnmkgnaaDoorW.PrintLast
end Go.Proofs.YtgnmjaacnmkgnaaDoorW.PrintLast
namespace Go.Proofs.YtgnmjaacnmkgnaaDoorW.PrintMore
end Go.Proofs.YtgnmjaacnmkgnaaDoorW.PrintMore
section
namespace Go.Proofs.YtgnmjaacnmkgnaaDoor.X
open Go.RowKit Go.Shelf Go.Proofs Go.Proofs.YtgnmjaacnmkgnaaDoorW.PrintWords Go.Proofs.YtgnmjaacnmkgnaaDoorW.PrintLast Go.Proofs.YtgnmjaacnmkgnaaDoorW.PrintMore Go.Proofs.Eng
set_option linter.unusedVariables false
set_option linter.unusedSimpArgs false
attribute [local go_sem] max2_int min2_int max_two min_two
set_option maxHeartbeats 4000000 in
set_option maxRecDepth 100000 in
theorem Dc.normal_h (gv : Value) (h : List Dc.NV) (dp : Nat) (s' : Dc.Ms) (w : World) (hT : Tabs.Holds w) (hF : Reads w gv h.length 4 (Dc.cells h)) (hK : Dc.KsR w h) (hok : ∀ x ∈ h.map (·.1), Dc.NodeOk (h.map (·.1)) x) (h1 : 1 ≤ h.length) (h2 : h.length ≤ 2000) (htw : ∀ w1, Below w.heap.size w w1 → Calls Tryd.prog 41 #[gv] w1 fun e w2 => e = .returned (.bool false) ∧ Below w1.heap.size w1 w2) (hrn : Dc.Rn (h.map (·.1)) dp (List.replicate h.length 0, []) [0] s') (hid : s'.2 = Dc.idn h.length) : Calls Tryd.prog 21 #[gv] w fun e w' => ∃ o, e = .returned o ∧ Dc.GR w' (h.map (·.1)) o ∧ Below w.heap.size w w' := by
 have hm := Reads.len_le hF
 refine enter Tryd.func21 rfl fun A d0 s0 v0 => ?_
 have s0 : A.tmps.size = 67 := s0
 have y0 : A.eval (.tmp 0) = gv := v0 0 (by simp)
 clear v0
 have bl0 : Below w.heap.size w w := Below.refl _ _
 refine wp_seq (rS [.slice none 0 0] (fun _ => .plain) 1 0 s0 ?_ ?_)
 ·refine .c ?_ (.nil)
  ·exact pq fun a w' H => ra (rfl : a.eval (.const (.slice none 0 0)) = .slice none 0 0)
 intro A w1 T
 have y0 := T.r1 y0
 have Fgr_1 := T.f hF
 have y2 := T.u 0 2
 have ⟨d1, s1, bl1⟩ := T.h d0 s0 bl0
 clear T
 refine tail_nil (wp_seq ?_)
 refine (wpIn_wide (n := 1)).1 (EngI.regionT (n := 3) rfl ?_)
 refine EngI.tw rfl (rv y0) s1 d1 fun A d2 s2 y13 hr => ?_
 have ⟨y0, y2⟩ := k2 hr y0 y2
 refine EngI.tail_call EngI.free_wide Tryd.func43 (by kernel_rfl) (by kernel_rfl) rfl rfl rfl rfl #[gv] (m1 y13) s2 rfl (R := fun v w' => w'.ownsRow w1.heap.size 3 1 v h.length (Dc.ints (Dc.idn h.length)) ∧ Below w1.heap.size w1 w') (((Dc.order_h gv h dp s' _ (Tabs.below hT bl1) Fgr_1 (hK.below bl1) hok h1 h2 (fun w1 b => htw w1 (bl1.trans (b.mono bl1.size))) hrn (by rw [hid, Dc.idn_len]; omega)).mono (fun e wz r => (show ∃ o, e = .returned o ∧ wz.ownsRow w1.heap.size 3 1 o h.length (Dc.ints (Dc.idn h.length)) ∧ Below w1.heap.size w1 wz from by rw [hid, Dc.idn_len] at r; exact r))).mono ?_) fun v_3 w3 A R d3 s3 y14 hr => ?_
 ·rintro e w1 ⟨o, rfl, r⟩; exact ⟨_, rfl, r⟩
 have ⟨y0, y2⟩ := k2 hr y0 y2
 have d3 := d3.trans d2
 obtain ⟨O_3, b_3⟩ := R
 have Fgr_3 := Reads.below Fgr_1 b_3
 have bl3 := bl1.trans (b_3.mono bl1.size)
 have Oord_3 := own_mono O_3 bl1.size
 have Ford_3 := Reads.of_own Oord_3
 refine EngI.tw rfl (ra y14) s3 d3 fun A d4 s4 y3 hr => ?_
 have ⟨y0, y2⟩ := k2 hr y0 y2
 refine EngI.tail_nil (wp_seq ?_)
 refine regionT (n := 4) rfl (tail_val rfl rfl rfl (rv y0) s4 rfl fun A d5 s5 y15 hr => ?_)
 have ⟨y0, y2, y3⟩ := k3 hr y0 y2 y3
 have d5 := d5.trans d4
 refine tail_val (w1 := w3) (v := .int .i64 ((h.length : Nat) : Int)) rfl rfl rfl ?_ s5 rfl ?_
 ·exact run_len_sl rfl Tryd.underlying48 y15 Fgr_3
 intro A d6 s6 y16 hr
 have ⟨y0, y2, y3⟩ := k3 hr y0 y2 y3
 have d6 := d6.trans d5
 refine tail_ex rfl rfl rfl (Dc.run_make0 (B := w3.heap.size) rfl y16 y16 (Nat.le_refl _) (by omega)) s6 rfl fun v_7 w7 A R d7 s7 y17 hr => ?_
 obtain ⟨O_7, b_7⟩ := R
 have ⟨y0, y2, y3⟩ := k3 hr y0 y2 y3
 have d7 := d7.trans d6
 have axo := Dc.apart_age Oord_3 O_7 (Nat.le_refl _)
 have Ford_7 := Reads.below Ford_3 b_7
 have Oord_7 := own_below Oord_3 b_7
 have bl7 := bl3.trans (b_7.mono bl3.size)
 have On_7 := own_mono O_7 bl3.size
 have F_7 := Reads.of_own On_7
 refine tail_val rfl rfl rfl (ra y17) s7 rfl fun A d8 s8 y4 hr => ?_
 have ⟨y0, y2, y3⟩ := k3 hr y0 y2 y3
 have d8 := d8.trans d7
 refine tail_nil (wp_seq (wp_seq ?_))
 refine rP [v_3, .int .i64 ((h.length : Nat) : Int), .int .i64 0] 3 0 s8 (.c (qq 3 y3) (.c (pv fun a w' H => vr (v := .int .i64 ((h.length : Nat) : Int)) rfl (run_len_sl rfl Tryd.underlying55 (H.d 0 18) (Reads.below Ford_7 H.below))) (.c (pq fun a w' H => rv (rfl : a.eval (.const (.int .i64 0)) = .int .i64 0)) .nil))) fun A w9 T => ?_
 have ⟨y0, y2, y3, y4⟩ := T.r4 y0 y2 y3 y4
 have Oord_9 := T.g Oord_7
 have Onum_9 := T.g On_7
 have y18 := T.u 0 18
 have y19 := T.u 1 19
 have y20 := T.u 2 20
 have ⟨d9, s9, bl9⟩ := T.h d8 s8 bl7
 clear T
 refine tail_nil (wp_block ?_)
 refine loopN (fun n a w' => ∃ (q : Nat), h.length - q = n ∧ (q ≤ h.length) ∧ (w'.ownsRow w.heap.size 3 1 v_3 h.length (Dc.ints (Dc.idn h.length))) ∧ (w'.ownsRow w.heap.size 3 1 v_7 h.length (Dc.ints (Dc.numL h.length q))) ∧ a.defers = [] ∧ a.tmps.size = 67 ∧ Below w.heap.size w w' ∧ a.eval (.tmp 0) = gv ∧ a.eval (.tmp 2) = .slice none 0 0 ∧ a.eval (.tmp 3) = v_3 ∧ a.eval (.tmp 4) = v_7 ∧ a.eval (.tmp 18) = v_3 ∧ a.eval (.tmp 19) = .int .i64 ((h.length : Nat) : Int) ∧ a.eval (.tmp 20) = .int .i64 (q : Nat)) (n0 := h.length - 0) ?_ ?_
 ·exact ⟨0, rfl, Nat.zero_le _, Oord_9, Onum_9, d9, s9, bl9, y0, y2, y3, y4, y18, y19, (y20.trans (by first | rfl | (congr 1; rw [i64_id (by omega) (by omega)]; omega) | (simp; done)))⟩
 rintro n A w10 ⟨q, rfl, hc0_10, hc1_10, hc2_10, d10, s10, bl10, y0, y2, y3, y4, y18, y19, y20⟩
 have hq1 := hc0_10
 have Ford_10 := Reads.of_own hc1_10
 have Fnum_10 := Reads.of_own hc2_10
 refine wp_seq ?_
 obtain ⟨q21, Bq21⟩ := nm (decide ((q : Nat) < ((h.length : Nat) : Int)))
 refine rS [.bool q21] (fun _ => .plain) 1 0 s10 ?_ ?_
 ·refine .c ?_ (.nil)
  ·exact pv fun a w' H => vr (bb Bq21) (o2 (H.q 20 y20) (H.q 19 y19))
 intro A w11 T
 have ⟨y0, y2, y3, y4, y18, y19, y20⟩ := T.r7 y0 y2 y3 y4 y18 y19 y20
 have Ford_11 := T.f Ford_10
 have Oord_11 := T.g hc1_10
 have Fnum_11 := T.f Fnum_10
 have Onum_11 := T.g hc2_10
 have y21 := T.u 0 21
 have ⟨d11, s11, bl11⟩ := T.h d10 s10 bl10
 clear T
 refine tail_nil (wp_seq ?_)
 refine wp_cond_split y21 (fun hq => ?_) (fun hq => ?_)
 ·
  have c21 := Bq21.symm.trans hq
  clear hq
  have c21 := of_decide_eq_true c21
  have hq0 : q < h.length := by omega
  refine wp_skip (wp_seq ?_)
  refine wp_block (wp_seq ?_)
  refine rP [.int .i64 (q : Nat), elemPtr v_3 (q * 1), .int .i64 (q : Int), .int .i64 (q : Nat), .int .i64 (q : Int)] 5 0 s11 (.c (qq 20 y20) (.c (pv fun a w' H => vr (v := elemPtr v_3 (q * 1)) rfl (run_index_sl rfl Tryd.underlying55 (by kernel_rfl) (H.q 18 y18) ((H.q 20 y20).trans (congrArg (Value.int _) (show (q : Nat) = ((q : Nat) : Int) from by omega))) (Reads.below Ford_11 H.below) (by omega) rfl)) (.c (pv fun a w' H => vr (v := .int .i64 (q : Int)) rfl (run_load_el (.int .i64 (q : Int)) rfl (H.d 1 23) (Reads.below Ford_11 H.below) ((by have h_ := Dc.ints_get1 (Dc.idn h.length) q (by rw [Dc.idn_len]; omega); rw [Dc.idn_at (by omega)] at h_; exact h_)) (by kernel_rfl))) (.c (qe 0 22) (.c (qe 2 24) .nil))))) fun A w13 T => ?_
  have ⟨y0, y2, y3, y4, y18, y19, y20⟩ := T.r7 y0 y2 y3 y4 y18 y19 y20
  have Oord_13 := T.g Oord_11
  have Fnum_13 := T.f Fnum_11
  have Onum_13 := T.g Onum_11
  have y5 := T.u 3 5
  have y6 := T.u 4 6
  have ⟨d13, s13, bl13⟩ := T.h d11 s11 bl11
  clear T
  refine tail_nil ((wpIn_wide (n := 1)).1 ?_)
  refine EngI.regionT (n := 5) rfl (EngI.tw rfl (rv y4) s13 d13 fun A d14 s14 y25 hr => ?_)
  have ⟨y0, y2, y3, y4, y5, y6, y18, y19, y20⟩ := k9 hr y0 y2 y3 y4 y5 y6 y18 y19 y20
  refine EngI.tw rfl (rv y6) s14 d14 fun A d15 s15 y26 hr => ?_
  have ⟨y0, y2, y3, y4, y5, y18, y19, y20, y25⟩ := k9 hr y0 y2 y3 y4 y5 y18 y19 y20 y25
  refine EngI.tw rfl (rv y5) s15 d15 fun A d16 s16 y27 hr => ?_
  have ⟨y0, y2, y3, y4, y18, y19, y20, y25, y26⟩ := k9 hr y0 y2 y3 y4 y18 y19 y20 y25 y26
  refine EngI.tw (w1 := w13) (v := elemPtr v_7 (q * 1)) rfl ?_ s16 d16 ?_
  ·exact run_index_sl rfl Tryd.underlying55 (by kernel_rfl) y25 (y26.trans (congrArg (Value.int _) (show (q : Int) = ((q : Nat) : Int) from by omega))) Fnum_13 (by omega) rfl
  intro A d17 s17 y28 hr
  have ⟨y0, y2, y3, y4, y18, y19, y20, y27⟩ := k8 hr y0 y2 y3 y4 y18 y19 y20 y27
  refine EngG.tail_exs EngI.free_wide rfl rfl rfl rfl (run_store_own (j := q * 1) (u := .int .i64 (q : Nat)) rfl y28 y27 Onum_13 (by have h_ : q < h.length := (by omega); omega) (by kernel_rfl) (by rfl)) fun w18 R => ?_
  obtain ⟨O_18, G_18⟩ := R
  have bl18 := bl13.grown G_18 bl13.size (fun j hj => (ownB Onum_13 hj.symm).1)
  have Oord_18 := Dc.kept_ap Oord_13 G_18 axo
  have On_18 := Dc.own_num hq0 O_18
  refine EngI.tail_nil (rP [.int .i64 (IntKind.i64.wrap ((q : Nat) + 1)), .int .i64 (IntKind.i64.wrap ((q : Nat) + 1))] 2 0 s17 (.c (pv fun a w' H => vr (v := .int .i64 (IntKind.i64.wrap ((q : Nat) + 1))) rfl (ok (.int .i64 1) (H.q 20 y20))) (.c (qd 0 29) .nil)) fun A w19 T => ?_)
  have ⟨y0, y2, y3, y4, y18, y19⟩ := T.r6 y0 y2 y3 y4 y18 y19
  have Oord_19 := T.g Oord_18
  have Onum_19 := T.g On_18
  have y20 := T.u 1 20
  have ⟨d19, s19, bl19⟩ := T.h d17 s17 bl18
  clear T
  exact tail_nil (⟨_, by omega, q + 1, rfl, by omega, Oord_19, Onum_19, d19, s19, bl19, y0, y2, y3, y4, y18, y19, (y20.trans (by first | rfl | (congr 1; rw [i64_id (by omega) (by omega)]; omega) | (simp; done)))⟩)
 have c21 := Bq21.symm.trans hq
 clear hq
 have c21 := of_decide_eq_false c21
 have hke1 : q = h.length := by omega
 refine wp_exit (wp_seq ?_)
 refine rS [.slice none 0 0] (fun _ => .plain) 1 0 s11 ?_ ?_
 ·refine .c ?_ (.nil)
  ·exact pq fun a w' H => ra (rfl : a.eval (.const (.slice none 0 0)) = .slice none 0 0)
 intro A w21 T
 have ⟨y0, y2, y3, y4, y18, y19, y20, y21⟩ := T.r8 y0 y2 y3 y4 y18 y19 y20 y21
 have Ford_21 := T.f Ford_11
 have Oord_21 := T.g Oord_11
 have Onum_21 := T.g Onum_11
 have y7 := T.u 0 7
 have ⟨d21, s21, bl21⟩ := T.h d11 s11 bl11
 clear T
 refine tail_nil (wp_seq (wp_seq ?_))
 refine rP [v_3, .int .i64 ((h.length : Nat) : Int), .int .i64 0] 3 0 s21 (.c (qq 3 y3) (.c (pv fun a w' H => vr (v := .int .i64 ((h.length : Nat) : Int)) rfl (run_len_sl rfl Tryd.underlying55 (H.d 0 30) (Reads.below Ford_21 H.below))) (.c (pq fun a w' H => rv (rfl : a.eval (.const (.int .i64 0)) = .int .i64 0)) .nil))) fun A w22 T => ?_
 have ⟨y0, y2, y3, y4, y7, y18, y19, y20, y21⟩ := T.r9 y0 y2 y3 y4 y7 y18 y19 y20 y21
 have Oord_22 := T.g Oord_21
 have Onum_22 := T.g Onum_21
 have y30 := T.u 0 30
 have y31 := T.u 1 31
 have y32 := T.u 2 32
 have ⟨d22, s22, bl22⟩ := T.h d21 s21 bl21
 clear T
 refine tail_nil (wp_block ?_)
 refine loopN (fun n a w' => ∃ (k : Nat) (o : Value) (hs : List Dc.NV), h.length - k = n ∧ (k ≤ h.length) ∧ (w'.ownsRow w.heap.size 3 1 v_3 h.length (Dc.ints (Dc.idn h.length))) ∧ (w'.ownsRow w.heap.size 3 1 v_7 h.length (Dc.ints (Dc.idn h.length))) ∧ (List.map (·.1) hs = List.map (·.1) (List.take k h)) ∧ (w'.ownsRow w.heap.size 57 4 o (List.length hs) (Dc.cells hs)) ∧ (Dc.KsO w.heap.size w' hs) ∧ a.defers = [] ∧ a.tmps.size = 67 ∧ Below w.heap.size w w' ∧ a.eval (.tmp 0) = gv ∧ a.eval (.tmp 2) = .slice none 0 0 ∧ a.eval (.tmp 3) = v_3 ∧ a.eval (.tmp 4) = v_7 ∧ a.eval (.tmp 7) = o ∧ a.eval (.tmp 18) = v_3 ∧ a.eval (.tmp 19) = .int .i64 ((h.length : Nat) : Int) ∧ a.eval (.tmp 20) = .int .i64 (q : Nat) ∧ a.eval (.tmp 21) = .bool q21 ∧ a.eval (.tmp 30) = v_3 ∧ a.eval (.tmp 31) = .int .i64 ((h.length : Nat) : Int) ∧ a.eval (.tmp 32) = .int .i64 (k : Nat)) (n0 := h.length - 0) ?_ ?_
 ·exact ⟨0, .slice none 0 0, [], rfl, Nat.zero_le _, Oord_22, (by have h_ := Onum_22; rw [hke1, Dc.numL_end] at h_; exact h_), rfl, World.ownsRow_nil _ _ _ _, Dc.KsO.nil, d22, s22, bl22, y0, y2, y3, y4, (y7.trans (by first | rfl | (congr 1; rw [i64_id (by omega) (by omega)]; omega) | (simp; done))), y18, y19, y20, y21, y30, y31, (y32.trans (by first | rfl | (congr 1; rw [i64_id (by omega) (by omega)]; omega) | (simp; done)))⟩
 rintro n A w23 ⟨k, o, hs, rfl, hc0_23, hc1_23, hc2_23, hc3_23, hc4_23, hc5_23, d23, s23, bl23, y0, y2, y3, y4, y7, y18, y19, y20, y21, y30, y31, y32⟩
 have Fgr_23 := Reads.below hF bl23
 have hk1 := hc0_23
 have hmap := hc3_23
 have hsl := Dc.map_len hk1 hmap
 have Ford_23 := Reads.of_own hc1_23
 have Fout_23 := Reads.of_own hc4_23
 refine wp_seq ?_
 obtain ⟨q33, Bq33⟩ := nm (decide ((k : Nat) < ((h.length : Nat) : Int)))
 refine rS [.bool q33] (fun _ => .plain) 1 0 s23 ?_ ?_
 ·refine .c ?_ (.nil)
  ·exact pv fun a w' H => vr (bb Bq33) (o2 (H.q 32 y32) (H.q 31 y31))
 intro A w24 T
 have ⟨y0, y2, y3, y4, y7, y18, y19, y20, y21, y30⟩ := T.r10 y0 y2 y3 y4 y7 y18 y19 y20 y21 y30
 have ⟨y31, y32⟩ := T.r2 y31 y32
 have Fgr_24 := T.f Fgr_23
 have Ford_24 := T.f Ford_23
 have Oord_24 := T.g hc1_23
 have Onum_24 := T.g hc2_23
 have Fout_24 := T.f Fout_23
 have Oout_24 := T.g hc4_23
 have y33 := T.u 0 33
 have ⟨d24, s24, bl24⟩ := T.h d23 s23 bl23
 have XK_24 := Dc.KsO.below hc5_23 T.below
 clear T
 refine tail_nil (wp_seq ?_)
 refine wp_cond_split y33 (fun hq => ?_) (fun hq => ?_)
 ·
  have c33 := Bq33.symm.trans hq
  clear hq
  have c33 := of_decide_eq_true c33
  have hk0 : k < h.length := by omega
  have Fk0 := hK.at_ hk0
  have hcell := Dc.cells_at h k hk0
  have hokk := (hok _ (Dc.nd_mem hk0)).kin
  have hks := (hok _ (Dc.nd_mem hk0)).sm
  rw [List.length_map] at hokk
  obtain ⟨nk, Hnk⟩ : ∃ n, n = (h.getD k default).1 := ⟨_, rfl⟩
  obtain ⟨kv, hkv⟩ : ∃ v, v = (h.getD k default).2 := ⟨_, rfl⟩
  rw [← Hnk, ← hkv] at hcell Fk0
  rw [← Hnk] at hokk hks
  clear hkv
  have Fkj26 := Reads.below Fk0 bl24
  refine wp_skip (wp_seq ?_)
  refine wp_block (wp_seq ?_)
  refine rP [elemPtr v_3 (k * 1), .int .i64 (k : Int), .int .i64 (k : Int)] 3 0 s24 (.c (pv fun a w' H => vr (v := elemPtr v_3 (k * 1)) rfl (run_index_sl rfl Tryd.underlying55 (by kernel_rfl) (H.q 30 y30) ((H.q 32 y32).trans (congrArg (Value.int _) (show (k : Nat) = ((k : Nat) : Int) from by omega))) (Reads.below Ford_24 H.below) (by omega) rfl)) (.c (pv fun a w' H => vr (v := .int .i64 (k : Int)) rfl (run_load_el (.int .i64 (k : Int)) rfl (H.d 0 34) (Reads.below Ford_24 H.below) ((by have h_ := Dc.ints_get1 (Dc.idn h.length) k (by rw [Dc.idn_len]; omega); rw [Dc.idn_at (by omega)] at h_; exact h_)) (by kernel_rfl))) (.c (qe 1 35) .nil))) fun A w27 T => ?_
  have ⟨y0, y2, y3, y4, y7, y18, y19, y20, y21, y30⟩ := T.r10 y0 y2 y3 y4 y7 y18 y19 y20 y21 y30
  have ⟨y31, y32, y33⟩ := T.r3 y31 y32 y33
  have Fgr_27 := T.f Fgr_24
  have Oord_27 := T.g Oord_24
  have Onum_27 := T.g Onum_24
  have Oout_27 := T.g Oout_24
  have Fkj_27 := T.f Fkj26
  have y9 := T.u 2 9
  have ⟨d27, s27, bl27⟩ := T.h d24 s24 bl24
  have XK_27 := Dc.KsO.below XK_24 T.below
  clear T
  refine tail_nil (wp_seq ?_)
  refine regionT (n := 6) rfl (tail_val rfl rfl rfl (rv y0) s27 rfl fun A d28 s28 y36 hr => ?_)
  have ⟨y0, y2, y3, y4, y7, y9, y18, y19, y20, y21⟩ := k10 hr y0 y2 y3 y4 y7 y9 y18 y19 y20 y21
  have ⟨y30, y31, y32, y33⟩ := k4 hr y30 y31 y32 y33
  have d28 := d28.trans d27
  refine tail_val rfl rfl rfl (rv y9) s28 rfl fun A d29 s29 y37 hr => ?_
  have ⟨y0, y2, y3, y4, y7, y9, y18, y19, y20, y21⟩ := k10 hr y0 y2 y3 y4 y7 y9 y18 y19 y20 y21
  have ⟨y30, y31, y32, y33, y36⟩ := k5 hr y30 y31 y32 y33 y36
  have d29 := d29.trans d28
  refine tail_val (w1 := w27) (v := elemPtr gv (k * 4)) rfl rfl rfl ?_ s29 rfl ?_
  ·exact run_index_sl rfl Tryd.underlying48 (by kernel_rfl) y36 (y37.trans (congrArg (Value.int _) (show (k : Int) = ((k : Nat) : Int) from by omega))) Fgr_27 (by omega) rfl
  intro A d30 s30 y38 hr
  have ⟨y0, y2, y3, y4, y7, y9, y18, y19, y20, y21⟩ := k10 hr y0 y2 y3 y4 y7 y9 y18 y19 y20 y21
  have ⟨y30, y31, y32, y33⟩ := k4 hr y30 y31 y32 y33
  have d30 := d30.trans d29
  refine tail_val (w1 := w27) (v := .agg #[.int .i64 nk.kind, .string nk.tag, .string nk.text, kv]) rfl rfl rfl ?_ s30 rfl ?_
  ·exact run_load_els [.int .i64 nk.kind, .string nk.tag, .string nk.text, kv] rfl y38 Fgr_27 (hcell) rfl Tryd.underlying57 rfl (by kernel_rfl)
  intro A d31 s31 y39 hr
  have ⟨y0, y2, y3, y4, y7, y9, y18, y19, y20, y21⟩ := k10 hr y0 y2 y3 y4 y7 y9 y18 y19 y20 y21
  have ⟨y30, y31, y32, y33⟩ := k4 hr y30 y31 y32 y33
  have d31 := d31.trans d30
  refine tail_ex rfl rfl rfl (alloc_ex (cs := #[.int .i64 0, .string ⟨#[]⟩, .string ⟨#[]⟩, .slice none 0 0]) rfl (by kernel_rfl)) s31 rfl fun v_32 w32 A R d32 s32 y10 hr => ?_
  obtain ⟨g10_32, ev_32, rg_32, lg10_32, kg10_32, b_32⟩ := R
  have ⟨y0, y2, y3, y4, y7, y9, y18, y19, y20, y21⟩ := k10 hr y0 y2 y3 y4 y7 y9 y18 y19 y20 y21
  have ⟨y30, y31, y32, y33, y39⟩ := k5 hr y30 y31 y32 y33 y39
  have d32 := d32.trans d31
  have og10_32 : w.heap.size ≤ g10_32 := Nat.le_trans bl27.size rg_32
  have Oord_32 := own_below Oord_27 b_32
  have Onum_32 := own_below Onum_27 b_32
  have Oout_32 := own_below Oout_27 b_32
  have Fkj_32 := Reads.below Fkj_27 b_32
  have XK_32 := Dc.KsO.below XK_27 b_32
  have bl32 := bl27.trans (b_32.mono bl27.size)
  rw [ev_32] at y10
  have ap_ord_32 := own_new Oord_27 rg_32
  have ap_num_32 := own_new Onum_27 rg_32
  have ap_out_32 := own_new Oout_27 rg_32
  refine tail_put [.int .i64 nk.kind, .string nk.tag, .string nk.text, kv] (n := 0) (new := #[.int .i64 nk.kind, .string nk.tag, .string nk.text, kv]) rfl rfl rfl kg10_32 rfl ?_ fun w33 S => ?_
  ·have e0 : A.eval (.tmp 10) = .pointer (some ⟨g10_32, 0, none⟩) := y10
   have e1 : A.eval (.tmp 39) = .agg #[.int .i64 nk.kind, .string nk.tag, .string nk.text, kv] := y39
   obtain ⟨A3_, c3_, ev3_⟩ := Reads.shape Fkj_32
   subst ev3_
   have z0 := (Eng.cells kg10_32 (0)).trans (rfl)
   have f0 := unfrozen kg10_32 (0)
   have z1 := (Eng.cells kg10_32 (1)).trans (rfl)
   have f1 := unfrozen kg10_32 (1)
   have z2 := (Eng.cells kg10_32 (2)).trans (rfl)
   have f2 := unfrozen kg10_32 (2)
   have z3 := (Eng.cells kg10_32 (3)).trans (rfl)
   have f3 := unfrozen kg10_32 (3)
   simp only [execOp]
   rw [e0, e1]
   go_simp
   try rfl
  have kg10_32_33 := S.new
  have lg10_32_33 := Nat.lt_of_lt_of_eq lg10_32 S.size.symm
  have bl33 := S.below bl32 og10_32
  have Oord_33 := own_sets_ap Oord_32 S ap_ord_32
  have Onum_33 := own_sets_ap Onum_32 S ap_num_32
  have Oout_33 := own_sets_ap Oout_32 S ap_out_32
  have Fkj_33 := Reads.below Fk0 bl33
  have XK_33 := Dc.KsO.sets XK_32 S kg10_32 rfl
  clear S
  refine tail_nil (wp_seq ?_)
  refine (wpIn_wide (n := 1)).1 (EngI.regionT (n := 5) rfl ?_)
  refine EngI.tw (w1 := w33) (v := .pointer (some ⟨g10_32, 3, none⟩)) rfl ?_ s32 d32 ?_
  ·exact fb Tryd.underlying57 3 y10
  intro A d34 s34 y40 hr
  have ⟨y0, y2, y3, y4, y7, y9, y10, y18, y19, y20⟩ := k10 hr y0 y2 y3 y4 y7 y9 y10 y18 y19 y20
  have ⟨y21, y30, y31, y32, y33⟩ := k5 hr y21 y30 y31 y32 y33
  refine EngI.tw (w1 := w33) (v := kv) rfl ?_ s34 d34 ?_
  ·exact lb y40 (((Below.refl _ _).block _ lg10_32_33).trans kg10_32_33)
  intro A d35 s35 y41 hr
  have ⟨y0, y2, y3, y4, y7, y9, y10, y18, y19, y20⟩ := k10 hr y0 y2 y3 y4 y7 y9 y10 y18 y19 y20
  have ⟨y21, y30, y31, y32, y33⟩ := k5 hr y21 y30 y31 y32 y33
  refine EngI.tail_call EngI.free_wide Tryd.func42 (by kernel_rfl) (by kernel_rfl) rfl rfl rfl rfl #[kv] (m1 y41) s35 rfl (R := fun v w' => w'.ownsRow w33.heap.size 3 1 v nk.kids.length (Dc.ints nk.kids) ∧ Below w33.heap.size w33 w') ((Dc.clone_calls kv nk.kids _ Fkj_33 (by omega)).mono ?_) fun v_36 w36 A R d36 s36 y42 hr => ?_
  ·rintro e w1 ⟨o, rfl, r⟩; exact ⟨_, rfl, r⟩
  have ⟨y0, y2, y3, y4, y7, y9, y10, y18, y19, y20⟩ := k10 hr y0 y2 y3 y4 y7 y9 y10 y18 y19 y20
  have ⟨y21, y30, y31, y32, y33⟩ := k5 hr y21 y30 y31 y32 y33
  have d36 := d36.trans d35
  obtain ⟨O_36, b_36⟩ := R
  have aco := Dc.apart_age Oord_33 O_36 (Nat.le_refl _)
  have acn := Dc.apart_age Onum_33 O_36 (Nat.le_refl _)
  have ack := Dc.KsO.apart XK_33 O_36 (Nat.le_refl _)
  have kg10_32_36 := (b_36.block _ lg10_32_33).trans kg10_32_33
  have lg10_32_36 := Nat.lt_of_lt_of_le lg10_32_33 b_36.size
  have Oord_36 := own_below Oord_33 b_36
  have Onum_36 := own_below Onum_33 b_36
  have Oout_36 := own_below Oout_33 b_36
  have XK_36 := Dc.KsO.below XK_33 b_36
  have bl36 := bl33.trans (b_36.mono bl33.size)
  have Oc_36 := own_mono O_36 bl33.size
  have Fc_36 := Reads.of_own Oc_36
  refine EngI.tw (w1 := w36) (v := .pointer (some ⟨g10_32, 3, none⟩)) rfl ?_ s36 d36 ?_
  ·exact fb Tryd.underlying57 3 y10
  intro A d37 s37 y43 hr
  have ⟨y0, y2, y3, y4, y7, y9, y10, y18, y19, y20⟩ := k10 hr y0 y2 y3 y4 y7 y9 y10 y18 y19 y20
  have ⟨y21, y30, y31, y32, y33, y42⟩ := k6 hr y21 y30 y31 y32 y33 y42
  refine EngI.tail_set EngI.free_wide (n := 3) (v := v_36) (new := #[.int .i64 nk.kind, .string nk.tag, .string nk.text, v_36]) rfl rfl rfl rfl kg10_32_36 rfl ?_ fun w38 S => ?_
  ·have e0 : A.eval (.tmp 43) = .pointer (some ⟨g10_32, 3, none⟩) := y43
   have e1 : A.eval (.tmp 42) = v_36 := y42
   obtain ⟨A0_, c0_, ev0_⟩ := Reads.shape Fc_36
   subst ev0_
   have z0 := (Eng.cells kg10_32_36 (3)).trans (rfl)
   have f0 := unfrozen kg10_32_36 (3)
   simp only [execOp]
   rw [e0, e1]
   go_simp
  have kg10_32_38 := S.new
  have lg10_32_38 := Nat.lt_of_lt_of_eq lg10_32_36 S.size.symm
  have bl38 := S.below bl36 og10_32
  have Oord_38 := own_sets_ap Oord_36 S ap_ord_32
  have Onum_38 := own_sets_ap Onum_36 S ap_num_32
  have Oout_38 := own_sets_ap Oout_36 S ap_out_32
  have Ocl_38 := own_sets Oc_36 S kg10_32_36 rfl
  have Fcl_38 := Reads.of_own Ocl_38
  have XK_38 := Dc.KsO.sets XK_36 S kg10_32_36 rfl
  clear S
  refine EngI.tail_nil (wp_seq (wp_seq ?_))
  refine rP [.pointer (some ⟨g10_32, 3, none⟩), v_36, .int .i64 ((nk.kids.length : Nat) : Int), .int .i64 0] 4 0 s37 (.c (pq fun a w' H => fb Tryd.underlying57 3 (H.q 10 y10)) (.c (pq fun a w' H => lb (H.d 0 44) (H.x lg10_32_38 kg10_32_38)) (.c (pv fun a w' H => vr (v := .int .i64 ((nk.kids.length : Nat) : Int)) rfl (run_len_sl rfl Tryd.underlying55 (H.d 1 45) (Reads.below Fcl_38 H.below))) (.c (pq fun a w' H => rv (rfl : a.eval (.const (.int .i64 0)) = .int .i64 0)) .nil)))) fun A w39 T => ?_
  have ⟨y0, y2, y3, y4, y7, y9, y10, y18, y19, y20⟩ := T.r10 y0 y2 y3 y4 y7 y9 y10 y18 y19 y20
  have ⟨y21, y30, y31, y32, y33⟩ := T.r5 y21 y30 y31 y32 y33
  have ⟨kg10_32_39, lg10_32_39⟩ := T.y kg10_32_38 lg10_32_38
  have Oord_39 := T.g Oord_38
  have Onum_39 := T.g Onum_38
  have Oout_39 := T.g Oout_38
  have Ocl_39 := T.g Ocl_38
  have y45 := T.u 1 45
  have y46 := T.u 2 46
  have y47 := T.u 3 47
  have ⟨d39, s39, bl39⟩ := T.h d37 s37 bl38
  have XK_39 := Dc.KsO.below XK_38 T.below
  clear T
  refine tail_nil (wp_block ?_)
  refine loopN (fun n a w' => ∃ (m : Nat), nk.kids.length - m = n ∧ (m ≤ nk.kids.length) ∧ (w'.ownsRow w.heap.size 3 1 v_3 h.length (Dc.ints (Dc.idn h.length))) ∧ (w'.ownsRow w.heap.size 3 1 v_7 h.length (Dc.ints (Dc.idn h.length))) ∧ (w'.ownsRow w.heap.size 57 4 o (List.length hs) (Dc.cells hs)) ∧ (w'.ownsRow w.heap.size 3 1 v_36 nk.kids.length (Dc.ints nk.kids)) ∧ (Dc.KsO w.heap.size w' hs) ∧ a.defers = [] ∧ a.tmps.size = 67 ∧ Below w.heap.size w w' ∧ a.eval (.tmp 0) = gv ∧ a.eval (.tmp 2) = .slice none 0 0 ∧ a.eval (.tmp 3) = v_3 ∧ a.eval (.tmp 4) = v_7 ∧ a.eval (.tmp 7) = o ∧ a.eval (.tmp 9) = .int .i64 (k : Int) ∧ a.eval (.tmp 10) = .pointer (some ⟨g10_32, 0, none⟩) ∧ a.eval (.tmp 18) = v_3 ∧ a.eval (.tmp 19) = .int .i64 ((h.length : Nat) : Int) ∧ a.eval (.tmp 20) = .int .i64 (q : Nat) ∧ a.eval (.tmp 21) = .bool q21 ∧ a.eval (.tmp 30) = v_3 ∧ a.eval (.tmp 31) = .int .i64 ((h.length : Nat) : Int) ∧ a.eval (.tmp 32) = .int .i64 (k : Nat) ∧ a.eval (.tmp 33) = .bool q33 ∧ a.eval (.tmp 45) = v_36 ∧ a.eval (.tmp 46) = .int .i64 ((nk.kids.length : Nat) : Int) ∧ a.eval (.tmp 47) = .int .i64 (m : Nat) ∧ w'.heap[g10_32]? = some (.cells (#[.int .i64 nk.kind, .string nk.tag, .string nk.text, v_36]) 57 (0, 0)) ∧ g10_32 < w'.heap.size) (n0 := nk.kids.length - 0) ?_ ?_
  ·exact ⟨0, rfl, Nat.zero_le _, Oord_39, Onum_39, Oout_39, Ocl_39, XK_39, d39, s39, bl39, y0, y2, y3, y4, y7, y9, y10, y18, y19, y20, y21, y30, y31, y32, y33, y45, y46, (y47.trans (by first | rfl | (congr 1; rw [i64_id (by omega) (by omega)]; omega) | (simp; done))), kg10_32_39, lg10_32_39⟩
  rintro n A w40 ⟨m, rfl, hc0_40, hc1_40, hc2_40, hc3_40, hc4_40, hc5_40, d40, s40, bl40, y0, y2, y3, y4, y7, y9, y10, y18, y19, y20, y21, y30, y31, y32, y33, y45, y46, y47, kg10_32_40, lg10_32_40⟩
  have hm1 := hc0_40
  have Fnum_40 := Reads.of_own hc2_40
  have Fcl_40 := Reads.of_own hc4_40
  refine wp_seq ?_
  obtain ⟨q48, Bq48⟩ := nm (decide ((m : Nat) < ((nk.kids.length : Nat) : Int)))
  refine rS [.bool q48] (fun _ => .plain) 1 0 s40 ?_ ?_
  ·refine .c ?_ (.nil)
   ·exact pv fun a w' H => vr (bb Bq48) (o2 (H.q 47 y47) (H.q 46 y46))
  intro A w41 T
  have ⟨y0, y2, y3, y4, y7, y9, y10, y18, y19, y20⟩ := T.r10 y0 y2 y3 y4 y7 y9 y10 y18 y19 y20
  have ⟨y21, y30, y31, y32, y33, y45, y46, y47⟩ := T.r8 y21 y30 y31 y32 y33 y45 y46 y47
  have ⟨kg10_32_41, lg10_32_41⟩ := T.y kg10_32_40 lg10_32_40
  have Oord_41 := T.g hc1_40
  have Fnum_41 := T.f Fnum_40
  have Onum_41 := T.g hc2_40
  have Oout_41 := T.g hc3_40
  have Fcl_41 := T.f Fcl_40
  have Ocl_41 := T.g hc4_40
  have y48 := T.u 0 48
  have ⟨d41, s41, bl41⟩ := T.h d40 s40 bl40
  have XK_41 := Dc.KsO.below hc5_40 T.below
  clear T
  refine tail_nil (wp_seq ?_)
  refine wp_cond_split y48 (fun hq => ?_) (fun hq => ?_)
  ·
   have c48 := Bq48.symm.trans hq
   clear hq
   have c48 := of_decide_eq_true c48
   have hm0 : m < nk.kids.length := by omega
   have hkm := hokk _ (Dc.getD_mem hm0)
   refine wp_skip (wp_seq ?_)
   refine wp_block (wp_seq ?_)
   refine rP [.int .i64 (m : Nat), elemPtr v_36 (m * 1), .int .i64 (nk.kids.getD m 0), .int .i64 (m : Nat), .int .i64 (nk.kids.getD m 0)] 5 0 s41 (.c (qq 47 y47) (.c (pv fun a w' H => vr (v := elemPtr v_36 (m * 1)) rfl (run_index_sl rfl Tryd.underlying55 (by kernel_rfl) (H.q 45 y45) ((H.q 47 y47).trans (congrArg (Value.int _) (show (m : Nat) = ((m : Nat) : Int) from by omega))) (Reads.below Fcl_41 H.below) (by omega) rfl)) (.c (pv fun a w' H => vr (v := .int .i64 (nk.kids.getD m 0)) rfl (run_load_el (.int .i64 (nk.kids.getD m 0)) rfl (H.d 1 50) (Reads.below Fcl_41 H.below) (Dc.ints_get1 nk.kids m (by omega)) (by kernel_rfl))) (.c (qe 0 49) (.c (qe 2 51) .nil))))) fun A w43 T => ?_
   have ⟨y0, y2, y3, y4, y7, y9, y10, y18, y19, y20⟩ := T.r10 y0 y2 y3 y4 y7 y9 y10 y18 y19 y20
   have ⟨y21, y30, y31, y32, y33, y45, y46, y47⟩ := T.r8 y21 y30 y31 y32 y33 y45 y46 y47
   have ⟨kg10_32_43, lg10_32_43⟩ := T.y kg10_32_41 lg10_32_41
   have Oord_43 := T.g Oord_41
   have Fnum_43 := T.f Fnum_41
   have Onum_43 := T.g Onum_41
   have Oout_43 := T.g Oout_41
   have Fcl_43 := T.f Fcl_41
   have Ocl_43 := T.g Ocl_41
   have y11 := T.u 3 11
   have y12 := T.u 4 12
   have ⟨d43, s43, bl43⟩ := T.h d41 s41 bl41
   have XK_43 := Dc.KsO.below XK_41 T.below
   clear T
   refine tail_nil ((wpIn_wide (n := 1)).1 ?_)
   refine EngI.regionD EngI.free_wide (still [fun u_ => u_ = .pointer (some ⟨g10_32, 3, none⟩), fun u_ => u_ = v_36, fun u_ => u_ = .int .i64 (m : Nat), fun u_ => u_ = v_7, fun u_ => u_ = .int .i64 (nk.kids.getD m 0), fun u_ => u_ = elemPtr v_7 (((nk.kids.getD m 0).toNat) * 1), fun u_ => u_ = .int .i64 (nk.kids.getD m 0), fun u_ => u_ = elemPtr v_36 (m * 1)]) (fun _ => .plain) 8 1 67 (by kernel_rfl) s43 rfl (by kernel_rfl) (still_stable _) (Or.inr (still_any _)) (by kernel_rfl) ?_ ?_
   ·refine .c ?_ (.c ?_ (.c ?_ (.c ?_ (.c ?_ (.c ?_ (.c ?_ (.c ?_ (.cons (fun h => absurd h (by decide)) (.nil)))))))))
    ·exact pq fun a w' H => fb Tryd.underlying57 3 (H.q 10 y10)
    ·exact pq fun a w' H => lb (H.d 0 52) (H.x lg10_32_43 kg10_32_43)
    ·exact qq 11 y11
    ·exact qq 4 y4
    ·exact qq 12 y12
    ·exact pv fun a w' H => vr (v := elemPtr v_7 (((nk.kids.getD m 0).toNat) * 1)) rfl (run_index_sl rfl Tryd.underlying55 (by kernel_rfl) (H.d 3 55) ((H.d 4 56).trans (congrArg (Value.int _) (show nk.kids.getD m 0 = (((nk.kids.getD m 0).toNat : Nat) : Int) from by omega))) (Reads.below Fnum_43 H.below) (by omega) rfl)
    ·exact pv fun a w' H => vr (v := .int .i64 (nk.kids.getD m 0)) rfl (run_load_el (.int .i64 (nk.kids.getD m 0)) rfl (H.d 5 57) (Reads.below Fnum_43 H.below) ((by have h_ := Dc.ints_get1 (Dc.idn h.length) (nk.kids.getD m 0).toNat (by rw [Dc.idn_len]; exact hkm.2); rw [Dc.idn_at hkm.2, Int.toNat_of_nonneg hkm.1] at h_; exact h_)) (by kernel_rfl))
    exact pv fun a w' H => vr (v := elemPtr v_36 (m * 1)) rfl (run_index_sl rfl Tryd.underlying55 (by kernel_rfl) (H.d 1 53) ((H.d 2 54).trans (congrArg (Value.int _) (show (m : Nat) = ((m : Nat) : Int) from by omega))) (Reads.below Fcl_43 H.below) (by omega) rfl)
   intro A w44 T
   have ⟨y0, y2, y3, y4, y7, y9, y10, y18, y19, y20⟩ := T.r10 y0 y2 y3 y4 y7 y9 y10 y18 y19 y20
   have ⟨y21, y30, y31, y32, y33, y45, y46, y47⟩ := T.r8 y21 y30 y31 y32 y33 y45 y46 y47
   have ⟨kg10_32_44, lg10_32_44⟩ := T.y kg10_32_43 lg10_32_43
   have Oord_44 := T.g Oord_43
   have Onum_44 := T.g Onum_43
   have Oout_44 := T.g Oout_43
   have Ocl_44 := T.g Ocl_43
   have y58 : A.eval (.tmp 58) = .int .i64 (nk.kids.getD m 0) := T.done 6 58 rfl rfl
   have y59 : A.eval (.tmp 59) = elemPtr v_36 (m * 1) := T.done 7 59 rfl rfl
   have ⟨d44, s44, bl44⟩ := T.h d43 s43 bl43
   have XK_44 := Dc.KsO.below XK_43 T.below
   clear T
   refine EngG.tail_exs EngI.free_wide rfl rfl rfl rfl (run_store_own (j := m * 1) (u := .int .i64 (nk.kids.getD m 0)) rfl y59 y58 Ocl_44 (by have h_ : m < nk.kids.length := (by omega); omega) (by kernel_rfl) (by rfl)) fun w45 R => ?_
   obtain ⟨O_45, G_45⟩ := R
   have kg10_32_45 := (G_45.block _ lg10_32_44 (own_ne Ocl_44 kg10_32_44 rfl)).trans kg10_32_44
   have lg10_32_45 := Nat.lt_of_lt_of_le lg10_32_44 G_45.size
   have XK_45 := Dc.KsO.ap XK_44 G_45 ack
   have bl45 := bl44.grown G_45 bl44.size (fun j hj => (ownB Ocl_44 hj.symm).1)
   have Oord_45 := Dc.kept_ap Oord_44 G_45 aco
   have Onum_45 := Dc.kept_ap Onum_44 G_45 acn
   have Oout_45 := own_grown Oout_44 G_45 Ocl_44 rfl
   have Oc_45 := Dc.own_same hm0 O_45
   refine EngI.tail_nil (rP [.int .i64 (IntKind.i64.wrap ((m : Nat) + 1)), .int .i64 (IntKind.i64.wrap ((m : Nat) + 1))] 2 0 s44 (.c (pv fun a w' H => vr (v := .int .i64 (IntKind.i64.wrap ((m : Nat) + 1))) rfl (ok (.int .i64 1) (H.q 47 y47))) (.c (qd 0 60) .nil)) fun A w46 T => ?_)
   have ⟨y0, y2, y3, y4, y7, y9, y10, y18, y19, y20⟩ := T.r10 y0 y2 y3 y4 y7 y9 y10 y18 y19 y20
   have ⟨y21, y30, y31, y32, y33, y45, y46⟩ := T.r7 y21 y30 y31 y32 y33 y45 y46
   have ⟨kg10_32_46, lg10_32_46⟩ := T.y kg10_32_45 lg10_32_45
   have Oord_46 := T.g Oord_45
   have Onum_46 := T.g Onum_45
   have Oout_46 := T.g Oout_45
   have Ocl_46 := T.g Oc_45
   have y47 := T.u 1 47
   have ⟨d46, s46, bl46⟩ := T.h d44 s44 bl45
   have XK_46 := Dc.KsO.below XK_45 T.below
   clear T
   exact tail_nil (⟨_, by omega, m + 1, rfl, by omega, Oord_46, Onum_46, Oout_46, Ocl_46, XK_46, d46, s46, bl46, y0, y2, y3, y4, y7, y9, y10, y18, y19, y20, y21, y30, y31, y32, y33, y45, y46, (y47.trans (by first | rfl | (congr 1; rw [i64_id (by omega) (by omega)]; omega) | (simp; done))), kg10_32_46, lg10_32_46⟩)
  have c48 := Bq48.symm.trans hq
  clear hq
  have c48 := of_decide_eq_false c48
  refine wp_exit (regionT (n := 5) rfl ?_)
  refine tail_val rfl rfl rfl (rv y7) s41 rfl fun A d48 s48 y61 hr => ?_
  have ⟨y0, y2, y3, y4, y10, y18, y19, y20, y21, y30⟩ := k10 hr y0 y2 y3 y4 y10 y18 y19 y20 y21 y30
  have ⟨y31, y32⟩ := k2 hr y31 y32
  have d48 := d48.trans d41
  refine tail_val rfl rfl rfl (run_load_all rfl y10 kg10_32_41 Tryd.underlying57 rfl (by kernel_rfl)) s48 rfl fun A d49 s49 y62 hr => ?_
  have ⟨y0, y2, y3, y4, y18, y19, y20, y21, y30, y31⟩ := k10 hr y0 y2 y3 y4 y18 y19 y20 y21 y30 y31
  have ⟨y32, y61⟩ := k2 hr y32 y61
  have d49 := d49.trans d48
  refine tail_ex rfl rfl rfl (run_build1I (size := 4) (z := .agg #[.int .i64 0, .string ⟨#[]⟩, .string ⟨#[]⟩, .slice none 0 0]) [.int .i64 nk.kind, .string nk.tag, .string nk.text, v_36] rfl Tryd.underlying48 (by kernel_rfl) rfl rfl rfl (by kernel_rfl) y62) s49 rfl fun v_50 w50 A R d50 s50 y63 hr => ?_
  obtain ⟨F_50, b_50⟩ := R
  have ⟨y0, y2, y3, y4, y18, y19, y20, y21, y30, y31⟩ := k10 hr y0 y2 y3 y4 y18 y19 y20 y21 y30 y31
  have ⟨y32, y61⟩ := k2 hr y32 y61
  have d50 := d50.trans d49
  have Oord_50 := own_below Oord_41 b_50
  have Onum_50 := own_below Onum_41 b_50
  have Oout_50 := own_below Oout_41 b_50
  have Fcl_50 := Reads.below Fcl_41 b_50
  have Ocl_50 := own_below Ocl_41 b_50
  have XK_50 := Dc.KsO.below XK_41 b_50
  have bl50 := bl41.trans (b_50.mono bl41.size)
  refine tail_ex rfl rfl rfl (run_appendI (z := .agg #[.int .i64 0, .string ⟨#[]⟩, .string ⟨#[]⟩, .slice none 0 0]) rfl Tryd.underlying48 (by kernel_rfl) rfl rfl y61 Oout_50 y63 F_50 (by intro u hu; simp only [List.mem_cons, List.not_mem_nil, or_false] at hu; obtain ⟨A_, c_, e_⟩ := Reads.shape Fcl_50; rcases hu with rfl | rfl | rfl | rfl <;> first | rfl | (rw [e_]; rfl)) (by omega) bl50.size) s50 rfl fun v_51 w51 A R d51 s51 y64 hr => ?_
  obtain ⟨O_51, _, b_51, G_51, EO_51⟩ := R
  have ⟨y0, y2, y3, y4, y18, y19, y20, y21, y30, y31⟩ := k10 hr y0 y2 y3 y4 y18 y19 y20 y21 y30 y31
  have y32 := k1 hr y32
  have d51 := d51.trans d50
  have XK_51 := Dc.KsO.grown XK_50 G_51 Oout_50 rfl
  have bl51 := bl50.trans b_51
  have Oord_51 := own_grown Oord_50 G_51 Oout_50 rfl
  have Onum_51 := own_grown Onum_50 G_51 Oout_50 rfl
  have Ocl_51 := own_grown Ocl_50 G_51 Oout_50 rfl
  have Oa51 : w51.ownsRow w.heap.size 57 4 v_51 (hs ++ [(nk, v_36)]).length (Dc.cells (hs ++ [(nk, v_36)])) := Dc.own_snocM O_51
  have Fa51 := Reads.of_own Oa51
  refine tail_val rfl rfl rfl (ra y64) s51 rfl fun A d52 s52 y7 hr => ?_
  have ⟨y0, y2, y3, y4, y18, y19, y20, y21, y30, y31⟩ := k10 hr y0 y2 y3 y4 y18 y19 y20 y21 y30 y31
  have y32 := k1 hr y32
  have d52 := d52.trans d51
  refine tail_nil (rP [.int .i64 (IntKind.i64.wrap ((k : Nat) + 1)), .int .i64 (IntKind.i64.wrap ((k : Nat) + 1))] 2 0 s52 (.c (pv fun a w' H => vr (v := .int .i64 (IntKind.i64.wrap ((k : Nat) + 1))) rfl (ok (.int .i64 1) (H.q 32 y32))) (.c (qd 0 65) .nil)) fun A w53 T => ?_)
  have ⟨y0, y2, y3, y4, y7, y18, y19, y20, y21, y30⟩ := T.r10 y0 y2 y3 y4 y7 y18 y19 y20 y21 y30
  have y31 := T.r1 y31
  have Oord_53 := T.g Oord_51
  have Onum_53 := T.g Onum_51
  have Ocl_53 := T.g Ocl_51
  have Oa51_53 := T.g Oa51
  have y32 := T.u 1 32
  have ⟨d53, s53, bl53⟩ := T.h d52 s52 bl51
  have XK_53 := Dc.KsO.below XK_51 T.below
  clear T
  exact tail_nil (⟨_, by omega, k + 1, v_51, (hs ++ [(nk, v_36)]), rfl, by omega, Oord_53, Onum_53, Dc.map_snoc hk0 hmap Hnk, Oa51_53, Dc.KsO.snoc XK_53 Ocl_53, d53, s53, bl53, y0, y2, y3, y4, (y7.trans (by first | rfl | (congr 1; rw [i64_id (by omega) (by omega)]; omega) | (simp; done))), y18, y19, y20, y21, y30, y31, (y32.trans (by first | rfl | (congr 1; rw [i64_id (by omega) (by omega)]; omega) | (simp; done)))⟩)
 have c33 := Bq33.symm.trans hq
 clear hq
 have c33 := of_decide_eq_false c33
 have hke : k = h.length := by omega
 refine wp_exit (wp_seq ?_)
 refine rP [o, o] 2 0 s24 (.c (qq 7 y7) (.c (qe 0 66) .nil)) fun A w55 T => ?_
 have Fout_55 := T.f Fout_24
 have y2 := T.u 1 2
 have d55 := T.e d24
 have bl55 := T.b bl24
 have XK_55 := Dc.KsO.below XK_24 T.below
 clear T
 refine tail_nil (wp_ret ?_)
 repeat (first | with_reducible refine in_ret ?_ | with_reducible refine then_ret ?_)
 rw [hke, List.take_length] at hmap
 exact ret1 rfl d55 y2 ⟨_, rfl, ⟨hs, hmap, Fout_55, XK_55.reads⟩, bl55⟩
end Go.Proofs.YtgnmjaacnmkgnaaDoor.X
end
section
namespace Go.Proofs.YtgnmjaacnmkgnaaDoor.X
open Go.RowKit Go.Shelf Go.Proofs Go.Proofs.YtgnmjaacnmkgnaaDoorW.PrintWords Go.Proofs.YtgnmjaacnmkgnaaDoorW.PrintLast Go.Proofs.YtgnmjaacnmkgnaaDoorW.PrintMore Go.Proofs.Eng
set_option linter.unusedVariables false
set_option linter.unusedSimpArgs false
attribute [local go_sem] max2_int min2_int max_two min_two
set_option maxHeartbeats 4000000 in
set_option maxRecDepth 100000 in
theorem Dc.ours8_h (gv : Value) (h : List Dc.NV) (w : World) (hF : Reads w gv h.length 4 (Dc.cells h)) (hK : Dc.KsR w h) (hsm : Dc.Sml 1000000 (h.map (·.1))) : Calls Tryd.prog 20 #[gv] w fun e w' => ∃ o, e = .returned o ∧ Dc.GO w.heap.size w' (h.map (·.1)) o ∧ Below w.heap.size w w' := by
 have hm := Reads.len_le hF
 refine enter Tryd.func20 rfl fun A d0 s0 v0 => ?_
 have s0 : A.tmps.size = 27 := s0
 have y0 : A.eval (.tmp 0) = gv := v0 0 (by simp)
 clear v0
 have bl0 : Below w.heap.size w w := Below.refl _ _
 refine wp_seq (rS [.slice none 0 0] (fun _ => .plain) 1 0 s0 ?_ ?_)
 ·refine .c ?_ (.nil)
  ·exact pq fun a w' H => ra (rfl : a.eval (.const (.slice none 0 0)) = .slice none 0 0)
 intro A w1 T
 have y0 := T.r1 y0
 have Fgr_ := T.f hF
 have y2 := T.u 0 2
 have ⟨d1, s1, bl1⟩ := T.h d0 s0 bl0
 clear T
 refine tail_nil (wp_seq ?_)
 refine rS [.slice none 0 0] (fun _ => .plain) 1 0 s1 ?_ ?_
 ·refine .c ?_ (.nil)
  ·exact pq fun a w' H => ra (rfl : a.eval (.const (.slice none 0 0)) = .slice none 0 0)
 intro A w2 T
 have ⟨y0, y2⟩ := T.r2 y0 y2
 have Fgr_ := T.f Fgr_
 have y3 := T.u 0 3
 have ⟨d2, s2, bl2⟩ := T.h d1 s1 bl1
 clear T
 refine tail_nil (wp_seq (wp_seq ?_))
 refine rP [gv, .int .i64 ((h.length : Nat) : Int), .int .i64 0] 3 0 s2 (.c (qq 0 y0) (.c (pv fun a w' H => vr (v := .int .i64 ((h.length : Nat) : Int)) rfl (run_len_sl rfl Tryd.underlying48 (H.d 0 6) (Reads.below Fgr_ H.below))) (.c (pq fun a w' H => rv (rfl : a.eval (.const (.int .i64 0)) = .int .i64 0)) .nil))) fun A w3 T => ?_
 have ⟨y0, y2, y3⟩ := T.r3 y0 y2 y3
 have y6 := T.u 0 6
 have y7 := T.u 1 7
 have y8 := T.u 2 8
 have ⟨d3, s3, bl3⟩ := T.h d2 s2 bl2
 clear T
 refine tail_nil (wp_block ?_)
 refine loopN (fun n a w' => ∃ (k : Nat) (o : Value) (hs : List Dc.NV), h.length - k = n ∧ (k ≤ h.length) ∧ (List.map (·.1) hs = List.map (·.1) (List.take k h)) ∧ (w'.ownsRow w.heap.size 81 4 o (List.length hs) (Dc.cells hs)) ∧ (Dc.KsO w.heap.size w' hs) ∧ a.defers = [] ∧ a.tmps.size = 27 ∧ Below w.heap.size w w' ∧ a.eval (.tmp 0) = gv ∧ a.eval (.tmp 2) = .slice none 0 0 ∧ a.eval (.tmp 3) = o ∧ a.eval (.tmp 6) = gv ∧ a.eval (.tmp 7) = .int .i64 ((h.length : Nat) : Int) ∧ a.eval (.tmp 8) = .int .i64 (k : Nat)) (n0 := h.length - 0) ?_ ?_
 ·exact ⟨0, .slice none 0 0, [], rfl, by omega, rfl, World.ownsRow_nil _ _ _ _, Dc.KsO.nil, d3, s3, bl3, y0, y2, (y3.trans (by first | rfl | (congr 1; rw [i64_id (by omega) (by omega)]; omega) | (simp; done))), y6, y7, (y8.trans (by first | rfl | (congr 1; rw [i64_id (by omega) (by omega)]; omega) | (simp; done)))⟩
 rintro n A w4 ⟨k, o, hs, rfl, hc0_4, hc1_4, hc2_4, hc3_4, d4, s4, bl4, y0, y2, y3, y6, y7, y8⟩
 have Fgr_ := Reads.below hF bl4
 have hk1 := hc0_4
 have hmap := hc1_4
 have hsl := Dc.map_len hk1 hmap
 refine wp_seq ?_
 obtain ⟨q9, Bq9⟩ := nm (decide ((k : Nat) < ((h.length : Nat) : Int)))
 refine rS [.bool q9] (fun _ => .plain) 1 0 s4 ?_ ?_
 ·refine .c ?_ (.nil)
  ·exact pv fun a w' H => vr (bb Bq9) (o2 (H.q 8 y8) (H.q 7 y7))
 intro A w5 T
 have ⟨y0, y2, y3, y6, y7, y8⟩ := T.r6 y0 y2 y3 y6 y7 y8
 have Fgr_ := T.f Fgr_
 have Oout_5 := T.g hc2_4
 have y9 := T.u 0 9
 have ⟨d5, s5, bl5⟩ := T.h d4 s4 bl4
 have XK_5 := Dc.KsO.below hc3_4 T.below
 clear T
 refine tail_nil (wp_seq ?_)
 refine wp_cond_split y9 (fun hq => ?_) (fun hq => ?_)
 ·
  have c9 := Bq9.symm.trans hq
  clear hq
  have c9 := of_decide_eq_true c9
  have hk0 : k < h.length := by omega
  have Fk0 := hK.at_ hk0
  have hcell := Dc.cells_at h k hk0
  have hkl := hsm.at_ hk0
  obtain ⟨nk, Hnk⟩ : ∃ n, n = (h.getD k default).1 := ⟨_, rfl⟩
  obtain ⟨kv, hkv⟩ : ∃ v, v = (h.getD k default).2 := ⟨_, rfl⟩
  rw [← Hnk, ← hkv] at hcell Fk0
  rw [← Hnk] at hkl
  clear hkv
  have Fkj7 := Reads.below Fk0 bl5
  refine wp_skip (wp_seq ?_)
  refine wp_block (wp_seq ?_)
  refine regionT (n := 4) rfl (tail_val (w1 := w5) (v := elemPtr gv (k * 4)) rfl rfl rfl ?_ s5 rfl ?_)
  ·exact run_index_sl rfl Tryd.underlying48 (by kernel_rfl) y6 (y8.trans (congrArg (Value.int _) (show (k : Nat) = ((k : Nat) : Int) from by omega))) Fgr_ (by omega) rfl
  intro A d8 s8 y10 hr
  have ⟨y0, y2, y3, y6, y7, y8⟩ := k6 hr y0 y2 y3 y6 y7 y8
  have d8 := d8.trans d5
  refine tail_val (w1 := w5) (v := .agg #[.int .i64 nk.kind, .string nk.tag, .string nk.text, kv]) rfl rfl rfl ?_ s8 rfl ?_
  ·exact run_load_els [.int .i64 nk.kind, .string nk.tag, .string nk.text, kv] rfl y10 Fgr_ (hcell) rfl Tryd.underlying57 rfl (by kernel_rfl)
  intro A d9 s9 y11 hr
  have ⟨y0, y2, y3, y6, y7, y8⟩ := k6 hr y0 y2 y3 y6 y7 y8
  have d9 := d9.trans d8
  refine tail_ex rfl rfl rfl (alloc_ex (cs := #[.int .i64 0, .string ⟨#[]⟩, .string ⟨#[]⟩, .slice none 0 0]) rfl (by kernel_rfl)) s9 rfl fun v_10 w10 A R d10 s10 y5 hr => ?_
  obtain ⟨g5_10, ev_10, rg_10, lg5_, kg5_, b_10⟩ := R
  have ⟨y0, y2, y3, y6, y7, y8, y11⟩ := k7 hr y0 y2 y3 y6 y7 y8 y11
  have d10 := d10.trans d9
  have og5_10 : w.heap.size ≤ g5_10 := Nat.le_trans bl5.size rg_10
  have Oout_10 := own_below Oout_5 b_10
  have Fkj_ := Reads.below Fkj7 b_10
  have XK_10 := Dc.KsO.below XK_5 b_10
  have bl10 := bl5.trans (b_10.mono bl5.size)
  rw [ev_10] at y5
  refine tail_put [.int .i64 nk.kind, .string nk.tag, .string nk.text, kv] (n := 0) (new := #[.int .i64 nk.kind, .string nk.tag, .string nk.text, kv]) rfl rfl rfl kg5_ rfl ?_ fun w11 S => ?_
  ·have e0 : A.eval (.tmp 5) = .pointer (some ⟨g5_10, 0, none⟩) := y5
   have e1 : A.eval (.tmp 11) = .agg #[.int .i64 nk.kind, .string nk.tag, .string nk.text, kv] := y11
   obtain ⟨A3_, c3_, ev3_⟩ := Reads.shape Fkj_
   subst ev3_
   have z0 := (Eng.cells kg5_ (0)).trans (rfl)
   have f0 := unfrozen kg5_ (0)
   have z1 := (Eng.cells kg5_ (1)).trans (rfl)
   have f1 := unfrozen kg5_ (1)
   have z2 := (Eng.cells kg5_ (2)).trans (rfl)
   have f2 := unfrozen kg5_ (2)
   have z3 := (Eng.cells kg5_ (3)).trans (rfl)
   have f3 := unfrozen kg5_ (3)
   simp only [execOp]
   rw [e0, e1]
   go_simp
   try rfl
  have kg5_10_ := S.new
  have lg5_10_ := Nat.lt_of_lt_of_eq lg5_ S.size.symm
  have bl11 := S.below bl10 og5_10
  have Oout_11 := own_sets Oout_10 S kg5_ rfl
  have Fkj_ := Reads.below Fk0 bl11
  have XK_11 := Dc.KsO.sets XK_10 S kg5_ rfl
  clear S
  refine tail_nil (regionD (tell [.still fun u_ => u_ = o, .still fun u_ => u_ = .pointer (some ⟨g5_10, 0, none⟩), .still fun u_ => u_ = .int .i64 nk.kind, .still fun u_ => u_ = .pointer (some ⟨g5_10, 1, none⟩), .still fun u_ => u_ = .string nk.tag, .still fun u_ => u_ = .pointer (some ⟨g5_10, 2, none⟩), .still fun u_ => u_ = .string nk.text, .still fun u_ => u_ = .pointer (some ⟨g5_10, 3, none⟩), .still fun u_ => u_ = kv, .own w11.heap.size 3 1 nk.kids.length (Dc.ints nk.kids), Dc.Tl.node w11.heap.size nk, Dc.Tl.rowNode w11.heap.size nk]) (fun i => ([.plain, .plain, .plain, .plain, .plain, .plain, .plain, .plain, .plain, .plain, .plain, .plain] : List Kind).getD i .plain) 12 2 27 (by kernel_rfl) s10 rfl (by kernel_rfl) (tell_stable _) (Or.inl (no_stores (by kernel_rfl))) ?_ ?_)
  ·refine .c ?_ (.c ?_ (.c ?_ (.c ?_ (.c ?_ (.c ?_ (.c ?_ (.c ?_ (.c ?_ (.c ?_ (.c ?_ (.c ?_ (.cons (fun h => absurd h (by decide)) (.cons (fun h => absurd h (by decide)) (.nil))))))))))))))
   ·exact pv fun a w' H => vr (v := o) rfl (rv (H.q 3 y3))
   ·exact pv fun a w' H => vr (v := .pointer (some ⟨g5_10, 0, none⟩)) rfl (fb Tryd.underlying57 0 (H.q 5 y5))
   ·exact pv fun a w' H => vr (v := .int .i64 nk.kind) rfl (lb (H.d 1 13) (H.x lg5_10_ kg5_10_))
   ·exact pv fun a w' H => vr (v := .pointer (some ⟨g5_10, 1, none⟩)) rfl (fb Tryd.underlying57 1 (H.q 5 y5))
   ·exact pv fun a w' H => vr (v := .string nk.tag) rfl (lb (H.d 3 15) (H.x lg5_10_ kg5_10_))
   ·exact pv fun a w' H => vr (v := .pointer (some ⟨g5_10, 2, none⟩)) rfl (fb Tryd.underlying57 2 (H.q 5 y5))
   ·exact pv fun a w' H => vr (v := .string nk.text) rfl (lb (H.d 5 17) (H.x lg5_10_ kg5_10_))
   ·exact pv fun a w' H => vr (v := .pointer (some ⟨g5_10, 3, none⟩)) rfl (fb Tryd.underlying57 3 (H.q 5 y5))
   ·exact pv fun a w' H => vr (v := kv) rfl (lb (H.d 7 19) (H.x lg5_10_ kg5_10_))
   ·refine pv fun a w' H => call Tryd.func42 (by kernel_rfl) (by kernel_rfl) rfl #[kv] ?_ ?_
    ·have e0 : a.eval (.tmp 20) = kv := (H.d 8 20); simp only [List.map_toArray, List.map_cons, List.map_nil, e0]
    refine (Dc.clone_calls kv nk.kids _ (Reads.below Fkj_ H.below) (by omega)).mono ?_
    rintro e w'' ⟨v, rfl, O, hb⟩
    exact ⟨_, rfl, own_mono O H.below.size, hb⟩
   ·refine pv fun a w' H => ?_
    have O_ : w'.ownsRow w11.heap.size 3 1 (a.eval (.tmp 21)) nk.kids.length (Dc.ints nk.kids) := H.dep 9 21 (by kernel_rfl) rfl
    obtain ⟨u_, hu_⟩ : ∃ u, u = a.eval (.tmp 21) := ⟨_, rfl⟩
    rw [← hu_] at O_
    obtain ⟨A_, c_, ev_⟩ := Reads.shape (Reads.of_own O_)
    refine vr (v := .agg #[.int .i64 nk.kind, .string nk.tag, .string nk.text, u_]) ⟨u_, rfl, O_⟩ ?_
    subst ev_
    have e0 : a.eval (.tmp 14) = .int .i64 nk.kind := (H.d 2 14)
    have e1 : a.eval (.tmp 16) = .string nk.tag := (H.d 4 16)
    have e2 : a.eval (.tmp 18) = .string nk.text := (H.d 6 18)
    have e3 : a.eval (.tmp 21) = .slice A_ _ c_ := hu_.symm
    simp only [execOp, resolve, List.map_toArray, List.map_cons, List.map_nil, e0, e1, e2, e3]
    go_simp
    try rfl
   refine pv fun a w' H => ?_
   obtain ⟨u_, e_, O_⟩ := (show Dc.NodeOne w11.heap.size nk (a.eval (.tmp 22)) w' from H.dep 10 22 (by kernel_rfl) rfl)
   obtain ⟨A_, c_, ev_⟩ := Reads.shape (Reads.of_own O_)
   refine val_ex (run_build1I (size := 4) (z := .agg #[.int .i64 0, .string ⟨#[]⟩, .string ⟨#[]⟩, .slice none 0 0]) [.int .i64 nk.kind, .string nk.tag, .string nk.text, u_] rfl Tryd.underlying51 (by kernel_rfl) rfl rfl rfl (by rw [ev_]; kernel_rfl) e_) fun v1 w'' R => ?_
   obtain ⟨F, hb⟩ := R
   exact ⟨hb, ⟨u_, own_below O_ hb, F⟩⟩
  intro A w12 T
  have ⟨y0, y2, y6, y7, y8⟩ := T.r5 y0 y2 y6 y7 y8
  have Oout_12 := T.g Oout_11
  have y12 : A.eval (.tmp 12) = o := T.done 0 12 rfl rfl
  have OO23_12 := T.done 11 23 rfl rfl
  obtain ⟨v23_12, y23⟩ : ∃ v, A.eval (.tmp 23) = v := ⟨_, rfl⟩
  have ⟨d12, s12, bl12⟩ := T.h d10 s10 bl11
  have XK_12 := Dc.KsO.below XK_11 T.below
  have OP23_12 : Dc.RowNode w11.heap.size nk v23_12 w12 := by rw [← y23]; exact OO23_12
  clear OO23_12
  obtain ⟨uk_12, Ou_12, Fb_⟩ := OP23_12
  have Ok_12 := own_mono Ou_12 bl11.size
  have Fk_ := Reads.of_own Ok_12
  clear T
  refine tail_ex rfl rfl rfl (run_appendI (z := .agg #[.int .i64 0, .string ⟨#[]⟩, .string ⟨#[]⟩, .slice none 0 0]) rfl Tryd.underlying51 (by kernel_rfl) rfl rfl y12 Oout_12 y23 Fb_ (by intro u hu; simp only [List.mem_cons, List.not_mem_nil, or_false] at hu; obtain ⟨A_, c_, e_⟩ := Reads.shape Fk_; rcases hu with rfl | rfl | rfl | rfl <;> first | rfl | (rw [e_]; rfl)) (by have := hsm.1; rw [List.length_map] at this; omega) bl12.size) s12 rfl fun v_13 w13 A R d13 s13 y24 hr => ?_
  obtain ⟨O_13, _, b_13, G_13, EO_13⟩ := R
  have ⟨y0, y2, y6, y7, y8⟩ := k5 hr y0 y2 y6 y7 y8
  have d13 := d13.trans d12
  have XK_13 := Dc.KsO.grown XK_12 G_13 Oout_12 rfl
  have bl13 := bl12.trans b_13
  have Oku_13 := own_grown Ok_12 G_13 Oout_12 rfl
  have Oa13 : w13.ownsRow w.heap.size 81 4 v_13 (hs ++ [(nk, uk_12)]).length (Dc.cells (hs ++ [(nk, uk_12)])) := Dc.own_snocN O_13
  have Fa13 := Reads.of_own Oa13
  refine tail_val rfl rfl rfl (ra y24) s13 rfl fun A d14 s14 y3 hr => ?_
  have ⟨y0, y2, y6, y7, y8⟩ := k5 hr y0 y2 y6 y7 y8
  have d14 := d14.trans d13
  refine tail_nil (rP [.int .i64 (IntKind.i64.wrap ((k : Nat) + 1)), .int .i64 (IntKind.i64.wrap ((k : Nat) + 1))] 2 0 s14 (.c (pv fun a w' H => vr (v := .int .i64 (IntKind.i64.wrap ((k : Nat) + 1))) rfl (ok (.int .i64 1) (H.q 8 y8))) (.c (qd 0 25) .nil)) fun A w15 T => ?_)
  have ⟨y0, y2, y3, y6, y7⟩ := T.r5 y0 y2 y3 y6 y7
  have Oku_15 := T.g Oku_13
  have Oa13_15 := T.g Oa13
  have y8 := T.u 1 8
  have ⟨d15, s15, bl15⟩ := T.h d14 s14 bl13
  have XK_15 := Dc.KsO.below XK_13 T.below
  clear T
  exact tail_nil (⟨_, by omega, k + 1, v_13, (hs ++ [(nk, uk_12)]), rfl, by omega, Dc.map_snoc hk0 hmap Hnk, Oa13_15, Dc.KsO.snoc XK_15 Oku_15, d15, s15, bl15, y0, y2, (y3.trans (by first | rfl | (congr 1; rw [i64_id (by omega) (by omega)]; omega) | (simp; done))), y6, y7, (y8.trans (by first | rfl | (congr 1; rw [i64_id (by omega) (by omega)]; omega) | (simp; done)))⟩)
 have c9 := Bq9.symm.trans hq
 clear hq
 have c9 := of_decide_eq_false c9
 have hke : k = h.length := by omega
 refine wp_exit (wp_seq ?_)
 refine rP [o, o] 2 0 s5 (.c (qq 3 y3) (.c (qe 0 26) .nil)) fun A w17 T => ?_
 have Oout_17 := T.g Oout_5
 have y2 := T.u 1 2
 have d17 := T.e d5
 have bl17 := T.b bl5
 have XK_17 := Dc.KsO.below XK_5 T.below
 clear T
 refine tail_nil (wp_ret ?_)
 repeat (first | with_reducible refine in_ret ?_ | with_reducible refine then_ret ?_)
 rw [hke, List.take_length] at hmap
 exact ret1 rfl d17 y2 ⟨_, rfl, ⟨hs, hmap, Oout_17, XK_17⟩, bl17⟩
end Go.Proofs.YtgnmjaacnmkgnaaDoor.X
end
section
namespace Go.Proofs.YtgnmjaacnmkgnaaDoor.X
open Go.RowKit Go.Shelf Go.Proofs Go.Proofs.YtgnmjaacnmkgnaaDoorW.PrintWords Go.Proofs.YtgnmjaacnmkgnaaDoorW.PrintLast Go.Proofs.YtgnmjaacnmkgnaaDoorW.PrintMore Go.Proofs.Eng
set_option linter.unusedVariables false
set_option linter.unusedSimpArgs false
attribute [local go_sem] max2_int min2_int max_two min_two
set_option maxHeartbeats 4000000 in
set_option maxRecDepth 100000 in
theorem Dc.equal8_h (gv gv2 : Value) (h h2 : List Dc.NV) (w : World) (hF : Reads w gv h.length 4 (Dc.cells h)) (hK : Dc.KsR w h) (hF2 : Reads w gv2 h2.length 4 (Dc.cells h2)) (hK2 : Dc.KsR w h2) (he : h.map (·.1) = h2.map (·.1)) : Calls Tryd.prog 19 #[gv, gv2] w fun e w' => e = .returned (.bool true) ∧ Below w.heap.size w w' := by
 have hm := Reads.len_le hF
 have hlen := Dc.eq_len he
 refine enter Tryd.func19 rfl fun A d0 s0 v0 => ?_
 have s0 : A.tmps.size = 97 := s0
 have y0 : A.eval (.tmp 0) = gv := v0 0 (by simp)
 have y1 : A.eval (.tmp 1) = gv2 := v0 1 (by simp)
 clear v0
 have bl0 : Below w.heap.size w w := Below.refl _ _
 refine wp_seq (rS [.bool false] (fun _ => .plain) 1 0 s0 ?_ ?_)
 ·refine .c ?_ (.nil)
  ·exact pq fun a w' H => ra (rfl : a.eval (.const (.bool false)) = .bool false)
 intro A w1 T
 have ⟨y0, y1⟩ := T.r2 y0 y1
 have Fgr_ := T.f hF
 have Fgr2_ := T.f hF2
 have ⟨d1, s1, bl1⟩ := T.h d0 s0 bl0
 clear T
 refine tail_nil (wp_seq (wp_seq ?_))
 obtain ⟨q11, Bq11⟩ := nm (!(((h.length : Nat) : Int) == ((h2.length : Nat) : Int)))
 refine rP [gv, .int .i64 ((h.length : Nat) : Int), gv2, .int .i64 ((h2.length : Nat) : Int), .bool q11] 5 0 s1 (.c (qq 0 y0) (.c (pv fun a w' H => vr (v := .int .i64 ((h.length : Nat) : Int)) rfl (run_len_sl rfl Tryd.underlying51 (H.d 0 7) (Reads.below Fgr_ H.below))) (.c (qq 1 y1) (.c (pv fun a w' H => vr (v := .int .i64 ((h2.length : Nat) : Int)) rfl (run_len_sl rfl Tryd.underlying51 (H.d 2 9) (Reads.below Fgr2_ H.below))) (.c (pv fun a w' H => vr (bb Bq11) (o2 (H.d 1 8) (H.d 3 10))) .nil))))) fun A w2 T => ?_
 have ⟨y0, y1⟩ := T.r2 y0 y1
 have y11 := T.u 4 11
 have ⟨d2, s2, bl2⟩ := T.h d1 s1 bl1
 clear T
 refine tail_nil ?_
 have n11 : q11 = false := by
  try simp only [Bq11]
  rw [hlen, beq_self_eq_true]; rfl
 refine wp_cond_false (y11.trans (by rw [n11])) (wp_skip ?_)
 refine wp_seq (wp_seq ?_)
 refine rS [.int .i64 0] (fun _ => .plain) 1 0 s2 ?_ ?_
 ·refine .c ?_ (.nil)
  ·exact pq fun a w' H => ra (rfl : a.eval (.const (.int .i64 0)) = .int .i64 0)
 intro A w3 T
 have ⟨y0, y1, y11⟩ := T.r3 y0 y1 y11
 have y5 := T.u 0 5
 have ⟨d3, s3, bl3⟩ := T.h d2 s2 bl2
 clear T
 refine tail_nil (wp_block ?_)
 refine loopN (fun n a w' => ∃ (k : Nat), h.length - k = n ∧ (k ≤ h.length) ∧ a.defers = [] ∧ a.tmps.size = 97 ∧ Below w.heap.size w w' ∧ a.eval (.tmp 0) = gv ∧ a.eval (.tmp 1) = gv2 ∧ a.eval (.tmp 5) = .int .i64 (k : Nat) ∧ a.eval (.tmp 11) = .bool q11) (n0 := h.length - 0) ?_ ?_
 ·exact ⟨0, rfl, by omega, d3, s3, bl3, y0, y1, (y5.trans (by first | rfl | (congr 1; rw [i64_id (by omega) (by omega)]; omega) | (simp; done))), y11⟩
 rintro n A w4 ⟨k, rfl, hc0_4, d4, s4, bl4, y0, y1, y5, y11⟩
 have Fgr_ := Reads.below hF bl4
 have Fgr2_ := Reads.below hF2 bl4
 have hk1 := hc0_4
 refine wp_seq (wp_seq ?_)
 obtain ⟨q15, Bq15⟩ := nm (decide ((k : Nat) < ((h.length : Nat) : Int)))
 refine rP [.int .i64 (k : Nat), gv, .int .i64 ((h.length : Nat) : Int), .bool q15] 4 0 s4 (.c (qq 5 y5) (.c (qq 0 y0) (.c (pv fun a w' H => vr (v := .int .i64 ((h.length : Nat) : Int)) rfl (run_len_sl rfl Tryd.underlying51 (H.d 1 13) (Reads.below Fgr_ H.below))) (.c (pv fun a w' H => vr (bb Bq15) (o2 (H.d 0 12) (H.d 2 14))) .nil)))) fun A w5 T => ?_
 have ⟨y0, y1, y5, y11⟩ := T.r4 y0 y1 y5 y11
 have Fgr_ := T.f Fgr_
 have Fgr2_ := T.f Fgr2_
 have y15 := T.u 3 15
 have ⟨d5, s5, bl5⟩ := T.h d4 s4 bl4
 clear T
 refine tail_nil (wp_cond_split y15 (fun hq => ?_) (fun hq => ?_))
 ·
  have c15 := Bq15.symm.trans hq
  clear hq
  have c15 := of_decide_eq_true c15
  have hk0 : k < h.length := by omega
  have hk2 : k < h2.length := by omega
  obtain ⟨nk, Hnk⟩ : ∃ n, n = (h.getD k default).1 := ⟨_, rfl⟩
  have Hn2 : nk = (h2.getD k default).1 := Hnk.trans (Dc.eq_at he k)
  have ck1 := Dc.cell_kind h k hk0
  have ct1 := Dc.cell_tag h k hk0
  have cx1 := Dc.cell_text h k hk0
  have cq1 := Dc.cell_kids h k hk0
  have Fq1 := hK.at_ hk0
  obtain ⟨kv1, hkv1⟩ : ∃ v, v = (h.getD k default).2 := ⟨_, rfl⟩
  rw [← Hnk] at ck1 ct1 cx1
  rw [← hkv1] at cq1
  rw [← Hnk, ← hkv1] at Fq1
  clear hkv1
  have Fk1_ := Reads.below Fq1 bl5
  have ck2 := Dc.cell_kind h2 k hk2
  have ct2 := Dc.cell_tag h2 k hk2
  have cx2 := Dc.cell_text h2 k hk2
  have cq2 := Dc.cell_kids h2 k hk2
  have Fq2 := hK2.at_ hk2
  obtain ⟨kv2, hkv2⟩ : ∃ v, v = (h2.getD k default).2 := ⟨_, rfl⟩
  rw [← Hn2] at ck2 ct2 cx2
  rw [← hkv2] at cq2
  rw [← Hn2, ← hkv2] at Fq2
  clear hkv2
  have Fk2_ := Reads.below Fq2 bl5
  have hkl := Reads.len_le Fq1
  refine wp_skip (wp_seq ?_)
  refine wp_block (wp_seq (wp_seq ?_))
  refine rD [gv, .int .i64 (k : Nat), elemPtr gv (k * 4), elemPtr gv (k * 4 + 0), .int .i64 nk.kind, gv2, .int .i64 (k : Nat), elemPtr gv2 (k * 4), elemPtr gv2 (k * 4 + 0), .int .i64 nk.kind, .bool false, .bool false, gv, .int .i64 (k : Nat), elemPtr gv (k * 4), elemPtr gv (k * 4 + 1), .string nk.tag, gv2, .int .i64 (k : Nat), elemPtr gv2 (k * 4), elemPtr gv2 (k * 4 + 1), .string nk.tag, .bool false, .bool false, .bool false, gv, .int .i64 (k : Nat), elemPtr gv (k * 4), elemPtr gv (k * 4 + 2), .string nk.text, gv2, .int .i64 (k : Nat), elemPtr gv2 (k * 4), elemPtr gv2 (k * 4 + 2), .string nk.text, .bool false, .bool false, .bool false, gv, .int .i64 (k : Nat), elemPtr gv (k * 4), elemPtr gv (k * 4 + 3), kv1, .int .i64 ((nk.kids.length : Nat) : Int), gv2, .int .i64 (k : Nat), elemPtr gv2 (k * 4), elemPtr gv2 (k * 4 + 3), kv2, .int .i64 ((nk.kids.length : Nat) : Int), .bool false, .bool false] (fun _ => .plain) 52 0 s5 (.c (qq 0 y0) (.c (qq 5 y5) (.c (pv fun a w' H => vr (v := elemPtr gv (k * 4)) rfl (run_index_sl rfl Tryd.underlying51 (by kernel_rfl) (H.d 0 18) ((H.d 1 19).trans (congrArg (Value.int _) (show (k : Nat) = ((k : Nat) : Int) from by omega))) (Reads.below Fgr_ H.below) (by omega) rfl)) (.c (pv fun a w' H => vr (v := elemPtr gv (k * 4 + 0)) rfl (run_field_el rfl Tryd.underlying81 0 (by kernel_rfl) (H.d 2 20) (Reads.below Fgr_ H.below) (by have h_ : k < h.length := (by omega); omega))) (.c (pv fun a w' H => vr (v := .int .i64 nk.kind) rfl (run_load_el (.int .i64 nk.kind) rfl (H.d 3 21) (Reads.below Fgr_ H.below) (ck1) (by kernel_rfl))) (.c (qq 1 y1) (.c (qq 5 y5) (.c (pv fun a w' H => vr (v := elemPtr gv2 (k * 4)) rfl (run_index_sl rfl Tryd.underlying51 (by kernel_rfl) (H.d 5 23) ((H.d 6 24).trans (congrArg (Value.int _) (show (k : Nat) = ((k : Nat) : Int) from by omega))) (Reads.below Fgr2_ H.below) (by omega) rfl)) (.c (pv fun a w' H => vr (v := elemPtr gv2 (k * 4 + 0)) rfl (run_field_el rfl Tryd.underlying81 0 (by kernel_rfl) (H.d 7 25) (Reads.below Fgr2_ H.below) (by have h_ : k < h2.length := (by omega); omega))) (.c (pv fun a w' H => vr (v := .int .i64 nk.kind) rfl (run_load_el (.int .i64 nk.kind) rfl (H.d 8 26) (Reads.below Fgr2_ H.below) (ck2) (by kernel_rfl))) (.c (pv fun a w' H => vr (v := .bool (!(nk.kind == nk.kind))) (by show _ = Value.bool false; rw [show (!(nk.kind == nk.kind)) = false from (by rw [beq_self_eq_true]; rfl)]) (o2 (H.d 4 22) (H.d 9 27))) (.c (qd 10 28) (.c (gT 11 29 fun a w' H => vr (v := gv) rfl (rv (H.q 0 y0))) (.c (gT 11 29 fun a w' H => vr (v := .int .i64 (k : Nat)) rfl (rv (H.q 5 y5))) (.c (gT 11 29 fun a w' H => vr (v := elemPtr gv (k * 4)) rfl (run_index_sl rfl Tryd.underlying51 (by kernel_rfl) (H.d 12 30) ((H.d 13 31).trans (congrArg (Value.int _) (show (k : Nat) = ((k : Nat) : Int) from by omega))) (Reads.below Fgr_ H.below) (by omega) rfl)) (.c (gT 11 29 fun a w' H => vr (v := elemPtr gv (k * 4 + 1)) rfl (run_field_el rfl Tryd.underlying81 1 (by kernel_rfl) (H.d 14 32) (Reads.below Fgr_ H.below) (by have h_ : k < h.length := (by omega); omega))) (.c (gT 11 29 fun a w' H => vr (v := .string nk.tag) rfl (run_load_el (.string nk.tag) rfl (H.d 15 33) (Reads.below Fgr_ H.below) (ct1) (by kernel_rfl))) (.c (gT 11 29 fun a w' H => vr (v := gv2) rfl (rv (H.q 1 y1))) (.c (gT 11 29 fun a w' H => vr (v := .int .i64 (k : Nat)) rfl (rv (H.q 5 y5))) (.c (gT 11 29 fun a w' H => vr (v := elemPtr gv2 (k * 4)) rfl (run_index_sl rfl Tryd.underlying51 (by kernel_rfl) (H.d 17 35) ((H.d 18 36).trans (congrArg (Value.int _) (show (k : Nat) = ((k : Nat) : Int) from by omega))) (Reads.below Fgr2_ H.below) (by omega) rfl)) (.c (gT 11 29 fun a w' H => vr (v := elemPtr gv2 (k * 4 + 1)) rfl (run_field_el rfl Tryd.underlying81 1 (by kernel_rfl) (H.d 19 37) (Reads.below Fgr2_ H.below) (by have h_ : k < h2.length := (by omega); omega))) (.c (gT 11 29 fun a w' H => vr (v := .string nk.tag) rfl (run_load_el (.string nk.tag) rfl (H.d 20 38) (Reads.below Fgr2_ H.below) (ct2) (by kernel_rfl))) (.c (gT 11 29 fun a w' H => vr (v := .bool (!(nk.tag.toList == nk.tag.toList))) (by show _ = Value.bool false; rw [show (!(nk.tag.toList == nk.tag.toList)) = false from (by rw [beq_self_eq_true]; rfl)]) (o2 (H.d 16 34) (H.d 21 39))) (.c (pq fun a w' H => run_or rfl rfl (G := true) (H.d 11 29) (fun hb => (H.d 22 40))) (.c (qd 23 41) (.c (gT 24 42 fun a w' H => vr (v := gv) rfl (rv (H.q 0 y0))) (.c (gT 24 42 fun a w' H => vr (v := .int .i64 (k : Nat)) rfl (rv (H.q 5 y5))) (.c (gT 24 42 fun a w' H => vr (v := elemPtr gv (k * 4)) rfl (run_index_sl rfl Tryd.underlying51 (by kernel_rfl) (H.d 25 43) ((H.d 26 44).trans (congrArg (Value.int _) (show (k : Nat) = ((k : Nat) : Int) from by omega))) (Reads.below Fgr_ H.below) (by omega) rfl)) (.c (gT 24 42 fun a w' H => vr (v := elemPtr gv (k * 4 + 2)) rfl (run_field_el rfl Tryd.underlying81 2 (by kernel_rfl) (H.d 27 45) (Reads.below Fgr_ H.below) (by have h_ : k < h.length := (by omega); omega))) (.c (gT 24 42 fun a w' H => vr (v := .string nk.text) rfl (run_load_el (.string nk.text) rfl (H.d 28 46) (Reads.below Fgr_ H.below) (cx1) (by kernel_rfl))) (.c (gT 24 42 fun a w' H => vr (v := gv2) rfl (rv (H.q 1 y1))) (.c (gT 24 42 fun a w' H => vr (v := .int .i64 (k : Nat)) rfl (rv (H.q 5 y5))) (.c (gT 24 42 fun a w' H => vr (v := elemPtr gv2 (k * 4)) rfl (run_index_sl rfl Tryd.underlying51 (by kernel_rfl) (H.d 30 48) ((H.d 31 49).trans (congrArg (Value.int _) (show (k : Nat) = ((k : Nat) : Int) from by omega))) (Reads.below Fgr2_ H.below) (by omega) rfl)) (.c (gT 24 42 fun a w' H => vr (v := elemPtr gv2 (k * 4 + 2)) rfl (run_field_el rfl Tryd.underlying81 2 (by kernel_rfl) (H.d 32 50) (Reads.below Fgr2_ H.below) (by have h_ : k < h2.length := (by omega); omega))) (.c (gT 24 42 fun a w' H => vr (v := .string nk.text) rfl (run_load_el (.string nk.text) rfl (H.d 33 51) (Reads.below Fgr2_ H.below) (cx2) (by kernel_rfl))) (.c (gT 24 42 fun a w' H => vr (v := .bool (!(nk.text.toList == nk.text.toList))) (by show _ = Value.bool false; rw [show (!(nk.text.toList == nk.text.toList)) = false from (by rw [beq_self_eq_true]; rfl)]) (o2 (H.d 29 47) (H.d 34 52))) (.c (pq fun a w' H => run_or rfl rfl (G := true) (H.d 24 42) (fun hb => (H.d 35 53))) (.c (qd 36 54) (.c (gT 37 55 fun a w' H => vr (v := gv) rfl (rv (H.q 0 y0))) (.c (gT 37 55 fun a w' H => vr (v := .int .i64 (k : Nat)) rfl (rv (H.q 5 y5))) (.c (gT 37 55 fun a w' H => vr (v := elemPtr gv (k * 4)) rfl (run_index_sl rfl Tryd.underlying51 (by kernel_rfl) (H.d 38 56) ((H.d 39 57).trans (congrArg (Value.int _) (show (k : Nat) = ((k : Nat) : Int) from by omega))) (Reads.below Fgr_ H.below) (by omega) rfl)) (.c (gT 37 55 fun a w' H => vr (v := elemPtr gv (k * 4 + 3)) rfl (run_field_el rfl Tryd.underlying81 3 (by kernel_rfl) (H.d 40 58) (Reads.below Fgr_ H.below) (by have h_ : k < h.length := (by omega); omega))) (.c (gT 37 55 fun a w' H => vr (v := kv1) rfl (run_load_el (kv1) rfl (H.d 41 59) (Reads.below Fgr_ H.below) (cq1) (by kernel_rfl))) (.c (gT 37 55 fun a w' H => vr (v := .int .i64 ((nk.kids.length : Nat) : Int)) rfl (run_len_sl rfl Tryd.underlying55 (H.d 42 60) (Reads.below Fk1_ H.below))) (.c (gT 37 55 fun a w' H => vr (v := gv2) rfl (rv (H.q 1 y1))) (.c (gT 37 55 fun a w' H => vr (v := .int .i64 (k : Nat)) rfl (rv (H.q 5 y5))) (.c (gT 37 55 fun a w' H => vr (v := elemPtr gv2 (k * 4)) rfl (run_index_sl rfl Tryd.underlying51 (by kernel_rfl) (H.d 44 62) ((H.d 45 63).trans (congrArg (Value.int _) (show (k : Nat) = ((k : Nat) : Int) from by omega))) (Reads.below Fgr2_ H.below) (by omega) rfl)) (.c (gT 37 55 fun a w' H => vr (v := elemPtr gv2 (k * 4 + 3)) rfl (run_field_el rfl Tryd.underlying81 3 (by kernel_rfl) (H.d 46 64) (Reads.below Fgr2_ H.below) (by have h_ : k < h2.length := (by omega); omega))) (.c (gT 37 55 fun a w' H => vr (v := kv2) rfl (run_load_el (kv2) rfl (H.d 47 65) (Reads.below Fgr2_ H.below) (cq2) (by kernel_rfl))) (.c (gT 37 55 fun a w' H => vr (v := .int .i64 ((nk.kids.length : Nat) : Int)) rfl (run_len_sl rfl Tryd.underlying55 (H.d 48 66) (Reads.below Fk2_ H.below))) (.c (gT 37 55 fun a w' H => vr (v := .bool (!(((nk.kids.length : Nat) : Int) == ((nk.kids.length : Nat) : Int)))) (by show _ = Value.bool false; rw [show (!(((nk.kids.length : Nat) : Int) == ((nk.kids.length : Nat) : Int))) = false from (by rw [beq_self_eq_true]; rfl)]) (o2 (H.d 43 61) (H.d 49 67))) (.c (pq fun a w' H => run_or rfl rfl (G := true) (H.d 37 55) (fun hb => (H.d 50 68))) .nil)))))))))))))))))))))))))))))))))))))))))))))))))))) fun A w8 T => ?_
  have ⟨y0, y1, y5, y11, y15⟩ := T.r5 y0 y1 y5 y11 y15
  have y69 := T.u 51 69
  have ⟨d8, s8, bl8⟩ := T.h d5 s5 bl5
  clear T
  refine tail_nil ?_
  have n69 : false = false := by
   rfl
  refine wp_cond_false (y69.trans (by rw [n69])) (wp_skip ?_)
  refine wp_seq (rS [.int .i64 0] (fun _ => .plain) 1 0 s8 ?_ ?_)
  ·refine .c ?_ (.nil)
   ·exact pq fun a w' H => ra (rfl : a.eval (.const (.int .i64 0)) = .int .i64 0)
  intro A w9 T
  have ⟨y0, y1, y5, y11, y15, y69⟩ := T.r6 y0 y1 y5 y11 y15 y69
  have y6 := T.u 0 6
  have ⟨d9, s9, bl9⟩ := T.h d8 s8 bl8
  clear T
  refine tail_nil (wp_block ?_)
  refine loopN (fun n a w' => ∃ (m : Nat), nk.kids.length - m = n ∧ (m ≤ nk.kids.length) ∧ a.defers = [] ∧ a.tmps.size = 97 ∧ Below w.heap.size w w' ∧ a.eval (.tmp 0) = gv ∧ a.eval (.tmp 1) = gv2 ∧ a.eval (.tmp 5) = .int .i64 (k : Nat) ∧ a.eval (.tmp 6) = .int .i64 (m : Nat) ∧ a.eval (.tmp 11) = .bool q11 ∧ a.eval (.tmp 15) = .bool q15 ∧ a.eval (.tmp 69) = .bool false) (n0 := nk.kids.length - 0) ?_ ?_
  ·exact ⟨0, rfl, Nat.zero_le _, d9, s9, bl9, y0, y1, y5, (y6.trans (by first | rfl | (congr 1; rw [i64_id (by omega) (by omega)]; omega) | (simp; done))), y11, y15, y69⟩
  rintro n A w10 ⟨m, rfl, hc0_10, d10, s10, bl10, y0, y1, y5, y6, y11, y15, y69⟩
  have Fgr_ := Reads.below hF bl10
  have Fgr2_ := Reads.below hF2 bl10
  have Fk1_ := Reads.below Fq1 bl10
  have Fk2_ := Reads.below Fq2 bl10
  have hm1 := hc0_10
  refine wp_seq (wp_seq ?_)
  obtain ⟨q77, Bq77⟩ := nm (decide ((m : Nat) < ((nk.kids.length : Nat) : Int)))
  refine rP [.int .i64 (m : Nat), gv, .int .i64 (k : Nat), elemPtr gv (k * 4), elemPtr gv (k * 4 + 3), kv1, .int .i64 ((nk.kids.length : Nat) : Int), .bool q77] 8 0 s10 (.c (qq 6 y6) (.c (qq 0 y0) (.c (qq 5 y5) (.c (pv fun a w' H => vr (v := elemPtr gv (k * 4)) rfl (run_index_sl rfl Tryd.underlying51 (by kernel_rfl) (H.d 1 71) ((H.d 2 72).trans (congrArg (Value.int _) (show (k : Nat) = ((k : Nat) : Int) from by omega))) (Reads.below Fgr_ H.below) (by omega) rfl)) (.c (pv fun a w' H => vr (v := elemPtr gv (k * 4 + 3)) rfl (run_field_el rfl Tryd.underlying81 3 (by kernel_rfl) (H.d 3 73) (Reads.below Fgr_ H.below) (by have h_ : k < h.length := (by omega); omega))) (.c (pv fun a w' H => vr (v := kv1) rfl (run_load_el (kv1) rfl (H.d 4 74) (Reads.below Fgr_ H.below) (cq1) (by kernel_rfl))) (.c (pv fun a w' H => vr (v := .int .i64 ((nk.kids.length : Nat) : Int)) rfl (run_len_sl rfl Tryd.underlying55 (H.d 5 75) (Reads.below Fk1_ H.below))) (.c (pv fun a w' H => vr (bb Bq77) (o2 (H.d 0 70) (H.d 6 76))) .nil)))))))) fun A w11 T => ?_
  have ⟨y0, y1, y5, y6, y11, y15, y69⟩ := T.r7 y0 y1 y5 y6 y11 y15 y69
  have Fgr_ := T.f Fgr_
  have Fgr2_ := T.f Fgr2_
  have Fk1_ := T.f Fk1_
  have Fk2_ := T.f Fk2_
  have y77 := T.u 7 77
  have ⟨d11, s11, bl11⟩ := T.h d10 s10 bl10
  clear T
  refine tail_nil (wp_cond_split y77 (fun hq => ?_) (fun hq => ?_))
  ·
   have c77 := Bq77.symm.trans hq
   clear hq
   have c77 := of_decide_eq_true c77
   have hm0 : m < nk.kids.length := by omega
   refine wp_skip (wp_seq ?_)
   refine wp_block (wp_seq ?_)
   refine rD [gv, .int .i64 (k : Nat), elemPtr gv (k * 4), elemPtr gv (k * 4 + 3), kv1, .int .i64 (m : Nat), elemPtr kv1 (m * 1), .int .i64 (nk.kids.getD m 0), gv2, .int .i64 (k : Nat), elemPtr gv2 (k * 4), elemPtr gv2 (k * 4 + 3), kv2, .int .i64 (m : Nat), elemPtr kv2 (m * 1), .int .i64 (nk.kids.getD m 0), .bool false] (fun _ => .plain) 17 0 s11 (.c (qq 0 y0) (.c (qq 5 y5) (.c (pv fun a w' H => vr (v := elemPtr gv (k * 4)) rfl (run_index_sl rfl Tryd.underlying51 (by kernel_rfl) (H.d 0 80) ((H.d 1 81).trans (congrArg (Value.int _) (show (k : Nat) = ((k : Nat) : Int) from by omega))) (Reads.below Fgr_ H.below) (by omega) rfl)) (.c (pv fun a w' H => vr (v := elemPtr gv (k * 4 + 3)) rfl (run_field_el rfl Tryd.underlying81 3 (by kernel_rfl) (H.d 2 82) (Reads.below Fgr_ H.below) (by have h_ : k < h.length := (by omega); omega))) (.c (pv fun a w' H => vr (v := kv1) rfl (run_load_el (kv1) rfl (H.d 3 83) (Reads.below Fgr_ H.below) (cq1) (by kernel_rfl))) (.c (qq 6 y6) (.c (pv fun a w' H => vr (v := elemPtr kv1 (m * 1)) rfl (run_index_sl rfl Tryd.underlying55 (by kernel_rfl) (H.d 4 84) ((H.d 5 85).trans (congrArg (Value.int _) (show (m : Nat) = ((m : Nat) : Int) from by omega))) (Reads.below Fk1_ H.below) (by omega) rfl)) (.c (pv fun a w' H => vr (v := .int .i64 (nk.kids.getD m 0)) rfl (run_load_el (.int .i64 (nk.kids.getD m 0)) rfl (H.d 6 86) (Reads.below Fk1_ H.below) (Dc.ints_get1 nk.kids m (by omega)) (by kernel_rfl))) (.c (qq 1 y1) (.c (qq 5 y5) (.c (pv fun a w' H => vr (v := elemPtr gv2 (k * 4)) rfl (run_index_sl rfl Tryd.underlying51 (by kernel_rfl) (H.d 8 88) ((H.d 9 89).trans (congrArg (Value.int _) (show (k : Nat) = ((k : Nat) : Int) from by omega))) (Reads.below Fgr2_ H.below) (by omega) rfl)) (.c (pv fun a w' H => vr (v := elemPtr gv2 (k * 4 + 3)) rfl (run_field_el rfl Tryd.underlying81 3 (by kernel_rfl) (H.d 10 90) (Reads.below Fgr2_ H.below) (by have h_ : k < h2.length := (by omega); omega))) (.c (pv fun a w' H => vr (v := kv2) rfl (run_load_el (kv2) rfl (H.d 11 91) (Reads.below Fgr2_ H.below) (cq2) (by kernel_rfl))) (.c (qq 6 y6) (.c (pv fun a w' H => vr (v := elemPtr kv2 (m * 1)) rfl (run_index_sl rfl Tryd.underlying55 (by kernel_rfl) (H.d 12 92) ((H.d 13 93).trans (congrArg (Value.int _) (show (m : Nat) = ((m : Nat) : Int) from by omega))) (Reads.below Fk2_ H.below) (by omega) rfl)) (.c (pv fun a w' H => vr (v := .int .i64 (nk.kids.getD m 0)) rfl (run_load_el (.int .i64 (nk.kids.getD m 0)) rfl (H.d 14 94) (Reads.below Fk2_ H.below) (Dc.ints_get1 nk.kids m (by omega)) (by kernel_rfl))) (.c (pv fun a w' H => vr (v := .bool (!((nk.kids.getD m 0) == (nk.kids.getD m 0)))) (by show _ = Value.bool false; rw [show (!((nk.kids.getD m 0) == (nk.kids.getD m 0))) = false from (by rw [beq_self_eq_true]; rfl)]) (o2 (H.d 7 87) (H.d 15 95))) .nil))))))))))))))))) fun A w13 T => ?_
   have ⟨y0, y1, y5, y6, y11, y15, y69⟩ := T.r7 y0 y1 y5 y6 y11 y15 y69
   have y96 := T.u 16 96
   have ⟨d13, s13, bl13⟩ := T.h d11 s11 bl11
   clear T
   refine tail_nil ?_
   have n96 : false = false := by
    rfl
   refine wp_cond_false (y96.trans (by rw [n96])) (wp_skip ?_)
   refine rP [.int .i64 (m : Nat), .int .i64 (IntKind.i64.wrap ((m : Nat) + 1)), .int .i64 (IntKind.i64.wrap ((m : Nat) + 1))] 3 0 s13 (.c (qq 6 y6) (.c (pv fun a w' H => vr (v := .int .i64 (IntKind.i64.wrap ((m : Nat) + 1))) rfl (ok (.int .i64 1) (H.d 0 78))) (.c (qe 1 79) .nil))) fun A w14 T => ?_
   have ⟨y0, y1, y5, y11, y15, y69⟩ := T.r6 y0 y1 y5 y11 y15 y69
   have y6 := T.u 2 6
   have ⟨d14, s14, bl14⟩ := T.h d13 s13 bl13
   clear T
   exact tail_nil (⟨_, by omega, m + 1, rfl, by omega, d14, s14, bl14, y0, y1, y5, (y6.trans (by first | rfl | (congr 1; rw [i64_id (by omega) (by omega)]; omega) | (simp; done))), y11, y15, y69⟩)
  have c77 := Bq77.symm.trans hq
  clear hq
  have c77 := of_decide_eq_false c77
  refine wp_exit (rP [.int .i64 (k : Nat), .int .i64 (IntKind.i64.wrap ((k : Nat) + 1)), .int .i64 (IntKind.i64.wrap ((k : Nat) + 1))] 3 0 s11 (.c (qq 5 y5) (.c (pv fun a w' H => vr (v := .int .i64 (IntKind.i64.wrap ((k : Nat) + 1))) rfl (ok (.int .i64 1) (H.d 0 16))) (.c (qe 1 17) .nil))) fun A w16 T => ?_)
  have ⟨y0, y1, y11⟩ := T.r3 y0 y1 y11
  have y5 := T.u 2 5
  have ⟨d16, s16, bl16⟩ := T.h d11 s11 bl11
  clear T
  exact tail_nil (⟨_, by omega, k + 1, rfl, by omega, d16, s16, bl16, y0, y1, (y5.trans (by first | rfl | (congr 1; rw [i64_id (by omega) (by omega)]; omega) | (simp; done))), y11⟩)
 have c15 := Bq15.symm.trans hq
 clear hq
 have c15 := of_decide_eq_false c15
 have hke : k = h.length := by omega
 refine wp_exit (wp_seq ?_)
 refine rS [.bool true] (fun _ => .plain) 1 0 s5 ?_ ?_
 ·refine .c ?_ (.nil)
  ·exact pq fun a w' H => ra (rfl : a.eval (.const (.bool true)) = .bool true)
 intro A w18 T
 have y4 := T.u 0 4
 have d18 := T.e d5
 have bl18 := T.b bl5
 clear T
 refine tail_nil (wp_ret ?_)
 repeat (first | with_reducible refine in_ret ?_ | with_reducible refine then_ret ?_)
 exact ret1 rfl d18 y4 ⟨rfl, bl18⟩
end Go.Proofs.YtgnmjaacnmkgnaaDoor.X
end
section
namespace Go.Proofs.YtgnmjaacnmkgnaaDoor.X
open Go.RowKit Go.Shelf Go.Proofs Go.Maps
namespace Dc
theorem ours8_calls (gv : Value) (nd : List Nd) (w : World) (hG : GR w nd gv) (hsm : Sml 1000000 nd) : Calls Tryd.prog 20 #[gv] w fun e w' => ∃ o, e = .returned o ∧ GO w.heap.size w' nd o ∧ Below w.heap.size w w' := by
  obtain ⟨h, rfl, F, K⟩ := hG
  exact ours8_h gv h w F K hsm
theorem equal8_calls (gv gv2 : Value) (nd : List Nd) (w : World) (hG : GR w nd gv) (hG2 : GR w nd gv2) : Calls Tryd.prog 19 #[gv, gv2] w fun e w' => e = .returned (.bool true) ∧ Below w.heap.size w w' := by
  obtain ⟨h, e, F, K⟩ := hG
  obtain ⟨h2, e2, F2, K2⟩ := hG2
  exact equal8_h gv gv2 h h2 w F K F2 K2 (e.trans e2.symm)
end Dc
end Go.Proofs.YtgnmjaacnmkgnaaDoor.X
end
section
namespace Go.Proofs.YtgnmjaacnmkgnaaDoor.X
open Go.RowKit Go.Shelf Go.Proofs
set_option linter.unusedVariables false
set_option linter.unusedSimpArgs false
namespace Evt
theorem own_take {w : World} {B k : Nat} {v : Value} {l : List Ev} (hk : k < l.length) (O : w.ownsRow B 30 5 v ((l.take k).length + 1) (cells (l.take k) ++ enc (l.getD k default))) : w.ownsRow B 30 5 v (l.take (k + 1)).length (cells (l.take (k + 1))) := by
  rw [Rwt.take_one hk, List.length_append]
  show w.ownsRow B 30 5 v _ (List.flatMap enc (l.take k ++ [l.getD k default]))
  rw [List.flatMap_append]
  simpa using O
end Evt
end Go.Proofs.YtgnmjaacnmkgnaaDoor.X
end
section
namespace Go.Proofs.YtgnmjaacnmkgnaaDoor.X
open Go.RowKit Go.Shelf Go.Proofs
set_option linter.unusedVariables false
set_option linter.unusedSimpArgs false
namespace Evt
def cntP (p : Ev → Bool) (l : List Ev) : Nat := l.countP p
theorem cntP_is {p : Ev → Bool} {l : List Ev} {k : Nat} (hk : k < l.length) (h : p (l.getD k default) = true) : cntP p (l.take (k + 1)) = cntP p (l.take k) + 1 := by
  unfold cntP; rw [Rwt.take_one hk, List.countP_append, List.countP_cons, h]; rfl
theorem cntP_not {p : Ev → Bool} {l : List Ev} {k : Nat} (hk : k < l.length) (h : p (l.getD k default) = false) : cntP p (l.take (k + 1)) = cntP p (l.take k) := by
  unfold cntP; rw [Rwt.take_one hk, List.countP_append, List.countP_cons, h]; simp
theorem cntP_le (p : Ev → Bool) (l : List Ev) (k : Nat) : cntP p (l.take k) ≤ k := by
  unfold cntP
  have h1 := List.countP_le_length (p := p) (l := l.take k)
  have h2 := List.length_take_le k l
  omega
theorem cntP_end {p : Ev → Bool} {l : List Ev} {k : Nat} (h : k = l.length) : cntP p (l.take k) = cntP p l := by rw [h, List.take_length]
def isTold (x : Ev) : Bool := isNode x.kind || x.kind == 7
def isBegin (x : Ev) : Bool := x.kind == 0
def isAlias (x : Ev) : Bool := x.kind == 7
end Evt
end Go.Proofs.YtgnmjaacnmkgnaaDoor.X
end
section
namespace Go.Proofs.YtgnmjaacnmkgnaaDoor.X
open Go.RowKit Go.Shelf Go.Proofs Go.Proofs.YtgnmjaacnmkgnaaDoorW.PrintWords Go.Proofs.YtgnmjaacnmkgnaaDoorW.PrintLast Go.Proofs.YtgnmjaacnmkgnaaDoorW.PrintMore Go.Proofs.Eng
set_option linter.unusedVariables false
set_option linter.unusedSimpArgs false
attribute [local go_sem] max2_int min2_int max_two min_two
set_option maxHeartbeats 4000000 in
set_option maxRecDepth 100000 in
theorem Evt.nodes_calls (v : Value) (l : List Evt.Ev) (w : World) (hl : Reads w v l.length 5 (Evt.cells l)) : Calls Tryd.prog 22 #[v] w fun e w' => e = .returned (.int .i64 ((Evt.cntP Evt.isTold l : Nat) : Int)) ∧ Below w.heap.size w w' := by
 have hm := Reads.len_le hl
 refine enter Tryd.func22 rfl fun A d0 s0 v0 => ?_
 have s0 : A.tmps.size = 22 := s0
 have y0 : A.eval (.tmp 0) = v := v0 0 (by simp)
 clear v0
 have bl0 : Below w.heap.size w w := Below.refl _ _
 refine wp_seq (rS [.int .i64 0] (fun _ => .plain) 1 0 s0 ?_ ?_)
 ·refine .c ?_ (.nil)
  ·exact pq fun a w' H => ra (rfl : a.eval (.const (.int .i64 0)) = .int .i64 0)
 intro A w1 T
 have y0 := T.r1 y0
 have Fl_ := T.f hl
 have y2 := T.u 0 2
 have ⟨d1, s1, bl1⟩ := T.h d0 s0 bl0
 clear T
 refine tail_nil (wp_seq (wp_seq ?_))
 refine rP [v, .int .i64 ((l.length : Nat) : Int), .int .i64 0] 3 0 s1 (.c (qq 0 y0) (.c (pv fun a w' H => vr (v := .int .i64 ((l.length : Nat) : Int)) rfl (run_len_sl rfl Tryd.underlying37 (H.d 0 5) (Reads.below Fl_ H.below))) (.c (pq fun a w' H => rv (rfl : a.eval (.const (.int .i64 0)) = .int .i64 0)) .nil))) fun A w2 T => ?_
 have ⟨y0, y2⟩ := T.r2 y0 y2
 have y5 := T.u 0 5
 have y6 := T.u 1 6
 have y7 := T.u 2 7
 have ⟨d2, s2, bl2⟩ := T.h d1 s1 bl1
 clear T
 refine tail_nil (wp_block ?_)
 refine loopN (fun n a w' => ∃ (k : Nat), l.length - k = n ∧ (k ≤ l.length) ∧ a.defers = [] ∧ a.tmps.size = 22 ∧ Below w.heap.size w w' ∧ a.eval (.tmp 0) = v ∧ a.eval (.tmp 2) = .int .i64 ((Evt.cntP Evt.isTold (List.take k l) : Nat) : Int) ∧ a.eval (.tmp 5) = v ∧ a.eval (.tmp 6) = .int .i64 ((l.length : Nat) : Int) ∧ a.eval (.tmp 7) = .int .i64 (k : Nat)) (n0 := l.length - 0) ?_ ?_
 ·exact ⟨0, rfl, by omega, d2, s2, bl2, y0, (y2.trans (by first | rfl | (congr 1; rw [i64_id (by omega) (by omega)]; omega) | (congr 1; omega) | (simp; done))), y5, y6, (y7.trans (by first | rfl | (congr 1; rw [i64_id (by omega) (by omega)]; omega) | (congr 1; omega) | (simp; done)))⟩
 rintro n A w3 ⟨k, rfl, hc0_3, d3, s3, bl3, y0, y2, y5, y6, y7⟩
 have Fl_ := Reads.below hl bl3
 have hk1 := hc0_3
 refine wp_seq ?_
 obtain ⟨q8, Bq8⟩ := nm (decide ((k : Nat) < ((l.length : Nat) : Int)))
 refine rS [.bool q8] (fun _ => .plain) 1 0 s3 ?_ ?_
 ·refine .c ?_ (.nil)
  ·exact pv fun a w' H => vr (bb Bq8) (o2 (H.q 7 y7) (H.q 6 y6))
 intro A w4 T
 have ⟨y0, y2, y5, y6, y7⟩ := T.r5 y0 y2 y5 y6 y7
 have Fl_ := T.f Fl_
 have y8 := T.u 0 8
 have ⟨d4, s4, bl4⟩ := T.h d3 s3 bl3
 clear T
 refine tail_nil (wp_seq ?_)
 refine wp_cond_split y8 (fun hq => ?_) (fun hq => ?_)
 ·
  have c8 := Bq8.symm.trans hq
  clear hq
  have c8 := of_decide_eq_true c8
  have hk0 : k < l.length := by omega
  have hcl := Evt.cntP_le Evt.isTold l k
  refine wp_skip (wp_seq ?_)
  refine wp_block (wp_seq ?_)
  refine regionT (n := 4) rfl (tail_val (w1 := w4) (v := elemPtr v (k * 5)) rfl rfl rfl ?_ s4 rfl ?_)
  ·exact run_index_sl rfl Tryd.underlying37 (by kernel_rfl) y5 (y7.trans (congrArg (Value.int _) (show (k : Nat) = ((k : Nat) : Int) from by omega))) Fl_ (by omega) rfl
  intro A d6 s6 y9 hr
  have ⟨y0, y2, y5, y6, y7⟩ := k5 hr y0 y2 y5 y6 y7
  have d6 := d6.trans d4
  refine tail_val (w1 := w4) (v := .agg #[.int .i64 ((l.getD k default).kind), .string ((l.getD k default).anchor), .string ((l.getD k default).tag), .string ((l.getD k default).text), .bool ((l.getD k default).plain)]) rfl rfl rfl ?_ s6 rfl ?_
  ·exact run_load_els [.int .i64 ((l.getD k default).kind), .string ((l.getD k default).anchor), .string ((l.getD k default).tag), .string ((l.getD k default).text), .bool ((l.getD k default).plain)] rfl y9 Fl_ (Evt.cells_at l k (by omega)) rfl Tryd.underlying30 rfl (by kernel_rfl)
  intro A d7 s7 y10 hr
  have ⟨y0, y2, y5, y6, y7⟩ := k5 hr y0 y2 y5 y6 y7
  have d7 := d7.trans d6
  refine tail_ex rfl rfl rfl (alloc_ex (cs := #[.int .i64 0, .string ⟨#[]⟩, .string ⟨#[]⟩, .string ⟨#[]⟩, .bool false]) rfl (by kernel_rfl)) s7 rfl fun v_8 w8 A R d8 s8 y4 hr => ?_
  obtain ⟨g4_8, ev_8, rg_8, lg4_, kg4_, b_8⟩ := R
  have ⟨y0, y2, y5, y6, y7, y10⟩ := k6 hr y0 y2 y5 y6 y7 y10
  have d8 := d8.trans d7
  have og4_8 : w.heap.size ≤ g4_8 := Nat.le_trans bl4.size rg_8
  have bl8 := bl4.trans (b_8.mono bl4.size)
  rw [ev_8] at y4
  refine tail_put [.int .i64 ((l.getD k default).kind), .string ((l.getD k default).anchor), .string ((l.getD k default).tag), .string ((l.getD k default).text), .bool ((l.getD k default).plain)] (n := 0) (new := #[.int .i64 ((l.getD k default).kind), .string ((l.getD k default).anchor), .string ((l.getD k default).tag), .string ((l.getD k default).text), .bool ((l.getD k default).plain)]) rfl rfl rfl kg4_ rfl ?_ fun w9 S => ?_
  ·have e0 : A.eval (.tmp 4) = .pointer (some ⟨g4_8, 0, none⟩) := y4
   have e1 : A.eval (.tmp 10) = .agg #[.int .i64 ((l.getD k default).kind), .string ((l.getD k default).anchor), .string ((l.getD k default).tag), .string ((l.getD k default).text), .bool ((l.getD k default).plain)] := y10
   have z0 := (Eng.cells kg4_ (0)).trans (rfl)
   have f0 := unfrozen kg4_ (0)
   have z1 := (Eng.cells kg4_ (1)).trans (rfl)
   have f1 := unfrozen kg4_ (1)
   have z2 := (Eng.cells kg4_ (2)).trans (rfl)
   have f2 := unfrozen kg4_ (2)
   have z3 := (Eng.cells kg4_ (3)).trans (rfl)
   have f3 := unfrozen kg4_ (3)
   have z4 := (Eng.cells kg4_ (4)).trans (rfl)
   have f4 := unfrozen kg4_ (4)
   simp only [execOp]
   rw [e0, e1]
   go_simp
   try rfl
  have kg4_8_ := S.new
  have lg4_8_ := Nat.lt_of_lt_of_eq lg4_ S.size.symm
  have bl9 := S.below bl8 og4_8
  clear S
  refine tail_nil (wp_seq ?_)
  refine (wpIn_wide (n := 1)).1 (EngI.regionT (n := 7) rfl ?_)
  refine EngI.tw rfl (run_load_all rfl y4 kg4_8_ Tryd.underlying30 rfl (by kernel_rfl)) s8 d8 fun A d10 s10 y11 hr => ?_
  have ⟨y0, y2, y4, y5, y6, y7⟩ := k6 hr y0 y2 y4 y5 y6 y7
  obtain ⟨q12, Bq12⟩ := nm (Evt.isNode (l.getD k default).kind)
  refine EngI.tail_call EngI.free_wide Tryd.func44 (by kernel_rfl) (by kernel_rfl) rfl rfl rfl rfl #[.agg #[.int .i64 ((l.getD k default).kind), .string ((l.getD k default).anchor), .string ((l.getD k default).tag), .string ((l.getD k default).text), .bool ((l.getD k default).plain)]] (m1 y11) s10 rfl (R := fun v w_ => v = .bool (Evt.isNode (l.getD k default).kind) ∧ Below w9.heap.size w9 w_) ((Evt.node_calls (l.getD k default) _).mono ?_) fun v_11 w11 A R d11 s11 hv hr => ?_
  ·rintro e w_ ⟨rfl, hb⟩; exact ⟨_, rfl, rfl, hb⟩
  obtain ⟨ev_11, b_11⟩ := R
  have ⟨y0, y2, y4, y5, y6, y7⟩ := k6 hr y0 y2 y4 y5 y6 y7
  have y12 : A.eval (.tmp 12) = .bool q12 := (hv.trans ev_11).trans (congrArg Value.bool Bq12.symm)
  have d11 := d11.trans d10
  clear hv hr
  have kg4_8_ := (b_11.block _ lg4_8_).trans kg4_8_
  have lg4_8_ := Nat.lt_of_lt_of_le lg4_8_ b_11.size
  have bl11 := bl9.trans (b_11.mono bl9.size)
  refine EngI.tw rfl (rv y12) s11 d11 fun A d12 s12 y13 hr => ?_
  have ⟨y0, y2, y4, y5, y6, y7, y12⟩ := k7 hr y0 y2 y4 y5 y6 y7 y12
  rcases Bool.eq_false_or_eq_true q12 with hq | hq
  ·
   have kn13 := hq
   have c13 := Bq12.symm.trans hq
   clear hq
   have h12_kn13 := y12.trans (congrArg Value.bool kn13)
   have h13_kn13 := y13.trans (congrArg Value.bool kn13)
   have hcn := Evt.cntP_is (p := Evt.isTold) hk0 (by unfold Evt.isTold; rw [c13]; rfl)
   refine EngG.tail_off EngI.free_wide rfl (EngG.wanted_off (want := false) rfl rfl rfl (by rw [s12]; decide) h13_kn13) rfl s12 rfl fun A d14 s14 hr => ?_
   have ⟨y0, y2, y5, y6, y7⟩ := k5 hr y0 y2 y5 y6 y7
   have y13 : A.eval (.tmp 13) = .bool true := (hr 13 rfl).trans h13_kn13
   have d14 := d14.trans d12
   refine EngG.tail_off EngI.free_wide rfl (EngG.wanted_off (want := false) rfl rfl rfl (by rw [s14]; decide) y13) rfl s14 rfl fun A d15 s15 hr => ?_
   have ⟨y0, y2, y5, y6, y7, y13⟩ := k6 hr y0 y2 y5 y6 y7 y13
   have d15 := d15.trans d14
   refine EngG.tail_off EngI.free_wide rfl (EngG.wanted_off (want := false) rfl rfl rfl (by rw [s15]; decide) y13) rfl s15 rfl fun A d16 s16 hr => ?_
   have ⟨y0, y2, y5, y6, y7, y13⟩ := k6 hr y0 y2 y5 y6 y7 y13
   have d16 := d16.trans d15
   refine EngI.tw rfl (run_pick rfl y13 (v := .bool true) (by exact (rfl : A.eval (.const (.bool true)) = .bool true))) s16 d16 fun A d17 s17 y17 hr => ?_
   have ⟨y0, y2, y5, y6, y7⟩ := k5 hr y0 y2 y5 y6 y7
   refine EngI.tail_nil (wp_cond_true y17 ?_)
   refine rP [.int .i64 ((Evt.cntP Evt.isTold (List.take k l) : Nat) : Int), .int .i64 (IntKind.i64.wrap (((Evt.cntP Evt.isTold (List.take k l) : Nat) : Int) + 1)), .int .i64 (IntKind.i64.wrap (((Evt.cntP Evt.isTold (List.take k l) : Nat) : Int) + 1))] 3 0 s17 (.c (qq 2 y2) (.c (pv fun a w' H => vr (v := .int .i64 (IntKind.i64.wrap (((Evt.cntP Evt.isTold (List.take k l) : Nat) : Int) + 1))) rfl (ok (.int .i64 1) (H.d 0 18))) (.c (qe 1 19) .nil))) fun A w18 T => ?_
   have ⟨y0, y5, y6, y7⟩ := T.r4 y0 y5 y6 y7
   have y2 := T.u 2 2
   have ⟨d18, s18, bl18⟩ := T.h d17 s17 bl11
   clear T
   refine tail_nil (rP [.int .i64 (IntKind.i64.wrap ((k : Nat) + 1)), .int .i64 (IntKind.i64.wrap ((k : Nat) + 1))] 2 0 s18 (.c (pv fun a w' H => vr (v := .int .i64 (IntKind.i64.wrap ((k : Nat) + 1))) rfl (ok (.int .i64 1) (H.q 7 y7))) (.c (qd 0 20) .nil)) fun A w19 T => ?_)
   have ⟨y0, y2, y5, y6⟩ := T.r4 y0 y2 y5 y6
   have y7 := T.u 1 7
   have ⟨d19, s19, bl19⟩ := T.h d18 s18 bl18
   clear T
   exact tail_nil (⟨_, by omega, k + 1, rfl, by omega, d19, s19, bl19, y0, (y2.trans (by first | rfl | (congr 1; rw [i64_id (by omega) (by omega)]; omega) | (congr 1; omega) | (simp; done))), y5, y6, (y7.trans (by first | rfl | (congr 1; rw [i64_id (by omega) (by omega)]; omega) | (congr 1; omega) | (simp; done)))⟩)
  have kn20 := hq
  have c13 := Bq12.symm.trans hq
  clear hq
  have h12_kn20 := y12.trans (congrArg Value.bool kn20)
  have h13_kn20 := y13.trans (congrArg Value.bool kn20)
  have hn13 := c13
  refine EngG.tail_val (w1 := w11) (v := .pointer (some ⟨g4_8, 0, none⟩)) EngI.free_wide rfl (EngG.wanted_on (want := false) rfl rfl rfl (by rw [s12]; decide) h13_kn20) rfl rfl ?_ s12 rfl ?_
  ·exact fb Tryd.underlying30 0 y4
  intro A d21 s21 y14 hr
  have ⟨y0, y2, y5, y6, y7⟩ := k5 hr y0 y2 y5 y6 y7
  have y13 : A.eval (.tmp 13) = .bool false := (hr 13 rfl).trans h13_kn20
  have d21 := d21.trans d12
  refine EngG.tail_val (w1 := w11) (v := .int .i64 ((l.getD k default).kind)) EngI.free_wide rfl (EngG.wanted_on (want := false) rfl rfl rfl (by rw [s21]; decide) y13) rfl rfl ?_ s21 rfl ?_
  ·exact lb y14 (((Below.refl _ _).block _ lg4_8_).trans kg4_8_)
  intro A d22 s22 y15 hr
  have ⟨y0, y2, y5, y6, y7, y13⟩ := k6 hr y0 y2 y5 y6 y7 y13
  have d22 := d22.trans d21
  obtain ⟨q16, Bq16⟩ := nm (((l.getD k default).kind) == 7)
  refine EngG.tail_val (w1 := w11) (v := .bool (((l.getD k default).kind) == 7)) EngI.free_wide rfl (EngG.wanted_on (want := false) rfl rfl rfl (by rw [s22]; decide) y13) rfl rfl (ok (.int .i64 7) y15) s22 rfl ?_
  intro A d23 s23 hv hr
  have ⟨y0, y2, y5, y6, y7, y13⟩ := k6 hr y0 y2 y5 y6 y7 y13
  have y16 : A.eval (.tmp 16) = .bool q16 := hv.trans (congrArg Value.bool Bq16.symm)
  have d23 := d23.trans d22
  clear hv hr
  refine EngI.tw rfl (run_pick rfl y13 (v := .bool q16) (by exact y16)) s23 d23 fun A d24 s24 y17 hr => ?_
  have ⟨y0, y2, y5, y6, y7⟩ := k5 hr y0 y2 y5 y6 y7
  refine EngI.tail_nil (wp_cond_split y17 (fun hq => ?_) (fun hq => ?_))
  ·
   have c17 := Bq16.symm.trans hq
   clear hq
   have hcn := Evt.cntP_is (p := Evt.isTold) hk0 (by unfold Evt.isTold; rw [hn13]; simpa using c17)
   refine rP [.int .i64 ((Evt.cntP Evt.isTold (List.take k l) : Nat) : Int), .int .i64 (IntKind.i64.wrap (((Evt.cntP Evt.isTold (List.take k l) : Nat) : Int) + 1)), .int .i64 (IntKind.i64.wrap (((Evt.cntP Evt.isTold (List.take k l) : Nat) : Int) + 1))] 3 0 s24 (.c (qq 2 y2) (.c (pv fun a w' H => vr (v := .int .i64 (IntKind.i64.wrap (((Evt.cntP Evt.isTold (List.take k l) : Nat) : Int) + 1))) rfl (ok (.int .i64 1) (H.d 0 18))) (.c (qe 1 19) .nil))) fun A w26 T => ?_
   have ⟨y0, y5, y6, y7⟩ := T.r4 y0 y5 y6 y7
   have y2 := T.u 2 2
   have ⟨d26, s26, bl26⟩ := T.h d24 s24 bl11
   clear T
   refine tail_nil (rP [.int .i64 (IntKind.i64.wrap ((k : Nat) + 1)), .int .i64 (IntKind.i64.wrap ((k : Nat) + 1))] 2 0 s26 (.c (pv fun a w' H => vr (v := .int .i64 (IntKind.i64.wrap ((k : Nat) + 1))) rfl (ok (.int .i64 1) (H.q 7 y7))) (.c (qd 0 20) .nil)) fun A w27 T => ?_)
   have ⟨y0, y2, y5, y6⟩ := T.r4 y0 y2 y5 y6
   have y7 := T.u 1 7
   have ⟨d27, s27, bl27⟩ := T.h d26 s26 bl26
   clear T
   exact tail_nil (⟨_, by omega, k + 1, rfl, by omega, d27, s27, bl27, y0, (y2.trans (by first | rfl | (congr 1; rw [i64_id (by omega) (by omega)]; omega) | (congr 1; omega) | (simp; done))), y5, y6, (y7.trans (by first | rfl | (congr 1; rw [i64_id (by omega) (by omega)]; omega) | (congr 1; omega) | (simp; done)))⟩)
  have c17 := Bq16.symm.trans hq
  clear hq
  have hcn := Evt.cntP_not (p := Evt.isTold) hk0 (by unfold Evt.isTold; rw [hn13]; simpa using c17)
  refine wp_skip (rP [.int .i64 (IntKind.i64.wrap ((k : Nat) + 1)), .int .i64 (IntKind.i64.wrap ((k : Nat) + 1))] 2 0 s24 (.c (pv fun a w' H => vr (v := .int .i64 (IntKind.i64.wrap ((k : Nat) + 1))) rfl (ok (.int .i64 1) (H.q 7 y7))) (.c (qd 0 20) .nil)) fun A w29 T => ?_)
  have ⟨y0, y2, y5, y6⟩ := T.r4 y0 y2 y5 y6
  have y7 := T.u 1 7
  have ⟨d29, s29, bl29⟩ := T.h d24 s24 bl11
  clear T
  exact tail_nil (⟨_, by omega, k + 1, rfl, by omega, d29, s29, bl29, y0, (y2.trans (by first | rfl | (congr 1; rw [i64_id (by omega) (by omega)]; omega) | (congr 1; omega) | (simp; done))), y5, y6, (y7.trans (by first | rfl | (congr 1; rw [i64_id (by omega) (by omega)]; omega) | (congr 1; omega) | (simp; done)))⟩)
 have c8 := Bq8.symm.trans hq
 clear hq
 have c8 := of_decide_eq_false c8
 have hke : k = l.length := by omega
 refine wp_exit (wp_seq ?_)
 refine rP [.int .i64 ((Evt.cntP Evt.isTold (List.take k l) : Nat) : Int), .int .i64 ((Evt.cntP Evt.isTold (List.take k l) : Nat) : Int)] 2 0 s4 (.c (qq 2 y2) (.c (qe 0 21) .nil)) fun A w31 T => ?_
 have y2 := T.u 1 2
 have d31 := T.e d4
 have bl31 := T.b bl4
 clear T
 refine tail_nil (wp_ret ?_)
 repeat (first | with_reducible refine in_ret ?_ | with_reducible refine then_ret ?_)
 exact ret1 rfl d31 (y2.trans (by rw [Evt.cntP_end hke])) ⟨rfl, bl31⟩
end Go.Proofs.YtgnmjaacnmkgnaaDoor.X
end
