/- Words and walks that the row of ComposeRight needs: printed by programs, and plain laws. -/
import Derived.Test.YtgnmjaacnmkgnaaDoorM16
import Derived.Test.YtgnmjaacnmkgnaaDoorM3
namespace Go.Proofs.YtgnmjaacnmkgnaaDoorW.PrintWords
end Go.Proofs.YtgnmjaacnmkgnaaDoorW.PrintWords
namespace Go.Proofs.YtgnmjaacnmkgnaaDoorW.PrintLast
end Go.Proofs.YtgnmjaacnmkgnaaDoorW.PrintLast
namespace Go.Proofs.YtgnmjaacnmkgnaaDoorW.PrintMore
end Go.Proofs.YtgnmjaacnmkgnaaDoorW.PrintMore
section
namespace Go.Proofs.YtgnmjaacnmkgnaaDoor.X
open Go.RowKit Go.Shelf Go.Proofs Go.Proofs.YtgnmjaacnmkgnaaDoorW.PrintWords Go.Proofs.YtgnmjaacnmkgnaaDoorW.PrintLast Go.Proofs.YtgnmjaacnmkgnaaDoorW.PrintMore
set_option linter.unusedVariables false
set_option linter.unusedSimpArgs false
attribute [local go_sem] max2_int min2_int max_two min_two
set_option maxHeartbeats 4000000 in
set_option maxRecDepth 100000 in
theorem Dal.alive_calls  (w : World) (hT : Tabs.Holds w) : Calls Tryd.prog 8 #[] w fun e w' => e = .returned (.bool true) ∧ Below w.heap.size w w' := by
 refine Eng.enter Tryd.func8 rfl fun act0 d0 s0 v0 => ?_
 have s0 : act0.tmps.size = 99 := s0
 clear v0
 have bl0 : Below w.heap.size w w := Below.refl _ _
 refine wp_seq ?_
 refine Eng.rS [.bool false] (fun _ => .plain) 1 0 s0 ?_ ?_
 ·refine .c ?_ (.nil)
  ·exact Eng.pq fun a w' H => Eng.ra (rfl : a.eval (.const (.bool false)) = .bool false)
 intro act1 w1 T
 have ⟨d1, s1, bl1⟩ := T.h d0 s0 bl0
 clear T
 refine Eng.tail_nil (wp_seq ?_)
 refine (wpIn_wide (n := 1)).1 ?_
 refine EngI.regionT (n := 7) rfl ?_
 refine EngI.tv (w1 := w1) (v := .agg #[.int .i64 0, .string ⟨#[]⟩, .string ⟨#[]⟩, .string ⟨#[]⟩, .bool false]) rfl (Eng.o1 (rfl : act1.eval (.const (.int .i64 0)) = .int .i64 0)) s1 ?_
 intro act2 d2 s2 h10_2 hr
 have d2 := d2.trans d1
 refine EngI.tv (w1 := w1) (v := .agg #[.int .i64 2, .string ⟨#[97]⟩, .string ⟨#[]⟩, .string ⟨#[]⟩, .bool false]) rfl (Eng.ok (.string ⟨#[97]⟩) (rfl : act2.eval (.const (.int .i64 2)) = .int .i64 2)) s2 ?_
 intro act3 d3 s3 h11_3 hr
 have h10_3 := Eng.k1 hr h10_2
 have d3 := d3.trans d2
 refine EngI.tv (w1 := w1) (v := .agg #[.int .i64 7, .string ⟨#[97]⟩, .string ⟨#[]⟩, .string ⟨#[]⟩, .bool false]) rfl (Eng.ok (.string ⟨#[97]⟩) (rfl : act3.eval (.const (.int .i64 7)) = .int .i64 7)) s3 ?_
 intro act4 d4 s4 h12_4 hr
 have ⟨h10_4, h11_4⟩ := Eng.k2 hr h10_3 h11_3
 have d4 := d4.trans d3
 refine EngI.tv (w1 := w1) (v := .agg #[.int .i64 3, .string ⟨#[]⟩, .string ⟨#[]⟩, .string ⟨#[]⟩, .bool false]) rfl (Eng.o1 (rfl : act4.eval (.const (.int .i64 3)) = .int .i64 3)) s4 ?_
 intro act5 d5 s5 h13_5 hr
 have ⟨h10_5, h11_5, h12_5⟩ := Eng.k3 hr h10_4 h11_4 h12_4
 have d5 := d5.trans d4
 refine EngI.tv (w1 := w1) (v := .agg #[.int .i64 1, .string ⟨#[]⟩, .string ⟨#[]⟩, .string ⟨#[]⟩, .bool false]) rfl (Eng.o1 (rfl : act5.eval (.const (.int .i64 1)) = .int .i64 1)) s5 ?_
 intro act6 d6 s6 h14_6 hr
 have ⟨h10_6, h11_6, h12_6, h13_6⟩ := Eng.k4 hr h10_5 h11_5 h12_5 h13_5
 have d6 := d6.trans d5
 refine EngI.tail_ex EngI.free_wide rfl rfl rfl rfl (Eng.build_own (B := w.heap.size) (size := 5) (z := .agg #[.int .i64 0, .string ⟨#[]⟩, .string ⟨#[]⟩, .string ⟨#[]⟩, .bool false]) (us := Evt.cells Dal.l1) [(0, .agg #[.int .i64 0, .string ⟨#[]⟩, .string ⟨#[]⟩, .string ⟨#[]⟩, .bool false]), (1, .agg #[.int .i64 2, .string ⟨#[97]⟩, .string ⟨#[]⟩, .string ⟨#[]⟩, .bool false]), (2, .agg #[.int .i64 7, .string ⟨#[97]⟩, .string ⟨#[]⟩, .string ⟨#[]⟩, .bool false]), (3, .agg #[.int .i64 3, .string ⟨#[]⟩, .string ⟨#[]⟩, .string ⟨#[]⟩, .bool false]), (4, .agg #[.int .i64 1, .string ⟨#[]⟩, .string ⟨#[]⟩, .string ⟨#[]⟩, .bool false])] rfl Tryd.underlying37 (by kernel_rfl) (by have e0 : act6.eval (.tmp 10) = .agg #[.int .i64 0, .string ⟨#[]⟩, .string ⟨#[]⟩, .string ⟨#[]⟩, .bool false] := h10_6; have e1 : act6.eval (.tmp 11) = .agg #[.int .i64 2, .string ⟨#[97]⟩, .string ⟨#[]⟩, .string ⟨#[]⟩, .bool false] := h11_6; have e2 : act6.eval (.tmp 12) = .agg #[.int .i64 7, .string ⟨#[97]⟩, .string ⟨#[]⟩, .string ⟨#[]⟩, .bool false] := h12_6; have e3 : act6.eval (.tmp 13) = .agg #[.int .i64 3, .string ⟨#[]⟩, .string ⟨#[]⟩, .string ⟨#[]⟩, .bool false] := h13_6; have e4 : act6.eval (.tmp 14) = .agg #[.int .i64 1, .string ⟨#[]⟩, .string ⟨#[]⟩, .string ⟨#[]⟩, .bool false] := h14_6; simp only [List.map_toArray, List.map_cons, List.map_nil, e0, e1, e2, e3, e4]) rfl (by kernel_rfl) rfl rfl rfl bl1.size) s6 rfl fun v_7 w7 act7 R d7 s7 h15_7 hr => ?_
 obtain ⟨O_7, b_7⟩ := R
 have d7 := d7.trans d6
 have bl7 := bl1.trans (b_7.mono bl1.size)
 have F_7 := Eng.Reads.of_own O_7
 refine EngI.tv rfl (Eng.ra h15_7) s7 fun act8 d8 s8 h1_8 hr => ?_
 have d8 := d8.trans d7
 refine EngI.tail_nil ?_
 refine wp_seq ?_
 refine (wpIn_wide (n := 1)).1 ?_
 refine EngI.regionT (n := 7) rfl ?_
 refine EngI.tv rfl (Eng.rv h1_8) s8 fun act9 d9 s9 h17_9 hr => ?_
 have h1_9 := Eng.k1 hr h1_8
 have d9 := d9.trans d8
 refine EngI.tail_call EngI.free_wide Tryd.func12 (by kernel_rfl) (by kernel_rfl) rfl rfl rfl rfl #[v_7] (by have e0 : act9.eval (.tmp 17) = v_7 := h17_9; simp only [List.map_toArray, List.map_cons, List.map_nil, e0]) s9 rfl (R := fun v w' => ∃ outv fin, v = .tuple #[outv, .int .i64 (Dc.graphsF Dal.l1).2] ∧ List.map (·.1) fin = (Dc.graphsF Dal.l1).1 ∧ w'.ownsRow w7.heap.size 48 1 outv fin.length (List.map (·.2) fin) ∧ (∀ f ∈ fin, Dc.Fin w7 w' f (fun _ => False)) ∧ Below w7.heap.size w7 w') ((Dc.Graphs_calls v_7 Dal.l1 _ (Tabs.below hT bl7) F_7 (by decide) Dal.sz1 Dal.az1 Dal.tw1).mono ?_) fun v_10 w10 act10 R d10 s10 h18_10 hr => ?_
 ·rintro e w1 ⟨o1, f1, rfl, r1⟩; exact ⟨_, rfl, o1, f1, rfl, r1⟩
 have h1_10 := Eng.k1 hr h1_9
 have d10 := d10.trans d9
 obtain ⟨outv1, fin1, ev_10, hm10, Oo10, hF10, b_10⟩ := R
 rw [ev_10, Dal.g1] at h18_10
 rw [Dal.g1] at hm10
 obtain ⟨gv1, rfl⟩ := Dal.fin_one hm10
 obtain ⟨hh1, op1, nm1, ov1, mb1, hm1, R1, _⟩ := hF10 _ (List.mem_singleton.2 rfl)
 obtain ⟨kv1, rfl⟩ := Dal.h_one hm1
 have Oo1 : w10.ownsRow w7.heap.size 48 1 outv1 1 [gv1] := Oo10
 have Og1 : w10.ownsRow w7.heap.size 57 4 gv1 1 (Dc.cells [(Dal.nd, kv1)]) := R1.gr
 have Ok1 : w10.ownsRow w7.heap.size 3 1 kv1 1 (Dc.ints [0]) := R1.ks 0 (Nat.lt_succ_self 0)
 have Fl_10 := Eng.Reads.below F_7 b_10
 have Ol_10 := Eng.own_below O_7 b_10
 have bl10 := bl7.trans (b_10.mono bl7.size)
 refine EngI.tv rfl (Eng.rv h18_10) s10 fun act11 d11 s11 h16_11 hr => ?_
 have h1_11 := Eng.k1 hr h1_10
 have d11 := d11.trans d10
 refine EngI.tv (w1 := w10) (v := outv1) rfl (Eng.o1 h16_11) s11 ?_
 intro act12 d12 s12 h19_12 hr
 have ⟨h1_12, h16_12⟩ := Eng.k2 hr h1_11 h16_11
 have d12 := d12.trans d11
 refine EngI.tv (w1 := w10) (v := .int .i64 0) rfl (Eng.o1 h16_12) s12 ?_
 intro act13 d13 s13 h20_13 hr
 have ⟨h1_13, h19_13⟩ := Eng.k2 hr h1_12 h19_12
 have d13 := d13.trans d12
 refine EngI.tv rfl (Eng.ra h19_13) s13 fun act14 d14 s14 h2_14 hr => ?_
 have ⟨h1_14, h20_14⟩ := Eng.k2 hr h1_13 h20_13
 have d14 := d14.trans d13
 refine EngI.tv rfl (Eng.ra h20_14) s14 fun act15 d15 s15 h3_15 hr => ?_
 have ⟨h1_15, h2_15⟩ := Eng.k2 hr h1_14 h2_14
 have d15 := d15.trans d14
 refine EngI.tail_nil ?_
 refine wp_seq ?_
 refine (wpIn_wide (n := 1)).1 ?_
 refine EngI.regionT (n := 4) rfl ?_
 refine EngI.tv rfl (Eng.rv h1_15) s15 fun act16 d16 s16 h21_16 hr => ?_
 have ⟨h1_16, h2_16, h3_16⟩ := Eng.k3 hr h1_15 h2_15 h3_15
 have d16 := d16.trans d15
 refine EngI.tv (w1 := w10) (v := Eng.elemPtr v_7 (2 * 5)) rfl ?_ s16 ?_
 ·exact Eng.run_index_sl rfl Tryd.underlying37 (by kernel_rfl) (show act16.eval (.tmp 21) = v_7 from h21_16) ((show act16.eval (.const (.int .i64 2)) = .int .i64 2 from (rfl : act16.eval (.const (.int .i64 2)) = .int .i64 2)).trans (congrArg (Value.int _) (show 2 = ((2 : Nat) : Int) from by first | rfl | decide))) Fl_10 (by first | rfl | decide) rfl
 intro act17 d17 s17 h22_17 hr
 have ⟨h1_17, h2_17, h3_17⟩ := Eng.k3 hr h1_16 h2_16 h3_16
 have d17 := d17.trans d16
 refine EngI.tv (w1 := w10) (v := Eng.elemPtr v_7 (2 * 5 + 1)) rfl ?_ s17 ?_
 ·exact Eng.run_field_el rfl Tryd.underlying30 1 (by kernel_rfl) (show act17.eval (.tmp 22) = Eng.elemPtr v_7 (2 * 5) from h22_17) Fl_10 (by have h_ : 2 < 5 := (by first | rfl | decide); omega)
 intro act18 d18 s18 h23_18 hr
 have ⟨h1_18, h2_18, h3_18⟩ := Eng.k3 hr h1_17 h2_17 h3_17
 have d18 := d18.trans d17
 refine EngG.tail_exs EngI.free_wide rfl rfl rfl rfl (Eng.run_store_own (j := 2 * 5 + 1) (u := .string ⟨#[98]⟩) rfl (show act18.eval (.tmp 23) = Eng.elemPtr v_7 (2 * 5 + 1) from h23_18) (rfl : act18.eval (.const (.string ⟨#[98]⟩)) = .string ⟨#[98]⟩) Ol_10 (by have h_ : 2 < 5 := (by first | rfl | decide); omega) (by kernel_rfl) (by rfl)) fun w19 R => ?_
 obtain ⟨O_19, G_19⟩ := R
 have bl19 := bl10.grown G_19 bl10.size (fun j hj => (Eng.ownB Ol_10 hj.symm).1)
 have Oo1_19 := Dal.kept30 Oo1 Ol_10 rfl G_19
 have Fo1_19 := Eng.Reads.of_own Oo1_19
 have Og1_19 := Dal.kept30 Og1 Ol_10 rfl G_19
 have Fg1_19 := Eng.Reads.of_own Og1_19
 have Ok1_19 := Dal.kept30 Ok1 Ol_10 rfl G_19
 have Fk1_19 := Eng.Reads.of_own Ok1_19
 have Ol_19 : w19.ownsRow _ 30 5 v_7 5 (Evt.cells Dal.l2) := O_19
 have Fl_19 := Eng.Reads.of_own Ol_19
 refine EngI.tail_nil ?_
 refine wp_seq ?_
 refine (wpIn_wide (n := 1)).1 ?_
 refine EngI.regionT (n := 7) rfl ?_
 refine EngI.tv rfl (Eng.rv h1_18) s18 fun act20 d20 s20 h25_20 hr => ?_
 have ⟨h2_20, h3_20⟩ := Eng.k2 hr h2_18 h3_18
 have d20 := d20.trans d18
 refine EngI.tail_call EngI.free_wide Tryd.func12 (by kernel_rfl) (by kernel_rfl) rfl rfl rfl rfl #[v_7] (by have e0 : act20.eval (.tmp 25) = v_7 := h25_20; simp only [List.map_toArray, List.map_cons, List.map_nil, e0]) s20 rfl (R := fun v w' => ∃ outv fin, v = .tuple #[outv, .int .i64 (Dc.graphsF Dal.l2).2] ∧ List.map (·.1) fin = (Dc.graphsF Dal.l2).1 ∧ w'.ownsRow w19.heap.size 48 1 outv fin.length (List.map (·.2) fin) ∧ (∀ f ∈ fin, Dc.Fin w19 w' f (fun _ => False)) ∧ Below w19.heap.size w19 w') ((Dc.Graphs_calls v_7 Dal.l2 _ (Tabs.below hT bl19) Fl_19 (by decide) Dal.sz2 Dal.az2 Dal.tw2).mono ?_) fun v_21 w21 act21 R d21 s21 h26_21 hr => ?_
 ·rintro e w1 ⟨o1, f1, rfl, r1⟩; exact ⟨_, rfl, o1, f1, rfl, r1⟩
 have ⟨h2_21, h3_21⟩ := Eng.k2 hr h2_20 h3_20
 have d21 := d21.trans d20
 obtain ⟨outv2, fin2, ev_21, hm21, Oo21, hF21, b_21⟩ := R
 rw [ev_21, Dal.g2] at h26_21
 have Fo1_21 := Eng.Reads.below Fo1_19 b_21
 have Fg1_21 := Eng.Reads.below Fg1_19 b_21
 have Fk1_21 := Eng.Reads.below Fk1_19 b_21
 have bl21 := bl19.trans (b_21.mono bl19.size)
 refine EngI.tv rfl (Eng.rv h26_21) s21 fun act22 d22 s22 h24_22 hr => ?_
 have ⟨h2_22, h3_22⟩ := Eng.k2 hr h2_21 h3_21
 have d22 := d22.trans d21
 refine EngI.tv (w1 := w21) (v := outv2) rfl (Eng.o1 h24_22) s22 ?_
 intro act23 d23 s23 h27_23 hr
 have ⟨h2_23, h3_23, h24_23⟩ := Eng.k3 hr h2_22 h3_22 h24_22
 have d23 := d23.trans d22
 refine EngI.tv (w1 := w21) (v := .int .i64 11) rfl (Eng.o1 h24_23) s23 ?_
 intro act24 d24 s24 h28_24 hr
 have ⟨h2_24, h3_24, h27_24⟩ := Eng.k3 hr h2_23 h3_23 h27_23
 have d24 := d24.trans d23
 refine EngI.tv rfl (Eng.ra h27_24) s24 fun act25 d25 s25 hv hr => ?_
 have ⟨h2_25, h3_25, h28_25⟩ := Eng.k3 hr h2_24 h3_24 h28_24
 have d25 := d25.trans d24
 clear hv hr
 refine EngI.tv rfl (Eng.ra h28_25) s25 fun act26 d26 s26 h5_26 hr => ?_
 have ⟨h2_26, h3_26⟩ := Eng.k2 hr h2_25 h3_25
 have d26 := d26.trans d25
 refine EngI.tail_nil ?_
 refine wp_seq ?_
 refine (wpIn_wide (n := 1)).1 ?_
 refine EngI.regionT (n := 7) rfl ?_
 refine EngI.tv (w1 := w21) (v := .agg #[.int .i64 6, .string ⟨#[]⟩, .string ⟨#[]⟩, .string ⟨#[53]⟩, .bool true]) rfl ?_ s26 ?_
 ·have e0 : act26.eval (.const (.int .i64 6)) = .int .i64 6 := rfl
  have e1 : act26.eval (.const (.string ⟨#[53]⟩)) = .string ⟨#[53]⟩ := rfl
  have e2 : act26.eval (.const (.bool true)) = .bool true := rfl
  simp only [execOp, resolve, e0, e1, e2]
  go_simp
 intro act27 d27 s27 h30_27 hr
 have ⟨h2_27, h3_27, h5_27⟩ := Eng.k3 hr h2_26 h3_26 h5_26
 have d27 := d27.trans d26
 refine EngI.tail_call EngI.free_wide Tryd.func10 (by kernel_rfl) (by kernel_rfl) rfl rfl rfl rfl #[.agg #[.int .i64 6, .string ⟨#[]⟩, .string ⟨#[]⟩, .string ⟨#[53]⟩, .bool true]] (by have e0 : act27.eval (.tmp 30) = .agg #[.int .i64 6, .string ⟨#[]⟩, .string ⟨#[]⟩, .string ⟨#[53]⟩, .bool true] := h30_27; simp only [List.map_toArray, List.map_cons, List.map_nil, e0]) s27 rfl (R := fun v w_ => v = .tuple #[.string ⟨#[105, 110, 116]⟩, .int .i64 0] ∧ Below w21.heap.size w21 w_) ((Dal.tagc1 _).mono ?_) fun v_28 w28 act28 R d28 s28 hv hr => ?_
 ·rintro e w_ ⟨rfl, hb⟩; exact ⟨_, rfl, rfl, hb⟩
 obtain ⟨ev_28, b_28⟩ := R
 have ⟨h2_28, h3_28, h5_28⟩ := Eng.k3 hr h2_27 h3_27 h5_27
 have h31_28 : act28.eval (.tmp 31) = .tuple #[.string ⟨#[105, 110, 116]⟩, .int .i64 0] := (hv.trans ev_28)
 have d28 := d28.trans d27
 clear hv hr
 have Fo1_28 := Eng.Reads.below Fo1_21 b_28
 have Fg1_28 := Eng.Reads.below Fg1_21 b_28
 have Fk1_28 := Eng.Reads.below Fk1_21 b_28
 have bl28 := bl21.trans (b_28.mono bl21.size)
 refine EngI.tv rfl (Eng.rv h31_28) s28 fun act29 d29 s29 h29_29 hr => ?_
 have ⟨h2_29, h3_29, h5_29⟩ := Eng.k3 hr h2_28 h3_28 h5_28
 have d29 := d29.trans d28
 refine EngI.tv (w1 := w28) (v := .string ⟨#[105, 110, 116]⟩) rfl (Eng.o1 h29_29) s29 ?_
 intro act30 d30 s30 h32_30 hr
 have ⟨h2_30, h3_30, h5_30, h29_30⟩ := Eng.k4 hr h2_29 h3_29 h5_29 h29_29
 have d30 := d30.trans d29
 refine EngI.tv (w1 := w28) (v := .int .i64 0) rfl (Eng.o1 h29_30) s30 ?_
 intro act31 d31 s31 h33_31 hr
 have ⟨h2_31, h3_31, h5_31, h32_31⟩ := Eng.k4 hr h2_30 h3_30 h5_30 h32_30
 have d31 := d31.trans d30
 refine EngI.tv rfl (Eng.ra h32_31) s31 fun act32 d32 s32 h6_32 hr => ?_
 have ⟨h2_32, h3_32, h5_32, h33_32⟩ := Eng.k4 hr h2_31 h3_31 h5_31 h33_31
 have d32 := d32.trans d31
 refine EngI.tv rfl (Eng.ra h33_32) s32 fun act33 d33 s33 h7_33 hr => ?_
 have ⟨h2_33, h3_33, h5_33, h6_33⟩ := Eng.k4 hr h2_32 h3_32 h5_32 h6_32
 have d33 := d33.trans d32
 refine EngI.tail_nil ?_
 refine wp_seq ?_
 refine (wpIn_wide (n := 1)).1 ?_
 refine EngI.regionT (n := 7) rfl ?_
 refine EngI.tv (w1 := w28) (v := .agg #[.int .i64 6, .string ⟨#[]⟩, .string ⟨#[105, 110, 116]⟩, .string ⟨#[120]⟩, .bool false]) rfl ?_ s33 ?_
 ·have e0 : act33.eval (.const (.int .i64 6)) = .int .i64 6 := rfl
  have e1 : act33.eval (.const (.string ⟨#[105, 110, 116]⟩)) = .string ⟨#[105, 110, 116]⟩ := rfl
  have e2 : act33.eval (.const (.string ⟨#[120]⟩)) = .string ⟨#[120]⟩ := rfl
  simp only [execOp, resolve, e0, e1, e2]
  go_simp
 intro act34 d34 s34 h35_34 hr
 have ⟨h2_34, h3_34, h5_34, h6_34, h7_34⟩ := Eng.k5 hr h2_33 h3_33 h5_33 h6_33 h7_33
 have d34 := d34.trans d33
 refine EngI.tail_call EngI.free_wide Tryd.func10 (by kernel_rfl) (by kernel_rfl) rfl rfl rfl rfl #[.agg #[.int .i64 6, .string ⟨#[]⟩, .string ⟨#[105, 110, 116]⟩, .string ⟨#[120]⟩, .bool false]] (by have e0 : act34.eval (.tmp 35) = .agg #[.int .i64 6, .string ⟨#[]⟩, .string ⟨#[105, 110, 116]⟩, .string ⟨#[120]⟩, .bool false] := h35_34; simp only [List.map_toArray, List.map_cons, List.map_nil, e0]) s34 rfl (R := fun v w_ => v = .tuple #[.string ⟨#[]⟩, .int .i64 14] ∧ Below w28.heap.size w28 w_) ((Dal.tagc2 _).mono ?_) fun v_35 w35 act35 R d35 s35 hv hr => ?_
 ·rintro e w_ ⟨rfl, hb⟩; exact ⟨_, rfl, rfl, hb⟩
 obtain ⟨ev_35, b_35⟩ := R
 have ⟨h2_35, h3_35, h5_35, h6_35, h7_35⟩ := Eng.k5 hr h2_34 h3_34 h5_34 h6_34 h7_34
 have h36_35 : act35.eval (.tmp 36) = .tuple #[.string ⟨#[]⟩, .int .i64 14] := (hv.trans ev_35)
 have d35 := d35.trans d34
 clear hv hr
 have Fo1_35 := Eng.Reads.below Fo1_28 b_35
 have Fg1_35 := Eng.Reads.below Fg1_28 b_35
 have Fk1_35 := Eng.Reads.below Fk1_28 b_35
 have bl35 := bl28.trans (b_35.mono bl28.size)
 refine EngI.tv rfl (Eng.rv h36_35) s35 fun act36 d36 s36 h34_36 hr => ?_
 have ⟨h2_36, h3_36, h5_36, h6_36, h7_36⟩ := Eng.k5 hr h2_35 h3_35 h5_35 h6_35 h7_35
 have d36 := d36.trans d35
 refine EngI.tv (w1 := w35) (v := .string ⟨#[]⟩) rfl (Eng.o1 h34_36) s36 ?_
 intro act37 d37 s37 h37_37 hr
 have ⟨h2_37, h3_37, h5_37, h6_37, h7_37, h34_37⟩ := Eng.k6 hr h2_36 h3_36 h5_36 h6_36 h7_36 h34_36
 have d37 := d37.trans d36
 refine EngI.tv (w1 := w35) (v := .int .i64 14) rfl (Eng.o1 h34_37) s37 ?_
 intro act38 d38 s38 h38_38 hr
 have ⟨h2_38, h3_38, h5_38, h6_38, h7_38, h37_38⟩ := Eng.k6 hr h2_37 h3_37 h5_37 h6_37 h7_37 h37_37
 have d38 := d38.trans d37
 refine EngI.tv rfl (Eng.ra h37_38) s38 fun act39 d39 s39 hv hr => ?_
 have ⟨h2_39, h3_39, h5_39, h6_39, h7_39, h38_39⟩ := Eng.k6 hr h2_38 h3_38 h5_38 h6_38 h7_38 h38_38
 have d39 := d39.trans d38
 clear hv hr
 refine EngI.tv rfl (Eng.ra h38_39) s39 fun act40 d40 s40 h9_40 hr => ?_
 have ⟨h2_40, h3_40, h5_40, h6_40, h7_40⟩ := Eng.k5 hr h2_39 h3_39 h5_39 h6_39 h7_39
 have d40 := d40.trans d39
 refine EngI.tail_nil ?_
 refine wp_seq ?_
 refine Eng.rS [outv1, .int .i64 (1 : Int), .bool true, .bool true, outv1, Eng.elemPtr outv1 (0 * 1), gv1, .int .i64 (1 : Int), .bool true, .bool true, .bool true, outv1, Eng.elemPtr outv1 (0 * 1), gv1, Eng.elemPtr gv1 (0 * 4), Eng.elemPtr gv1 (0 * 4 + 3), kv1, .int .i64 (1 : Int), .bool true, .bool true, .bool true, outv1, Eng.elemPtr outv1 (0 * 1), gv1, Eng.elemPtr gv1 (0 * 4), Eng.elemPtr gv1 (0 * 4 + 3), kv1, Eng.elemPtr kv1 (0 * 1), .int .i64 0, .bool true, .bool true, .bool true, outv1, Eng.elemPtr outv1 (0 * 1), gv1, Eng.elemPtr gv1 (0 * 4), Eng.elemPtr gv1 (0 * 4 + 1), .string ⟨#[115, 101, 113]⟩, .bool true, .bool true, .bool true, .int .i64 0, .bool true, .bool true, .bool true, .int .i64 11, .bool true, .bool true, .bool true, .string ⟨#[105, 110, 116]⟩, .bool true, .bool true, .bool true, .int .i64 0, .bool true, .bool true, .bool true, .int .i64 14, .bool true, .bool true, .bool true] (fun _ => .plain) 61 0 s40 ?_ ?_
 ·refine .c ?_ (.c ?_ (.c ?_ (.c ?_ (.c ?_ (.c ?_ (.c ?_ (.c ?_ (.c ?_ (.c ?_ (.c ?_ (.c ?_ (.c ?_ (.c ?_ (.c ?_ (.c ?_ (.c ?_ (.c ?_ (.c ?_ (.c ?_ (.c ?_ (.c ?_ (.c ?_ (.c ?_ (.c ?_ (.c ?_ (.c ?_ (.c ?_ (.c ?_ (.c ?_ (.c ?_ (.c ?_ (.c ?_ (.c ?_ (.c ?_ (.c ?_ (.c ?_ (.c ?_ (.c ?_ (.c ?_ (.c ?_ (.c ?_ (.c ?_ (.c ?_ (.c ?_ (.c ?_ (.c ?_ (.c ?_ (.c ?_ (.c ?_ (.c ?_ (.c ?_ (.c ?_ (.c ?_ (.c ?_ (.c ?_ (.c ?_ (.c ?_ (.c ?_ (.c ?_ (.c ?_ (.nil)))))))))))))))))))))))))))))))))))))))))))))))))))))))))))))
  ·exact Eng.pq fun a w' H => Eng.rv (H.q 2 h2_40)
  ·exact Eng.pv fun a w' H => Eng.vr (v := .int .i64 (1 : Int)) rfl (Eng.run_len_sl rfl Tryd.underlying34 (show a.eval (.tmp 39) = outv1 from (H.d 0 39)) (Eng.Reads.below Fo1_35 H.below))
  ·refine Eng.pv fun a w' H => ?_
   exact Eng.vr (v := .bool ((1 : Int) == 1)) (by show _ = Value.bool true; rw [show ((1 : Int) == 1) = true from beq_self_eq_true _]) (Eng.ok (.int .i64 1) (H.d 1 40))
  ·exact Eng.pq fun a w' H => Eng.rv (H.d 2 41)
  ·refine Eng.gT 3 42 fun a w' H => ?_
   exact Eng.val (w1 := w') (v := outv1) (Eng.rv (H.q 2 h2_40)) (Below.refl _ _) rfl
  ·refine Eng.gT 3 42 fun a w' H => ?_
   refine Eng.vr (v := Eng.elemPtr outv1 (0 * 1)) rfl ?_
   exact Eng.run_index_sl rfl Tryd.underlying34 (by kernel_rfl) (show a.eval (.tmp 43) = outv1 from (H.d 4 43)) ((show a.eval (.const (.int .i64 0)) = .int .i64 0 from (rfl : a.eval (.const (.int .i64 0)) = .int .i64 0)).trans (congrArg (Value.int _) (show 0 = ((0 : Nat) : Int) from by first | rfl | decide))) (Eng.Reads.below Fo1_35 H.below) (by first | rfl | decide) rfl
  ·refine Eng.gT 3 42 fun a w' H => ?_
   refine Eng.vr (v := gv1) rfl ?_
   exact Eng.run_load_el (gv1) rfl (show a.eval (.tmp 44) = Eng.elemPtr outv1 (0 * 1) from (H.d 5 44)) (Eng.Reads.below Fo1_35 H.below) (rfl) (by kernel_rfl)
  ·refine Eng.gT 3 42 fun a w' H => ?_
   refine Eng.vr (v := .int .i64 (1 : Int)) rfl ?_
   exact Eng.run_len_sl rfl Tryd.underlying48 (show a.eval (.tmp 45) = gv1 from (H.d 6 45)) (Eng.Reads.below Fg1_35 H.below)
  ·refine Eng.gT 3 42 fun a w' H => ?_
   exact Eng.vr (v := .bool ((1 : Int) == 1)) (by show _ = Value.bool true; rw [show ((1 : Int) == 1) = true from beq_self_eq_true _]) (Eng.ok (.int .i64 1) (H.d 7 46))
  ·exact Eng.pq fun a w' H => Eng.run_and rfl rfl (G := true) (H.d 3 42) (fun hb => (H.d 8 47))
  ·exact Eng.pq fun a w' H => Eng.rv (H.d 9 48)
  ·refine Eng.gT 10 49 fun a w' H => ?_
   exact Eng.val (w1 := w') (v := outv1) (Eng.rv (H.q 2 h2_40)) (Below.refl _ _) rfl
  ·refine Eng.gT 10 49 fun a w' H => ?_
   refine Eng.vr (v := Eng.elemPtr outv1 (0 * 1)) rfl ?_
   exact Eng.run_index_sl rfl Tryd.underlying34 (by kernel_rfl) (show a.eval (.tmp 50) = outv1 from (H.d 11 50)) ((show a.eval (.const (.int .i64 0)) = .int .i64 0 from (rfl : a.eval (.const (.int .i64 0)) = .int .i64 0)).trans (congrArg (Value.int _) (show 0 = ((0 : Nat) : Int) from by first | rfl | decide))) (Eng.Reads.below Fo1_35 H.below) (by first | rfl | decide) rfl
  ·refine Eng.gT 10 49 fun a w' H => ?_
   refine Eng.vr (v := gv1) rfl ?_
   exact Eng.run_load_el (gv1) rfl (show a.eval (.tmp 51) = Eng.elemPtr outv1 (0 * 1) from (H.d 12 51)) (Eng.Reads.below Fo1_35 H.below) (rfl) (by kernel_rfl)
  ·refine Eng.gT 10 49 fun a w' H => ?_
   refine Eng.vr (v := Eng.elemPtr gv1 (0 * 4)) rfl ?_
   exact Eng.run_index_sl rfl Tryd.underlying48 (by kernel_rfl) (show a.eval (.tmp 52) = gv1 from (H.d 13 52)) ((show a.eval (.const (.int .i64 0)) = .int .i64 0 from (rfl : a.eval (.const (.int .i64 0)) = .int .i64 0)).trans (congrArg (Value.int _) (show 0 = ((0 : Nat) : Int) from by first | rfl | decide))) (Eng.Reads.below Fg1_35 H.below) (by first | rfl | decide) rfl
  ·refine Eng.gT 10 49 fun a w' H => ?_
   refine Eng.vr (v := Eng.elemPtr gv1 (0 * 4 + 3)) rfl ?_
   exact Eng.run_field_el rfl Tryd.underlying57 3 (by kernel_rfl) (show a.eval (.tmp 53) = Eng.elemPtr gv1 (0 * 4) from (H.d 14 53)) (Eng.Reads.below Fg1_35 H.below) (by have h_ : 0 < 1 := (by first | rfl | decide); omega)
  ·refine Eng.gT 10 49 fun a w' H => ?_
   refine Eng.vr (v := kv1) rfl ?_
   exact Eng.run_load_el (kv1) rfl (show a.eval (.tmp 54) = Eng.elemPtr gv1 (0 * 4 + 3) from (H.d 15 54)) (Eng.Reads.below Fg1_35 H.below) (rfl) (by kernel_rfl)
  ·refine Eng.gT 10 49 fun a w' H => ?_
   refine Eng.vr (v := .int .i64 (1 : Int)) rfl ?_
   exact Eng.run_len_sl rfl Tryd.underlying55 (show a.eval (.tmp 55) = kv1 from (H.d 16 55)) (Eng.Reads.below Fk1_35 H.below)
  ·refine Eng.gT 10 49 fun a w' H => ?_
   exact Eng.vr (v := .bool ((1 : Int) == 1)) (by show _ = Value.bool true; rw [show ((1 : Int) == 1) = true from beq_self_eq_true _]) (Eng.ok (.int .i64 1) (H.d 17 56))
  ·exact Eng.pq fun a w' H => Eng.run_and rfl rfl (G := true) (H.d 10 49) (fun hb => (H.d 18 57))
  ·exact Eng.pq fun a w' H => Eng.rv (H.d 19 58)
  ·refine Eng.gT 20 59 fun a w' H => ?_
   exact Eng.val (w1 := w') (v := outv1) (Eng.rv (H.q 2 h2_40)) (Below.refl _ _) rfl
  ·refine Eng.gT 20 59 fun a w' H => ?_
   refine Eng.vr (v := Eng.elemPtr outv1 (0 * 1)) rfl ?_
   exact Eng.run_index_sl rfl Tryd.underlying34 (by kernel_rfl) (show a.eval (.tmp 60) = outv1 from (H.d 21 60)) ((show a.eval (.const (.int .i64 0)) = .int .i64 0 from (rfl : a.eval (.const (.int .i64 0)) = .int .i64 0)).trans (congrArg (Value.int _) (show 0 = ((0 : Nat) : Int) from by first | rfl | decide))) (Eng.Reads.below Fo1_35 H.below) (by first | rfl | decide) rfl
  ·refine Eng.gT 20 59 fun a w' H => ?_
   refine Eng.vr (v := gv1) rfl ?_
   exact Eng.run_load_el (gv1) rfl (show a.eval (.tmp 61) = Eng.elemPtr outv1 (0 * 1) from (H.d 22 61)) (Eng.Reads.below Fo1_35 H.below) (rfl) (by kernel_rfl)
  ·refine Eng.gT 20 59 fun a w' H => ?_
   refine Eng.vr (v := Eng.elemPtr gv1 (0 * 4)) rfl ?_
   exact Eng.run_index_sl rfl Tryd.underlying48 (by kernel_rfl) (show a.eval (.tmp 62) = gv1 from (H.d 23 62)) ((show a.eval (.const (.int .i64 0)) = .int .i64 0 from (rfl : a.eval (.const (.int .i64 0)) = .int .i64 0)).trans (congrArg (Value.int _) (show 0 = ((0 : Nat) : Int) from by first | rfl | decide))) (Eng.Reads.below Fg1_35 H.below) (by first | rfl | decide) rfl
  ·refine Eng.gT 20 59 fun a w' H => ?_
   refine Eng.vr (v := Eng.elemPtr gv1 (0 * 4 + 3)) rfl ?_
   exact Eng.run_field_el rfl Tryd.underlying57 3 (by kernel_rfl) (show a.eval (.tmp 63) = Eng.elemPtr gv1 (0 * 4) from (H.d 24 63)) (Eng.Reads.below Fg1_35 H.below) (by have h_ : 0 < 1 := (by first | rfl | decide); omega)
  ·refine Eng.gT 20 59 fun a w' H => ?_
   refine Eng.vr (v := kv1) rfl ?_
   exact Eng.run_load_el (kv1) rfl (show a.eval (.tmp 64) = Eng.elemPtr gv1 (0 * 4 + 3) from (H.d 25 64)) (Eng.Reads.below Fg1_35 H.below) (rfl) (by kernel_rfl)
  ·refine Eng.gT 20 59 fun a w' H => ?_
   refine Eng.vr (v := Eng.elemPtr kv1 (0 * 1)) rfl ?_
   exact Eng.run_index_sl rfl Tryd.underlying55 (by kernel_rfl) (show a.eval (.tmp 65) = kv1 from (H.d 26 65)) ((show a.eval (.const (.int .i64 0)) = .int .i64 0 from (rfl : a.eval (.const (.int .i64 0)) = .int .i64 0)).trans (congrArg (Value.int _) (show 0 = ((0 : Nat) : Int) from by first | rfl | decide))) (Eng.Reads.below Fk1_35 H.below) (by first | rfl | decide) rfl
  ·refine Eng.gT 20 59 fun a w' H => ?_
   refine Eng.vr (v := .int .i64 0) rfl ?_
   exact Eng.run_load_el (.int .i64 0) rfl (show a.eval (.tmp 66) = Eng.elemPtr kv1 (0 * 1) from (H.d 27 66)) (Eng.Reads.below Fk1_35 H.below) (rfl) (by kernel_rfl)
  ·refine Eng.gT 20 59 fun a w' H => ?_
   exact Eng.vr (v := .bool (0 == 0)) (by show _ = Value.bool true; rw [show (0 == 0) = true from beq_self_eq_true _]) (Eng.ok (.int .i64 0) (H.d 28 67))
  ·exact Eng.pq fun a w' H => Eng.run_and rfl rfl (G := true) (H.d 20 59) (fun hb => (H.d 29 68))
  ·exact Eng.pq fun a w' H => Eng.rv (H.d 30 69)
  ·refine Eng.gT 31 70 fun a w' H => ?_
   exact Eng.val (w1 := w') (v := outv1) (Eng.rv (H.q 2 h2_40)) (Below.refl _ _) rfl
  ·refine Eng.gT 31 70 fun a w' H => ?_
   refine Eng.vr (v := Eng.elemPtr outv1 (0 * 1)) rfl ?_
   exact Eng.run_index_sl rfl Tryd.underlying34 (by kernel_rfl) (show a.eval (.tmp 71) = outv1 from (H.d 32 71)) ((show a.eval (.const (.int .i64 0)) = .int .i64 0 from (rfl : a.eval (.const (.int .i64 0)) = .int .i64 0)).trans (congrArg (Value.int _) (show 0 = ((0 : Nat) : Int) from by first | rfl | decide))) (Eng.Reads.below Fo1_35 H.below) (by first | rfl | decide) rfl
  ·refine Eng.gT 31 70 fun a w' H => ?_
   refine Eng.vr (v := gv1) rfl ?_
   exact Eng.run_load_el (gv1) rfl (show a.eval (.tmp 72) = Eng.elemPtr outv1 (0 * 1) from (H.d 33 72)) (Eng.Reads.below Fo1_35 H.below) (rfl) (by kernel_rfl)
  ·refine Eng.gT 31 70 fun a w' H => ?_
   refine Eng.vr (v := Eng.elemPtr gv1 (0 * 4)) rfl ?_
   exact Eng.run_index_sl rfl Tryd.underlying48 (by kernel_rfl) (show a.eval (.tmp 73) = gv1 from (H.d 34 73)) ((show a.eval (.const (.int .i64 0)) = .int .i64 0 from (rfl : a.eval (.const (.int .i64 0)) = .int .i64 0)).trans (congrArg (Value.int _) (show 0 = ((0 : Nat) : Int) from by first | rfl | decide))) (Eng.Reads.below Fg1_35 H.below) (by first | rfl | decide) rfl
  ·refine Eng.gT 31 70 fun a w' H => ?_
   refine Eng.vr (v := Eng.elemPtr gv1 (0 * 4 + 1)) rfl ?_
   exact Eng.run_field_el rfl Tryd.underlying57 1 (by kernel_rfl) (show a.eval (.tmp 74) = Eng.elemPtr gv1 (0 * 4) from (H.d 35 74)) (Eng.Reads.below Fg1_35 H.below) (by have h_ : 0 < 1 := (by first | rfl | decide); omega)
  ·refine Eng.gT 31 70 fun a w' H => ?_
   refine Eng.vr (v := .string ⟨#[115, 101, 113]⟩) rfl ?_
   exact Eng.run_load_el (.string ⟨#[115, 101, 113]⟩) rfl (show a.eval (.tmp 75) = Eng.elemPtr gv1 (0 * 4 + 1) from (H.d 36 75)) (Eng.Reads.below Fg1_35 H.below) (rfl) (by kernel_rfl)
  ·refine Eng.gT 31 70 fun a w' H => ?_
   exact Eng.vr (v := .bool ((⟨#[115, 101, 113]⟩ : ByteArray).toList == (⟨#[115, 101, 113]⟩ : ByteArray).toList)) (by show _ = Value.bool true; rw [show ((⟨#[115, 101, 113]⟩ : ByteArray).toList == (⟨#[115, 101, 113]⟩ : ByteArray).toList) = true from beq_self_eq_true _]) (Eng.ok (.string ⟨#[115, 101, 113]⟩) (H.d 37 76))
  ·exact Eng.pq fun a w' H => Eng.run_and rfl rfl (G := true) (H.d 31 70) (fun hb => (H.d 38 77))
  ·exact Eng.pq fun a w' H => Eng.rv (H.d 39 78)
  ·refine Eng.gT 40 79 fun a w' H => ?_
   exact Eng.val (w1 := w') (v := .int .i64 0) (Eng.rv (H.q 3 h3_40)) (Below.refl _ _) rfl
  ·refine Eng.gT 40 79 fun a w' H => ?_
   exact Eng.vr (v := .bool (0 == 0)) (by show _ = Value.bool true; rw [show (0 == 0) = true from beq_self_eq_true _]) (Eng.ok (.int .i64 0) (H.d 41 80))
  ·exact Eng.pq fun a w' H => Eng.run_and rfl rfl (G := true) (H.d 40 79) (fun hb => (H.d 42 81))
  ·exact Eng.pq fun a w' H => Eng.rv (H.d 43 82)
  ·refine Eng.gT 44 83 fun a w' H => ?_
   exact Eng.val (w1 := w') (v := .int .i64 11) (Eng.rv (H.q 5 h5_40)) (Below.refl _ _) rfl
  ·refine Eng.gT 44 83 fun a w' H => ?_
   exact Eng.vr (v := .bool (11 == 11)) (by show _ = Value.bool true; rw [show (11 == 11) = true from beq_self_eq_true _]) (Eng.ok (.int .i64 11) (H.d 45 84))
  ·exact Eng.pq fun a w' H => Eng.run_and rfl rfl (G := true) (H.d 44 83) (fun hb => (H.d 46 85))
  ·exact Eng.pq fun a w' H => Eng.rv (H.d 47 86)
  ·refine Eng.gT 48 87 fun a w' H => ?_
   exact Eng.val (w1 := w') (v := .string ⟨#[105, 110, 116]⟩) (Eng.rv (H.q 6 h6_40)) (Below.refl _ _) rfl
  ·refine Eng.gT 48 87 fun a w' H => ?_
   exact Eng.vr (v := .bool ((⟨#[105, 110, 116]⟩ : ByteArray).toList == (⟨#[105, 110, 116]⟩ : ByteArray).toList)) (by show _ = Value.bool true; rw [show ((⟨#[105, 110, 116]⟩ : ByteArray).toList == (⟨#[105, 110, 116]⟩ : ByteArray).toList) = true from beq_self_eq_true _]) (Eng.ok (.string ⟨#[105, 110, 116]⟩) (H.d 49 88))
  ·exact Eng.pq fun a w' H => Eng.run_and rfl rfl (G := true) (H.d 48 87) (fun hb => (H.d 50 89))
  ·exact Eng.pq fun a w' H => Eng.rv (H.d 51 90)
  ·refine Eng.gT 52 91 fun a w' H => ?_
   exact Eng.val (w1 := w') (v := .int .i64 0) (Eng.rv (H.q 7 h7_40)) (Below.refl _ _) rfl
  ·refine Eng.gT 52 91 fun a w' H => ?_
   exact Eng.vr (v := .bool (0 == 0)) (by show _ = Value.bool true; rw [show (0 == 0) = true from beq_self_eq_true _]) (Eng.ok (.int .i64 0) (H.d 53 92))
  ·exact Eng.pq fun a w' H => Eng.run_and rfl rfl (G := true) (H.d 52 91) (fun hb => (H.d 54 93))
  ·exact Eng.pq fun a w' H => Eng.rv (H.d 55 94)
  ·refine Eng.gT 56 95 fun a w' H => ?_
   exact Eng.val (w1 := w') (v := .int .i64 14) (Eng.rv (H.q 9 h9_40)) (Below.refl _ _) rfl
  ·refine Eng.gT 56 95 fun a w' H => ?_
   exact Eng.vr (v := .bool (14 == 14)) (by show _ = Value.bool true; rw [show (14 == 14) = true from beq_self_eq_true _]) (Eng.ok (.int .i64 14) (H.d 57 96))
  ·exact Eng.pq fun a w' H => Eng.run_and rfl rfl (G := true) (H.d 56 95) (fun hb => (H.d 58 97))
  exact Eng.pq fun a w' H => Eng.ra (H.d 59 98)
 intro act41 w41 T
 have h0_41 : act41.eval (.tmp 0) = .bool true := T.done 60 0 rfl rfl
 have d41 := T.e d40
 have bl41 := T.b bl35
 clear T
 refine Eng.tail_nil ?_
 refine wp_ret ?_
 repeat (first | refine Eng.in_ret ?_ | refine Eng.then_ret ?_)
 exact Eng.ret1 rfl d41 h0_41 ⟨rfl, bl41⟩
end Go.Proofs.YtgnmjaacnmkgnaaDoor.X
end
section
namespace Go.Proofs.YtgnmjaacnmkgnaaDoor.X
open Go.RowKit Go.Shelf Go.Proofs Go.Proofs.YtgnmjaacnmkgnaaDoorW.PrintWords Go.Proofs.YtgnmjaacnmkgnaaDoorW.PrintLast Go.Proofs.YtgnmjaacnmkgnaaDoorW.PrintMore Go.Proofs.Eng
set_option linter.unusedVariables false
set_option linter.unusedSimpArgs false
attribute [local go_sem] max2_int min2_int max_two min_two
set_option maxHeartbeats 4000000 in
set_option maxRecDepth 100000 in
theorem Dc.rights_walk (v : Value) (l : List Evt.Ev) (w : World) (hT : Tabs.Holds w) (hl : Reads w v l.length 5 (Evt.cells l)) (hll : l.length ≤ 2199023255488) (hpure : Evt.Lt 150 l → (Dc.graphsF l).2 = 0 → Dc.PureG l) : Calls Tryd.prog 7 #[v] w fun e w' => e = .returned (.bool true) ∧ Below w.heap.size w w' := by
 have hm := Reads.len_le hl
 refine enter Tryd.func7 rfl fun A d0 s0 v0 => ?_
 have s0 : A.tmps.size = 81 := s0
 have y0 : A.eval (.tmp 0) = v := v0 0 (by simp)
 clear v0
 have bl0 : Below w.heap.size w w := Below.refl _ _
 refine wp_seq (rS [.bool false] (fun _ => .plain) 1 0 s0 ?_ ?_)
 ·refine .c ?_ (.nil)
  ·exact pq fun a w' H => ra (rfl : a.eval (.const (.bool false)) = .bool false)
 intro A w1 T
 have y0 := T.r1 y0
 have Fl_ := T.f hl
 have ⟨d1, s1, bl1⟩ := T.h d0 s0 bl0
 clear T
 refine tail_nil (wp_seq (wp_seq ?_))
 obtain ⟨q14, Bq14⟩ := nm (!true)
 refine rS [.bool true, .bool q14] (fun _ => .plain) 2 0 s1 ?_ ?_
 ·refine .c ?_ (.c ?_ (.nil))
  ·refine pv fun a w' H => call Tryd.func8 (by kernel_rfl) (by kernel_rfl) rfl #[] ?_ ?_
   ·simp
   refine (Dal.alive_calls _ (Tabs.below (Tabs.below hT bl1) H.below)).mono ?_
   rintro e w'' ⟨rfl, hb⟩
   exact ⟨_, rfl, (by show _ = Value.bool true; rw [show (true) = true from rfl]), hb⟩
  exact pv fun a w' H => vr (bb Bq14) (run_not rfl (H.d 0 13))
 intro A w2 T
 have y0 := T.r1 y0
 have Fl_ := T.f Fl_
 have y14 := T.u 1 14
 have ⟨d2, s2, bl2⟩ := T.h d1 s1 bl1
 clear T
 refine tail_nil ?_
 have n14 : q14 = false := by
  try simp only [Bq14]
  first | done | rfl
 refine wp_cond_false (y14.trans (by rw [n14])) (wp_skip ?_)
 refine wp_seq (wp_seq ?_)
 obtain ⟨q16, Bq16⟩ := nm (Evt.heavyL l)
 refine rS [v, .bool q16] (fun _ => .plain) 2 0 s2 ?_ ?_
 ·refine .c ?_ (.c ?_ (.nil))
  ·exact qq 0 y0
  refine pv fun a w' H => call Tryd.func9 (by kernel_rfl) (by kernel_rfl) rfl #[v] ?_ ?_
  ·have e0 : a.eval (.tmp 15) = v := (H.d 0 15); simp only [List.map_toArray, List.map_cons, List.map_nil, e0]
  refine (Evt.heavy_calls v l _ (Reads.below Fl_ H.below)).mono ?_
  rintro e w'' ⟨rfl, hb⟩
  exact ⟨_, rfl, (by show _ = Value.bool q16; rw [Bq16]), hb⟩
 intro A w3 T
 have ⟨y0, y14⟩ := T.r2 y0 y14
 have Fl_ := T.f Fl_
 have y16 := T.u 1 16
 have ⟨d3, s3, bl3⟩ := T.h d2 s2 bl2
 clear T
 refine tail_nil (wp_cond_split y16 (fun hq => ?_) (fun hq => ?_))
 ·
  have c16 := Bq16.symm.trans hq
  clear hq
  refine wp_seq (rS [.bool true] (fun _ => .plain) 1 0 s3 ?_ ?_)
  ·refine .c ?_ (.nil)
   ·exact pq fun a w' H => ra (rfl : a.eval (.const (.bool true)) = .bool true)
  intro A w5 T
  have y2 := T.u 0 2
  have d5 := T.e d3
  have bl5 := T.b bl3
  clear T
  refine tail_nil (wp_ret ?_)
  repeat (first | with_reducible refine in_ret ?_ | with_reducible refine then_ret ?_)
  exact ret1 rfl d5 y2 ⟨rfl, bl5⟩
 have c16 := Bq16.symm.trans hq
 clear hq
 have la_ := Evt.light_all (by simpa using c16)
 refine wp_skip (wp_seq ?_)
 refine (wpIn_wide (n := 1)).1 (EngI.regionT (n := 3) rfl ?_)
 refine EngI.tw rfl (rv y0) s3 d3 fun A d7 s7 y17 hr => ?_
 have ⟨y0, y14, y16⟩ := k3 hr y0 y14 y16
 refine EngI.tail_call EngI.free_wide Tryd.func13 (by kernel_rfl) (by kernel_rfl) rfl rfl rfl rfl #[v] (m1 y17) s7 rfl (R := fun v w' => w'.ownsRow w3.heap.size 30 5 v l.length (Evt.cells l) ∧ Below w3.heap.size w3 w') ((Evt.theirs_calls v l _ Fl_ hll).mono ?_) fun v_8 w8 A R d8 s8 y18 hr => ?_
 ·rintro e w1 ⟨o, rfl, r⟩; exact ⟨_, rfl, r⟩
 have ⟨y0, y14, y16⟩ := k3 hr y0 y14 y16
 have d8 := d8.trans d7
 obtain ⟨O_8, b_8⟩ := R
 have bl8 := bl3.trans (b_8.mono bl3.size)
 have Ox_8 := own_mono O_8 bl3.size
 have Fx_ := Reads.of_own Ox_8
 refine EngI.tw rfl (ra y18) s8 d8 fun A d9 s9 y3 hr => ?_
 have ⟨y0, y14, y16⟩ := k3 hr y0 y14 y16
 refine EngI.tail_nil (wp_seq ?_)
 refine (wpIn_wide (n := 1)).1 (EngI.regionT (n := 7) rfl ?_)
 refine EngI.tw rfl (rv y3) s9 d9 fun A d10 s10 y20 hr => ?_
 have ⟨y0, y3, y14, y16⟩ := k4 hr y0 y3 y14 y16
 refine EngI.tail_call EngI.free_wide Tryd.func12 (by kernel_rfl) (by kernel_rfl) rfl rfl rfl rfl #[v_8] (m1 y20) s10 rfl (R := fun v w' => ∃ outv fin, v = .tuple #[outv, .int .i64 (Dc.graphsF l).2] ∧ List.map (·.1) fin = (Dc.graphsF l).1 ∧ w'.ownsRow w8.heap.size 48 1 outv fin.length (List.map (·.2) fin) ∧ (∀ f ∈ fin, Dc.Fin w8 w' f (fun _ => False)) ∧ Below w8.heap.size w8 w') ((Dc.Graphs_calls v_8 l _ (Tabs.below hT bl8) Fx_ (Nat.le_trans la_.1 (by decide)) la_.text la_.anchor (la_.tw (by decide))).mono ?_) fun v_11 w11 A R d11 s11 y21 hr => ?_
 ·rintro e w1 ⟨o1, f1, rfl, r1⟩; exact ⟨_, rfl, o1, f1, rfl, r1⟩
 have ⟨y0, y3, y14, y16⟩ := k4 hr y0 y3 y14 y16
 have d11 := d11.trans d10
 obtain ⟨outv, fin, ev_11, hmf, Oo_11, hF, b_11⟩ := R
 rw [ev_11] at y21
 have Ox_11 := own_below Ox_8 b_11
 have bl11 := bl8.trans (b_11.mono bl8.size)
 have Oall_11 := own_mono Oo_11 bl8.size
 have Fall_ := Reads.of_own Oall_11
 have smf := Dc.fin_small' (n := 150) la_.1 (by decide) hmf
 have K_11 : Below w11.heap.size w11 w11 := Below.refl _ _
 clear ev_11
 refine EngI.tw rfl (rv y21) s11 d11 fun A d12 s12 y19 hr => ?_
 have ⟨y0, y3, y14, y16⟩ := k4 hr y0 y3 y14 y16
 refine EngI.tw (w1 := w11) (v := outv) rfl (o1 y19) s12 d12 ?_
 intro A d13 s13 y22 hr
 have ⟨y0, y3, y14, y16, y19⟩ := k5 hr y0 y3 y14 y16 y19
 refine EngI.tw (w1 := w11) (v := .int .i64 ((Dc.graphsF l).2)) rfl (o1 y19) s13 d13 ?_
 intro A d14 s14 y23 hr
 have ⟨y0, y3, y14, y16, y22⟩ := k5 hr y0 y3 y14 y16 y22
 refine EngI.tw rfl (ra y22) s14 d14 fun A d15 s15 y4 hr => ?_
 have ⟨y0, y3, y14, y16, y23⟩ := k5 hr y0 y3 y14 y16 y23
 refine EngI.tw rfl (ra y23) s15 d15 fun A d16 s16 y5 hr => ?_
 have ⟨y0, y3, y4, y14, y16⟩ := k5 hr y0 y3 y4 y14 y16
 refine EngI.tail_nil (wp_seq (wp_seq ?_))
 obtain ⟨q25, Bq25⟩ := nm (!(((Dc.graphsF l).2) == 0))
 refine rP [.int .i64 ((Dc.graphsF l).2), .bool q25] 2 0 s16 (.c (qq 5 y5) (.c (pv fun a w' H => vr (bb Bq25) (okz (.int .i64 0) (H.d 0 24))) .nil)) fun A w17 T => ?_
 have ⟨y0, y3, y4, y5, y14, y16⟩ := T.r6 y0 y3 y4 y5 y14 y16
 have Ox_17 := T.g Ox_11
 have Fall_ := T.f Fall_
 have Oall_17 := T.g Oall_11
 have y25 := T.u 1 25
 have ⟨d17, s17, bl17⟩ := T.h d16 s16 bl11
 have XK_17 := bl_step K_11 T.below
 clear T
 refine tail_nil (wp_cond_split y25 (fun hq => ?_) (fun hq => ?_))
 ·
  have c25 := Bq25.symm.trans hq
  clear hq
  have hz : ¬ (Dc.graphsF l).2 = 0 := by have h1 := c25; simpa using h1
  have herr0 : fin.length = 0 := by rw [← List.length_map (f := fun f : Dc.GV => f.1), hmf, Dc.graphsF_err0 hz]; rfl
  refine wp_seq (rP [outv, .int .i64 ((fin.length : Nat) : Int), .bool true, .bool true] 4 0 s17 (.c (qq 4 y4) (.c (pv fun a w' H => vr (v := .int .i64 ((fin.length : Nat) : Int)) rfl (run_len_sl rfl Tryd.underlying34 (H.d 0 26) (Reads.below Fall_ H.below))) (.c (pv fun a w' H => vr (v := .bool (((fin.length : Nat) : Int) == 0)) (by show _ = Value.bool true; rw [show (((fin.length : Nat) : Int) == 0) = true from (by rw [herr0]; rfl)]) (ok (.int .i64 0) (H.d 1 27))) (.c (qe 2 28) .nil)))) fun A w19 T => ?_)
  have y2 := T.u 3 2
  have d19 := T.e d17
  have bl19 := T.b bl17
  clear T
  refine tail_nil (wp_ret ?_)
  repeat (first | with_reducible refine in_ret ?_ | with_reducible refine then_ret ?_)
  exact ret1 rfl d19 y2 ⟨rfl, bl19⟩
 have c25 := Bq25.symm.trans hq
 clear hq
 have hz : (Dc.graphsF l).2 = 0 := by have h1 := c25; simpa using h1
 have hP := hpure la_ hz
 refine wp_skip (wp_seq ?_)
 refine rS [.int .i64 0] (fun _ => .plain) 1 0 s17 ?_ ?_
 ·refine .c ?_ (.nil)
  ·exact pq fun a w' H => ra (rfl : a.eval (.const (.int .i64 0)) = .int .i64 0)
 intro A w21 T
 have ⟨y0, y3, y4, y5, y14, y16, y25⟩ := T.r7 y0 y3 y4 y5 y14 y16 y25
 have Ox_21 := T.g Ox_17
 have Fall_ := T.f Fall_
 have Oall_21 := T.g Oall_17
 have y6 := T.u 0 6
 have ⟨d21, s21, bl21⟩ := T.h d17 s17 bl17
 have XK_21 := bl_step XK_17 T.below
 clear T
 refine tail_nil (wp_seq (wp_seq ?_))
 refine rP [outv, .int .i64 ((fin.length : Nat) : Int), .int .i64 0] 3 0 s21 (.c (qq 4 y4) (.c (pv fun a w' H => vr (v := .int .i64 ((fin.length : Nat) : Int)) rfl (run_len_sl rfl Tryd.underlying34 (H.d 0 29) (Reads.below Fall_ H.below))) (.c (pq fun a w' H => rv (rfl : a.eval (.const (.int .i64 0)) = .int .i64 0)) .nil))) fun A w22 T => ?_
 have ⟨y0, y3, y4, y5, y6, y14, y16, y25⟩ := T.r8 y0 y3 y4 y5 y6 y14 y16 y25
 have Ox_22 := T.g Ox_21
 have Oall_22 := T.g Oall_21
 have y29 := T.u 0 29
 have y30 := T.u 1 30
 have y31 := T.u 2 31
 have ⟨d22, s22, bl22⟩ := T.h d21 s21 bl21
 have XK_22 := bl_step XK_21 T.below
 clear T
 refine tail_nil (wp_block ?_)
 refine loopN (fun n a w' => ∃ (k : Nat), fin.length - k = n ∧ (k ≤ fin.length) ∧ (w'.ownsRow w.heap.size 48 1 outv fin.length (List.map (·.2) fin)) ∧ (w'.ownsRow w.heap.size 30 5 v_8 l.length (Evt.cells l)) ∧ (Below w11.heap.size w11 w') ∧ (Dc.sumG (List.take k fin) = Dc.sumG (List.take k fin)) ∧ a.defers = [] ∧ a.tmps.size = 81 ∧ Below w.heap.size w w' ∧ a.eval (.tmp 0) = v ∧ a.eval (.tmp 3) = v_8 ∧ a.eval (.tmp 4) = outv ∧ a.eval (.tmp 5) = .int .i64 ((Dc.graphsF l).2) ∧ a.eval (.tmp 6) = .int .i64 ((Dc.sumG (List.take k fin) : Nat) : Int) ∧ a.eval (.tmp 14) = .bool q14 ∧ a.eval (.tmp 16) = .bool q16 ∧ a.eval (.tmp 25) = .bool q25 ∧ a.eval (.tmp 29) = outv ∧ a.eval (.tmp 30) = .int .i64 ((fin.length : Nat) : Int) ∧ a.eval (.tmp 31) = .int .i64 (k : Nat)) (n0 := fin.length - 0) ?_ ?_
 ·exact ⟨0, rfl, Nat.zero_le _, Oall_22, Ox_22, XK_22, rfl, d22, s22, bl22, y0, y3, y4, y5, (y6.trans (by first | rfl | (congr 1; rw [i64_id (by omega) (by omega)]; omega) | (congr 1; omega) | (simp; done))), y14, y16, y25, y29, y30, (y31.trans (by first | rfl | (congr 1; rw [i64_id (by omega) (by omega)]; omega) | (congr 1; omega) | (simp; done)))⟩
 rintro n A w23 ⟨k, rfl, hc0_23, hc1_23, hc2_23, hc3_23, hc4_23, d23, s23, bl23, y0, y3, y4, y5, y6, y14, y16, y25, y29, y30, y31⟩
 have hk1 := hc0_23
 have hsg := hc4_23
 have Fall_ := Reads.of_own hc1_23
 have Fx_ := Reads.of_own hc2_23
 refine wp_seq ?_
 obtain ⟨q32, Bq32⟩ := nm (decide ((k : Nat) < ((fin.length : Nat) : Int)))
 refine rS [.bool q32] (fun _ => .plain) 1 0 s23 ?_ ?_
 ·refine .c ?_ (.nil)
  ·exact pv fun a w' H => vr (bb Bq32) (o2 (H.q 31 y31) (H.q 30 y30))
 intro A w24 T
 have ⟨y0, y3, y4, y5, y6, y14, y16, y25, y29, y30⟩ := T.r10 y0 y3 y4 y5 y6 y14 y16 y25 y29 y30
 have y31 := T.r1 y31
 have Fall_ := T.f Fall_
 have Oall_24 := T.g hc1_23
 have Fx_ := T.f Fx_
 have Ox_24 := T.g hc2_23
 have y32 := T.u 0 32
 have ⟨d24, s24, bl24⟩ := T.h d23 s23 bl23
 have XK_24 := bl_step hc3_23 T.below
 clear T
 refine tail_nil (wp_seq ?_)
 refine wp_cond_split y32 (fun hq => ?_) (fun hq => ?_)
 ·
  have c32 := Bq32.symm.trans hq
  clear hq
  have c32 := of_decide_eq_true c32
  have hk0 : k < fin.length := by omega
  have hcell := Dc.map2_at fin k hk0
  obtain ⟨hh, op_, nm_, ov_, mb_, hnd, Rk, _⟩ := hF _ (by rw [List.getD_eq_getElem?_getD, List.getElem?_eq_getElem hk0]; exact List.getElem_mem hk0 : fin.getD k default ∈ fin)
  have hsk := Dc.sml_at smf.2 hk0
  have Gk := hP.good _ (by rw [← hmf]; exact List.mem_map.2 ⟨fin.getD k default, by rw [List.getD_eq_getElem?_getD, List.getElem?_eq_getElem hk0]; exact List.getElem_mem hk0, rfl⟩)
  have hss := Dc.sumG_step hk0
  obtain ⟨gk, hgk⟩ : ∃ v, v = (fin.getD k default).2 := ⟨_, rfl⟩
  rw [← hgk] at hcell Rk
  rw [← hnd] at Gk hsk hss
  rw [List.length_map] at hss
  clear hgk
  have Rk_26 := Dc.Rep.below Rk XK_24
  have Fgk_ := Reads.of_own Rk_26.gr
  have hbd := Dc.sumL_bd (n := 1000000) (m := 1000000) (List.map (·.1) (List.take (k + 1) fin)) (by rw [List.length_map, List.length_take]; omega) (fun x hx => by obtain ⟨f, hf, rfl⟩ := List.mem_map.1 hx; exact (smf.2 f (List.mem_of_mem_take hf)).1)
  have hbd2 : Dc.sumG (List.take (k + 1) fin) ≤ 1000000 * 1000000 := hbd
  refine wp_skip (wp_seq ?_)
  refine wp_block (wp_seq ?_)
  refine rP [elemPtr outv (k * 1), gk, gk] 3 0 s24 (.c (pv fun a w' H => vr (v := elemPtr outv (k * 1)) rfl (run_index_sl rfl Tryd.underlying34 (by kernel_rfl) (H.q 29 y29) ((H.q 31 y31).trans (congrArg (Value.int _) (show (k : Nat) = ((k : Nat) : Int) from by omega))) (Reads.below Fall_ H.below) (by omega) rfl)) (.c (pv fun a w' H => vr (v := gk) rfl (run_load_el (gk) rfl (H.d 0 33) (Reads.below Fall_ H.below) (hcell) (by kernel_rfl))) (.c (qe 1 34) .nil))) fun A w27 T => ?_
  have ⟨y0, y3, y4, y5, y6, y14, y16, y25, y29, y30⟩ := T.r10 y0 y3 y4 y5 y6 y14 y16 y25 y29 y30
  have y31 := T.r1 y31
  have Oall_27 := T.g Oall_24
  have Ox_27 := T.g Ox_24
  have Fgk_ := T.f Fgk_
  have y8 := T.u 2 8
  have ⟨d27, s27, bl27⟩ := T.h d24 s24 bl24
  have XK_27 := bl_step XK_24 T.below
  clear T
  refine tail_nil (wp_seq ?_)
  refine rP [.int .i64 ((Dc.sumG (List.take k fin) : Nat) : Int), gk, .int .i64 ((hh.length : Nat) : Int), .int .i64 (IntKind.i64.wrap (((Dc.sumG (List.take k fin) : Nat) : Int) + ((hh.length : Nat) : Int))), .int .i64 (IntKind.i64.wrap (((Dc.sumG (List.take k fin) : Nat) : Int) + ((hh.length : Nat) : Int)))] 5 0 s27 (.c (qq 6 y6) (.c (qq 8 y8) (.c (pv fun a w' H => vr (v := .int .i64 ((hh.length : Nat) : Int)) rfl (run_len_sl rfl Tryd.underlying48 (H.d 1 36) (Reads.below Fgk_ H.below))) (.c (pv fun a w' H => vr (v := .int .i64 (IntKind.i64.wrap (((Dc.sumG (List.take k fin) : Nat) : Int) + ((hh.length : Nat) : Int)))) rfl (o2 (H.d 0 35) (H.d 2 37))) (.c (qe 3 38) .nil))))) fun A w28 T => ?_
  have ⟨y0, y3, y4, y5, y8, y14, y16, y25, y29, y30⟩ := T.r10 y0 y3 y4 y5 y8 y14 y16 y25 y29 y30
  have y31 := T.r1 y31
  have Oall_28 := T.g Oall_27
  have Ox_28 := T.g Ox_27
  have y6 := T.u 4 6
  have ⟨d28, s28, bl28⟩ := T.h d27 s27 bl27
  have XK_28 := bl_step XK_27 T.below
  clear T
  refine tail_nil (wp_seq ?_)
  refine (wpIn_wide (n := 1)).1 (EngI.regionT (n := 12) rfl ?_)
  refine EngI.tw rfl (rv y8) s28 d28 fun A d29 s29 y39 hr => ?_
  have ⟨y0, y3, y4, y5, y6, y8, y14, y16, y25, y29⟩ := k10 hr y0 y3 y4 y5 y6 y8 y14 y16 y25 y29
  have ⟨y30, y31⟩ := k2 hr y30 y31
  refine EngI.tail_call EngI.free_wide Tryd.func18 (by kernel_rfl) (by kernel_rfl) rfl rfl rfl rfl #[gk] (m1 y39) s29 rfl (R := fun v w_ => v = .bool true ∧ Below w28.heap.size w28 w_) ((Dc.rep_right (Tabs.below (Tabs.below hT bl28) (Below.refl _ _)) (Dc.Rep.below Rk (bl_step XK_28 (Below.refl _ _))) Gk).mono ?_) fun v_30 w30 A R d30 s30 hv hr => ?_
  ·rintro e w_ ⟨rfl, hb⟩; exact ⟨_, rfl, rfl, hb⟩
  obtain ⟨ev_30, b_30⟩ := R
  have ⟨y0, y3, y4, y5, y6, y8, y14, y16, y25, y29⟩ := k10 hr y0 y3 y4 y5 y6 y8 y14 y16 y25 y29
  have ⟨y30, y31⟩ := k2 hr y30 y31
  have y40 : A.eval (.tmp 40) = .bool true := (hv.trans ev_30)
  have d30 := d30.trans d29
  clear hv hr
  have Oall_30 := own_below Oall_28 b_30
  have Ox_30 := own_below Ox_28 b_30
  have XK_30 := bl_step XK_28 b_30
  have bl30 := bl28.trans (b_30.mono bl28.size)
  refine EngI.tw rfl (run_not rfl y40) s30 d30 fun A d31 s31 y41 hr => ?_
  have ⟨y0, y3, y4, y5, y6, y8, y14, y16, y25, y29⟩ := k10 hr y0 y3 y4 y5 y6 y8 y14 y16 y25 y29
  have ⟨y30, y31⟩ := k2 hr y30 y31
  refine EngI.tw rfl (rv y41) s31 d31 fun A d32 s32 y42 hr => ?_
  have ⟨y0, y3, y4, y5, y6, y8, y14, y16, y25, y29⟩ := k10 hr y0 y3 y4 y5 y6 y8 y14 y16 y25 y29
  have ⟨y30, y31⟩ := k2 hr y30 y31
  refine EngG.tail_val EngI.free_wide rfl (EngG.wanted_on (want := false) rfl rfl rfl (by rw [s32]; decide) y42) rfl rfl (rv y8) s32 rfl fun A d33 s33 y43 hr => ?_
  have ⟨y0, y3, y4, y5, y6, y8, y14, y16, y25, y29⟩ := k10 hr y0 y3 y4 y5 y6 y8 y14 y16 y25 y29
  have ⟨y30, y31, y42⟩ := k3 hr y30 y31 y42
  have d33 := d33.trans d32
  refine EngG.tail_call EngI.free_wide Tryd.func21 (by kernel_rfl) (by kernel_rfl) rfl (EngG.wanted_on (want := false) rfl rfl rfl (by rw [s33]; decide) y42) rfl rfl #[gk] (m1 y43) s33 rfl (R := fun v w' => Dc.GR w' (hh.map (·.1)) v ∧ Below w30.heap.size w30 w') ((Dc.rep_normal (Tabs.below hT bl30) (Dc.Rep.below Rk XK_30) Gk).mono ?_) fun v_34 w34 A R d34 s34 y44 hr => ?_
  ·rintro e w1 ⟨o, rfl, r⟩; exact ⟨_, rfl, r⟩
  have ⟨y0, y3, y4, y5, y6, y8, y14, y16, y25, y29⟩ := k10 hr y0 y3 y4 y5 y6 y8 y14 y16 y25 y29
  have ⟨y30, y31, y42⟩ := k3 hr y30 y31 y42
  have d34 := d34.trans d33
  obtain ⟨N_34, b_34⟩ := R
  have Oall_34 := own_below Oall_30 b_34
  have Ox_34 := own_below Ox_30 b_34
  have XK_34 := bl_step XK_30 b_34
  have bl34 := bl30.trans (b_34.mono bl30.size)
  refine EngG.tail_call EngI.free_wide Tryd.func20 (by kernel_rfl) (by kernel_rfl) rfl (EngG.wanted_on (want := false) rfl rfl rfl (by rw [s34]; decide) y42) rfl rfl #[v_34] (m1 y44) s34 rfl (R := fun v w' => Dc.GO w34.heap.size w' (hh.map (·.1)) v ∧ Below w34.heap.size w34 w') ((Dc.ours8_calls v_34 (hh.map (·.1)) _ N_34 hsk).mono ?_) fun v_35 w35 A R d35 s35 y45 hr => ?_
  ·rintro e w1 ⟨o, rfl, r⟩; exact ⟨_, rfl, r⟩
  have ⟨y0, y3, y4, y5, y6, y8, y14, y16, y25, y29⟩ := k10 hr y0 y3 y4 y5 y6 y8 y14 y16 y25 y29
  have ⟨y30, y31, y42⟩ := k3 hr y30 y31 y42
  have d35 := d35.trans d34
  obtain ⟨O_35, b_35⟩ := R
  have Oall_35 := own_below Oall_34 b_35
  have Ox_35 := own_below Ox_34 b_35
  have XK_35 := bl_step XK_34 b_35
  have bl35 := bl34.trans (b_35.mono bl34.size)
  have A1_0 := Dc.GO.reads O_35
  refine EngG.tail_val EngI.free_wide rfl (EngG.wanted_on (want := false) rfl rfl rfl (by rw [s35]; decide) y42) rfl rfl (rv y8) s35 rfl fun A d36 s36 y46 hr => ?_
  have ⟨y0, y3, y4, y5, y6, y14, y16, y25, y29, y30⟩ := k10 hr y0 y3 y4 y5 y6 y14 y16 y25 y29 y30
  have ⟨y31, y42, y45⟩ := k3 hr y31 y42 y45
  have d36 := d36.trans d35
  refine EngG.tail_call EngI.free_wide Tryd.func20 (by kernel_rfl) (by kernel_rfl) rfl (EngG.wanted_on (want := false) rfl rfl rfl (by rw [s36]; decide) y42) rfl rfl #[gk] (m1 y46) s36 rfl (R := fun v w' => Dc.GO w35.heap.size w' (hh.map (·.1)) v ∧ Below w35.heap.size w35 w') ((Dc.ours8_calls gk (hh.map (·.1)) _ (Dc.rep_reads (Dc.Rep.below Rk XK_35)) hsk).mono ?_) fun v_37 w37 A R d37 s37 y47 hr => ?_
  ·rintro e w1 ⟨o, rfl, r⟩; exact ⟨_, rfl, r⟩
  have ⟨y0, y3, y4, y5, y6, y14, y16, y25, y29, y30⟩ := k10 hr y0 y3 y4 y5 y6 y14 y16 y25 y29 y30
  have ⟨y31, y42, y45⟩ := k3 hr y31 y42 y45
  have d37 := d37.trans d36
  obtain ⟨O_37, b_37⟩ := R
  have Oall_37 := own_below Oall_35 b_37
  have Ox_37 := own_below Ox_35 b_37
  have XK_37 := bl_step XK_35 b_37
  have XA1_37 := Dc.GR.below A1_0 b_37
  have bl37 := bl35.trans (b_37.mono bl35.size)
  have A2_0 := Dc.GO.reads O_37
  refine EngG.tail_call EngI.free_wide Tryd.func19 (by kernel_rfl) (by kernel_rfl) rfl (EngG.wanted_on (want := false) rfl rfl rfl (by rw [s37]; decide) y42) rfl rfl #[v_35, v_37] (m2 y45 y47) s37 rfl (R := fun v w_ => v = .bool true ∧ Below w37.heap.size w37 w_) ((Dc.equal8_calls _ _ (hh.map (·.1)) _ XA1_37 A2_0).mono ?_) fun v_38 w38 A R d38 s38 hv hr => ?_
  ·rintro e w_ ⟨rfl, hb⟩; exact ⟨_, rfl, rfl, hb⟩
  obtain ⟨ev_38, b_38⟩ := R
  have ⟨y0, y3, y4, y5, y6, y14, y16, y25, y29, y30⟩ := k10 hr y0 y3 y4 y5 y6 y14 y16 y25 y29 y30
  have ⟨y31, y42⟩ := k2 hr y31 y42
  have y48 : A.eval (.tmp 48) = .bool true := (hv.trans ev_38)
  have d38 := d38.trans d37
  clear hv hr
  have Oall_38 := own_below Oall_37 b_38
  have Ox_38 := own_below Ox_37 b_38
  have XK_38 := bl_step XK_37 b_38
  have bl38 := bl37.trans (b_38.mono bl37.size)
  refine EngG.tail_val EngI.free_wide rfl (EngG.wanted_on (want := false) rfl rfl rfl (by rw [s38]; decide) y42) rfl rfl (run_not rfl y48) s38 rfl fun A d39 s39 y49 hr => ?_
  have ⟨y0, y3, y4, y5, y6, y14, y16, y25, y29, y30⟩ := k10 hr y0 y3 y4 y5 y6 y14 y16 y25 y29 y30
  have ⟨y31, y42⟩ := k2 hr y31 y42
  have d39 := d39.trans d38
  refine EngI.tw rfl (run_pick rfl y42 (v := .bool false) (by exact y49)) s39 d39 fun A d40 s40 y50 hr => ?_
  have ⟨y0, y3, y4, y5, y6, y14, y16, y25, y29, y30⟩ := k10 hr y0 y3 y4 y5 y6 y14 y16 y25 y29 y30
  have y31 := k1 hr y31
  refine EngI.tail_nil (wp_cond_false y50 ?_)
  refine wp_skip (rP [.int .i64 (IntKind.i64.wrap ((k : Nat) + 1)), .int .i64 (IntKind.i64.wrap ((k : Nat) + 1))] 2 0 s40 (.c (pv fun a w' H => vr (v := .int .i64 (IntKind.i64.wrap ((k : Nat) + 1))) rfl (ok (.int .i64 1) (H.q 31 y31))) (.c (qd 0 51) .nil)) fun A w41 T => ?_)
  have ⟨y0, y3, y4, y5, y6, y14, y16, y25, y29, y30⟩ := T.r10 y0 y3 y4 y5 y6 y14 y16 y25 y29 y30
  have Oall_41 := T.g Oall_38
  have Ox_41 := T.g Ox_38
  have y31 := T.u 1 31
  have ⟨d41, s41, bl41⟩ := T.h d40 s40 bl38
  have XK_41 := bl_step XK_38 T.below
  clear T
  exact tail_nil (⟨_, by omega, k + 1, rfl, by omega, Oall_41, Ox_41, XK_41, rfl, d41, s41, bl41, y0, y3, y4, y5, (y6.trans (by first | rfl | (congr 1; rw [i64_id (by omega) (by omega)]; omega) | (congr 1; omega) | (simp; done))), y14, y16, y25, y29, y30, (y31.trans (by first | rfl | (congr 1; rw [i64_id (by omega) (by omega)]; omega) | (congr 1; omega) | (simp; done)))⟩)
 have c32 := Bq32.symm.trans hq
 clear hq
 have c32 := of_decide_eq_false c32
 have hke : k = fin.length := by omega
 have hsk2 : Dc.sumG (List.take k fin) = Dc.sumG fin := by rw [hke, List.take_length]
 refine wp_exit (wp_seq ?_)
 refine rP [.int .i64 0, .int .i64 0] 2 0 s24 (.c (pq fun a w' H => ra (rfl : a.eval (.const (.int .i64 0)) = .int .i64 0)) (.c (pq fun a w' H => ra (rfl : a.eval (.const (.int .i64 0)) = .int .i64 0)) .nil)) fun A w43 T => ?_
 have ⟨y0, y3, y4, y5, y6, y14, y16, y25, y29, y30⟩ := T.r10 y0 y3 y4 y5 y6 y14 y16 y25 y29 y30
 have ⟨y31, y32⟩ := T.r2 y31 y32
 have Oall_43 := T.g Oall_24
 have Fx_ := T.f Fx_
 have Ox_43 := T.g Ox_24
 have y9 := T.u 0 9
 have y10 := T.u 1 10
 have ⟨d43, s43, bl43⟩ := T.h d24 s24 bl24
 clear T
 refine tail_nil (wp_seq (wp_seq ?_))
 refine rP [v_8, .int .i64 ((l.length : Nat) : Int), .int .i64 0] 3 0 s43 (.c (qq 3 y3) (.c (pv fun a w' H => vr (v := .int .i64 ((l.length : Nat) : Int)) rfl (run_len_sl rfl Tryd.underlying37 (H.d 0 52) (Reads.below Fx_ H.below))) (.c (pq fun a w' H => rv (rfl : a.eval (.const (.int .i64 0)) = .int .i64 0)) .nil))) fun A w44 T => ?_
 have ⟨y0, y3, y4, y5, y6, y9, y10, y14, y16, y25⟩ := T.r10 y0 y3 y4 y5 y6 y9 y10 y14 y16 y25
 have ⟨y29, y30, y31, y32⟩ := T.r4 y29 y30 y31 y32
 have Oall_44 := T.g Oall_43
 have Ox_44 := T.g Ox_43
 have y52 := T.u 0 52
 have y53 := T.u 1 53
 have y54 := T.u 2 54
 have ⟨d44, s44, bl44⟩ := T.h d43 s43 bl43
 clear T
 refine tail_nil (wp_block ?_)
 refine loopN (fun n a w' => ∃ (j : Nat), l.length - j = n ∧ (j ≤ l.length) ∧ (w'.ownsRow w.heap.size 48 1 outv fin.length (List.map (·.2) fin)) ∧ (w'.ownsRow w.heap.size 30 5 v_8 l.length (Evt.cells l)) ∧ a.defers = [] ∧ a.tmps.size = 81 ∧ Below w.heap.size w w' ∧ a.eval (.tmp 0) = v ∧ a.eval (.tmp 3) = v_8 ∧ a.eval (.tmp 4) = outv ∧ a.eval (.tmp 5) = .int .i64 ((Dc.graphsF l).2) ∧ a.eval (.tmp 6) = .int .i64 ((Dc.sumG (List.take k fin) : Nat) : Int) ∧ a.eval (.tmp 9) = .int .i64 ((Evt.cntP Evt.isBegin (List.take j l) : Nat) : Int) ∧ a.eval (.tmp 10) = .int .i64 ((Evt.cntP Evt.isAlias (List.take j l) : Nat) : Int) ∧ a.eval (.tmp 14) = .bool q14 ∧ a.eval (.tmp 16) = .bool q16 ∧ a.eval (.tmp 25) = .bool q25 ∧ a.eval (.tmp 29) = outv ∧ a.eval (.tmp 30) = .int .i64 ((fin.length : Nat) : Int) ∧ a.eval (.tmp 31) = .int .i64 (k : Nat) ∧ a.eval (.tmp 32) = .bool q32 ∧ a.eval (.tmp 52) = v_8 ∧ a.eval (.tmp 53) = .int .i64 ((l.length : Nat) : Int) ∧ a.eval (.tmp 54) = .int .i64 (j : Nat)) (n0 := l.length - 0) ?_ ?_
 ·exact ⟨0, rfl, Nat.zero_le _, Oall_44, Ox_44, d44, s44, bl44, y0, y3, y4, y5, y6, (y9.trans (by first | rfl | (congr 1; rw [i64_id (by omega) (by omega)]; omega) | (congr 1; omega) | (simp; done))), (y10.trans (by first | rfl | (congr 1; rw [i64_id (by omega) (by omega)]; omega) | (congr 1; omega) | (simp; done))), y14, y16, y25, y29, y30, y31, y32, y52, y53, (y54.trans (by first | rfl | (congr 1; rw [i64_id (by omega) (by omega)]; omega) | (congr 1; omega) | (simp; done)))⟩
 rintro n A w45 ⟨j, rfl, hc0_45, hc1_45, hc2_45, d45, s45, bl45, y0, y3, y4, y5, y6, y9, y10, y14, y16, y25, y29, y30, y31, y32, y52, y53, y54⟩
 have hj1 := hc0_45
 have Fall_ := Reads.of_own hc1_45
 have Fx_ := Reads.of_own hc2_45
 refine wp_seq ?_
 obtain ⟨q55, Bq55⟩ := nm (decide ((j : Nat) < ((l.length : Nat) : Int)))
 refine rS [.bool q55] (fun _ => .plain) 1 0 s45 ?_ ?_
 ·refine .c ?_ (.nil)
  ·exact pv fun a w' H => vr (bb Bq55) (o2 (H.q 54 y54) (H.q 53 y53))
 intro A w46 T
 have ⟨y0, y3, y4, y5, y6, y9, y10, y14, y16, y25⟩ := T.r10 y0 y3 y4 y5 y6 y9 y10 y14 y16 y25
 have ⟨y29, y30, y31, y32, y52, y53, y54⟩ := T.r7 y29 y30 y31 y32 y52 y53 y54
 have Fall_ := T.f Fall_
 have Oall_46 := T.g hc1_45
 have Fx_ := T.f Fx_
 have Ox_46 := T.g hc2_45
 have y55 := T.u 0 55
 have ⟨d46, s46, bl46⟩ := T.h d45 s45 bl45
 clear T
 refine tail_nil (wp_seq ?_)
 refine wp_cond_split y55 (fun hq => ?_) (fun hq => ?_)
 ·
  have c55 := Bq55.symm.trans hq
  clear hq
  have c55 := of_decide_eq_true c55
  have hj0 : j < l.length := by omega
  have hc1 := Evt.cntP_le Evt.isBegin l j
  have hc2 := Evt.cntP_le Evt.isAlias l j
  refine wp_skip (wp_seq ?_)
  refine wp_block (wp_seq ?_)
  refine regionT (n := 4) rfl (tail_val (w1 := w46) (v := elemPtr v_8 (j * 5)) rfl rfl rfl ?_ s46 rfl ?_)
  ·exact run_index_sl rfl Tryd.underlying37 (by kernel_rfl) y52 (y54.trans (congrArg (Value.int _) (show (j : Nat) = ((j : Nat) : Int) from by omega))) Fx_ (by omega) rfl
  intro A d48 s48 y56 hr
  have ⟨y0, y3, y4, y5, y6, y9, y10, y14, y16, y25⟩ := k10 hr y0 y3 y4 y5 y6 y9 y10 y14 y16 y25
  have ⟨y29, y30, y31, y32, y52, y53, y54⟩ := k7 hr y29 y30 y31 y32 y52 y53 y54
  have d48 := d48.trans d46
  refine tail_val (w1 := w46) (v := .agg #[.int .i64 ((l.getD j default).kind), .string ((l.getD j default).anchor), .string ((l.getD j default).tag), .string ((l.getD j default).text), .bool ((l.getD j default).plain)]) rfl rfl rfl ?_ s48 rfl ?_
  ·exact run_load_els [.int .i64 ((l.getD j default).kind), .string ((l.getD j default).anchor), .string ((l.getD j default).tag), .string ((l.getD j default).text), .bool ((l.getD j default).plain)] rfl y56 Fx_ (Evt.cells_at l j (by omega)) rfl Tryd.underlying30 rfl (by kernel_rfl)
  intro A d49 s49 y57 hr
  have ⟨y0, y3, y4, y5, y6, y9, y10, y14, y16, y25⟩ := k10 hr y0 y3 y4 y5 y6 y9 y10 y14 y16 y25
  have ⟨y29, y30, y31, y32, y52, y53, y54⟩ := k7 hr y29 y30 y31 y32 y52 y53 y54
  have d49 := d49.trans d48
  refine tail_ex rfl rfl rfl (alloc_ex (cs := #[.int .i64 0, .string ⟨#[]⟩, .string ⟨#[]⟩, .string ⟨#[]⟩, .bool false]) rfl (by kernel_rfl)) s49 rfl fun v_50 w50 A R d50 s50 y12 hr => ?_
  obtain ⟨g12_50, ev_50, rg_50, lg12_, kg12_, b_50⟩ := R
  have ⟨y0, y3, y4, y5, y6, y9, y10, y14, y16, y25⟩ := k10 hr y0 y3 y4 y5 y6 y9 y10 y14 y16 y25
  have ⟨y29, y30, y31, y32, y52, y53, y54, y57⟩ := k8 hr y29 y30 y31 y32 y52 y53 y54 y57
  have d50 := d50.trans d49
  have og12_50 : w.heap.size ≤ g12_50 := Nat.le_trans bl46.size rg_50
  have Oall_50 := own_below Oall_46 b_50
  have Ox_50 := own_below Ox_46 b_50
  have bl50 := bl46.trans (b_50.mono bl46.size)
  rw [ev_50] at y12
  have ap_all_50 := own_new Oall_46 rg_50
  have ap_x_50 := own_new Ox_46 rg_50
  refine tail_put [.int .i64 ((l.getD j default).kind), .string ((l.getD j default).anchor), .string ((l.getD j default).tag), .string ((l.getD j default).text), .bool ((l.getD j default).plain)] (n := 0) (new := #[.int .i64 ((l.getD j default).kind), .string ((l.getD j default).anchor), .string ((l.getD j default).tag), .string ((l.getD j default).text), .bool ((l.getD j default).plain)]) rfl rfl rfl kg12_ rfl ?_ fun w51 S => ?_
  ·have e0 : A.eval (.tmp 12) = .pointer (some ⟨g12_50, 0, none⟩) := y12
   have e1 : A.eval (.tmp 57) = .agg #[.int .i64 ((l.getD j default).kind), .string ((l.getD j default).anchor), .string ((l.getD j default).tag), .string ((l.getD j default).text), .bool ((l.getD j default).plain)] := y57
   have z0 := (Eng.cells kg12_ (0)).trans (rfl)
   have f0 := unfrozen kg12_ (0)
   have z1 := (Eng.cells kg12_ (1)).trans (rfl)
   have f1 := unfrozen kg12_ (1)
   have z2 := (Eng.cells kg12_ (2)).trans (rfl)
   have f2 := unfrozen kg12_ (2)
   have z3 := (Eng.cells kg12_ (3)).trans (rfl)
   have f3 := unfrozen kg12_ (3)
   have z4 := (Eng.cells kg12_ (4)).trans (rfl)
   have f4 := unfrozen kg12_ (4)
   simp only [execOp]
   rw [e0, e1]
   go_simp
   try rfl
  have kg12_50_ := S.new
  have lg12_50_ := Nat.lt_of_lt_of_eq lg12_ S.size.symm
  have bl51 := S.below bl50 og12_50
  have Oall_51 := own_sets_ap Oall_50 S ap_all_50
  have Ox_51 := own_sets_ap Ox_50 S ap_x_50
  clear S
  refine tail_nil (wp_seq ?_)
  refine rP [.pointer (some ⟨g12_50, 0, none⟩), .int .i64 ((l.getD j default).kind)] 2 0 s50 (.c (pq fun a w' H => fb Tryd.underlying30 0 (H.q 12 y12)) (.c (pq fun a w' H => lb (H.d 0 58) (H.x lg12_50_ kg12_50_)) .nil)) fun A w52 T => ?_
  have ⟨y0, y3, y4, y5, y6, y9, y10, y14, y16, y25⟩ := T.r10 y0 y3 y4 y5 y6 y9 y10 y14 y16 y25
  have ⟨y29, y30, y31, y32, y52, y53, y54⟩ := T.r7 y29 y30 y31 y32 y52 y53 y54
  have Oall_52 := T.g Oall_51
  have Ox_52 := T.g Ox_51
  have y59 := T.u 1 59
  have ⟨d52, s52, bl52⟩ := T.h d50 s50 bl51
  clear T
  refine tail_nil (wp_block ?_)
  refine wp_seq ?_
  obtain ⟨q61, Bq61⟩ := nm (((l.getD j default).kind) == 0)
  refine rP [.bool q61, .bool q61] 2 0 s52 (.c (pv fun a w' H => vr (bb Bq61) (ok (.int .i64 0) (H.q 59 y59))) (.c (qe 0 61) .nil)) fun A w53 T => ?_
  have ⟨y0, y3, y4, y5, y6, y9, y10, y14, y16, y25⟩ := T.r10 y0 y3 y4 y5 y6 y9 y10 y14 y16 y25
  have ⟨y29, y30, y31, y32, y52, y53, y54, y59⟩ := T.r8 y29 y30 y31 y32 y52 y53 y54 y59
  have Oall_53 := T.g Oall_52
  have Ox_53 := T.g Ox_52
  have y60 := T.u 1 60
  have ⟨d53, s53, bl53⟩ := T.h d52 s52 bl52
  clear T
  refine tail_nil (wp_cond_split y60 (fun hq => ?_) (fun hq => ?_))
  ·
   have c60 := Bq61.symm.trans hq
   clear hq
   have h0 : (l.getD j default).kind = 0 := by simpa using c60
   have hcb := Evt.cntP_is (p := Evt.isBegin) hj0 (by unfold Evt.isBegin; rw [h0]; rfl)
   have hca := Evt.cntP_not (p := Evt.isAlias) hj0 (by unfold Evt.isAlias; rw [h0]; rfl)
   refine rP [.int .i64 ((Evt.cntP Evt.isBegin (List.take j l) : Nat) : Int), .int .i64 (IntKind.i64.wrap (((Evt.cntP Evt.isBegin (List.take j l) : Nat) : Int) + 1)), .int .i64 (IntKind.i64.wrap (((Evt.cntP Evt.isBegin (List.take j l) : Nat) : Int) + 1))] 3 0 s53 (.c (qq 9 y9) (.c (pv fun a w' H => vr (v := .int .i64 (IntKind.i64.wrap (((Evt.cntP Evt.isBegin (List.take j l) : Nat) : Int) + 1))) rfl (ok (.int .i64 1) (H.d 0 62))) (.c (qe 1 63) .nil))) fun A w55 T => ?_
   have ⟨y0, y3, y4, y5, y6, y10, y14, y16, y25, y29⟩ := T.r10 y0 y3 y4 y5 y6 y10 y14 y16 y25 y29
   have ⟨y30, y31, y32, y52, y53, y54⟩ := T.r6 y30 y31 y32 y52 y53 y54
   have Oall_55 := T.g Oall_53
   have Ox_55 := T.g Ox_53
   have y9 := T.u 2 9
   have ⟨d55, s55, bl55⟩ := T.h d53 s53 bl53
   clear T
   refine tail_nil (rP [.int .i64 (IntKind.i64.wrap ((j : Nat) + 1)), .int .i64 (IntKind.i64.wrap ((j : Nat) + 1))] 2 0 s55 (.c (pv fun a w' H => vr (v := .int .i64 (IntKind.i64.wrap ((j : Nat) + 1))) rfl (ok (.int .i64 1) (H.q 54 y54))) (.c (qd 0 68) .nil)) fun A w56 T => ?_)
   have ⟨y0, y3, y4, y5, y6, y9, y10, y14, y16, y25⟩ := T.r10 y0 y3 y4 y5 y6 y9 y10 y14 y16 y25
   have ⟨y29, y30, y31, y32, y52, y53⟩ := T.r6 y29 y30 y31 y32 y52 y53
   have Oall_56 := T.g Oall_55
   have Ox_56 := T.g Ox_55
   have y54 := T.u 1 54
   have ⟨d56, s56, bl56⟩ := T.h d55 s55 bl55
   clear T
   exact tail_nil (⟨_, by omega, j + 1, rfl, by omega, Oall_56, Ox_56, d56, s56, bl56, y0, y3, y4, y5, y6, (y9.trans (by first | rfl | (congr 1; rw [i64_id (by omega) (by omega)]; omega) | (congr 1; omega) | (simp; done))), (y10.trans (by first | rfl | (congr 1; rw [i64_id (by omega) (by omega)]; omega) | (congr 1; omega) | (simp; done))), y14, y16, y25, y29, y30, y31, y32, y52, y53, (y54.trans (by first | rfl | (congr 1; rw [i64_id (by omega) (by omega)]; omega) | (congr 1; omega) | (simp; done)))⟩)
  have c60 := Bq61.symm.trans hq
  clear hq
  have h0 : ¬ (l.getD j default).kind = 0 := by simpa using c60
  have hcb := Evt.cntP_not (p := Evt.isBegin) hj0 (by unfold Evt.isBegin; simpa using h0)
  refine wp_seq ?_
  obtain ⟨q65, Bq65⟩ := nm (((l.getD j default).kind) == 7)
  refine rP [.bool q65, .bool q65] 2 0 s53 (.c (pv fun a w' H => vr (bb Bq65) (ok (.int .i64 7) (H.q 59 y59))) (.c (qe 0 65) .nil)) fun A w58 T => ?_
  have ⟨y0, y3, y4, y5, y6, y9, y10, y14, y16, y25⟩ := T.r10 y0 y3 y4 y5 y6 y9 y10 y14 y16 y25
  have ⟨y29, y30, y31, y32, y52, y53, y54⟩ := T.r7 y29 y30 y31 y32 y52 y53 y54
  have Oall_58 := T.g Oall_53
  have Ox_58 := T.g Ox_53
  have y64 := T.u 1 64
  have ⟨d58, s58, bl58⟩ := T.h d53 s53 bl53
  clear T
  refine tail_nil (wp_cond_split y64 (fun hq => ?_) (fun hq => ?_))
  ·
   have c64 := Bq65.symm.trans hq
   clear hq
   have h7 : (l.getD j default).kind = 7 := by simpa using c64
   have hca := Evt.cntP_is (p := Evt.isAlias) hj0 (by unfold Evt.isAlias; rw [h7]; rfl)
   refine rP [.int .i64 ((Evt.cntP Evt.isAlias (List.take j l) : Nat) : Int), .int .i64 (IntKind.i64.wrap (((Evt.cntP Evt.isAlias (List.take j l) : Nat) : Int) + 1)), .int .i64 (IntKind.i64.wrap (((Evt.cntP Evt.isAlias (List.take j l) : Nat) : Int) + 1))] 3 0 s58 (.c (qq 10 y10) (.c (pv fun a w' H => vr (v := .int .i64 (IntKind.i64.wrap (((Evt.cntP Evt.isAlias (List.take j l) : Nat) : Int) + 1))) rfl (ok (.int .i64 1) (H.d 0 66))) (.c (qe 1 67) .nil))) fun A w60 T => ?_
   have ⟨y0, y3, y4, y5, y6, y9, y14, y16, y25, y29⟩ := T.r10 y0 y3 y4 y5 y6 y9 y14 y16 y25 y29
   have ⟨y30, y31, y32, y52, y53, y54⟩ := T.r6 y30 y31 y32 y52 y53 y54
   have Oall_60 := T.g Oall_58
   have Ox_60 := T.g Ox_58
   have y10 := T.u 2 10
   have ⟨d60, s60, bl60⟩ := T.h d58 s58 bl58
   clear T
   refine tail_nil (rP [.int .i64 (IntKind.i64.wrap ((j : Nat) + 1)), .int .i64 (IntKind.i64.wrap ((j : Nat) + 1))] 2 0 s60 (.c (pv fun a w' H => vr (v := .int .i64 (IntKind.i64.wrap ((j : Nat) + 1))) rfl (ok (.int .i64 1) (H.q 54 y54))) (.c (qd 0 68) .nil)) fun A w61 T => ?_)
   have ⟨y0, y3, y4, y5, y6, y9, y10, y14, y16, y25⟩ := T.r10 y0 y3 y4 y5 y6 y9 y10 y14 y16 y25
   have ⟨y29, y30, y31, y32, y52, y53⟩ := T.r6 y29 y30 y31 y32 y52 y53
   have Oall_61 := T.g Oall_60
   have Ox_61 := T.g Ox_60
   have y54 := T.u 1 54
   have ⟨d61, s61, bl61⟩ := T.h d60 s60 bl60
   clear T
   exact tail_nil (⟨_, by omega, j + 1, rfl, by omega, Oall_61, Ox_61, d61, s61, bl61, y0, y3, y4, y5, y6, (y9.trans (by first | rfl | (congr 1; rw [i64_id (by omega) (by omega)]; omega) | (congr 1; omega) | (simp; done))), (y10.trans (by first | rfl | (congr 1; rw [i64_id (by omega) (by omega)]; omega) | (congr 1; omega) | (simp; done))), y14, y16, y25, y29, y30, y31, y32, y52, y53, (y54.trans (by first | rfl | (congr 1; rw [i64_id (by omega) (by omega)]; omega) | (congr 1; omega) | (simp; done)))⟩)
  have c64 := Bq65.symm.trans hq
  clear hq
  have h7 : ¬ (l.getD j default).kind = 7 := by simpa using c64
  have hca := Evt.cntP_not (p := Evt.isAlias) hj0 (by unfold Evt.isAlias; simpa using h7)
  refine wp_skip (rP [.int .i64 (IntKind.i64.wrap ((j : Nat) + 1)), .int .i64 (IntKind.i64.wrap ((j : Nat) + 1))] 2 0 s58 (.c (pv fun a w' H => vr (v := .int .i64 (IntKind.i64.wrap ((j : Nat) + 1))) rfl (ok (.int .i64 1) (H.q 54 y54))) (.c (qd 0 68) .nil)) fun A w63 T => ?_)
  have ⟨y0, y3, y4, y5, y6, y9, y10, y14, y16, y25⟩ := T.r10 y0 y3 y4 y5 y6 y9 y10 y14 y16 y25
  have ⟨y29, y30, y31, y32, y52, y53⟩ := T.r6 y29 y30 y31 y32 y52 y53
  have Oall_63 := T.g Oall_58
  have Ox_63 := T.g Ox_58
  have y54 := T.u 1 54
  have ⟨d63, s63, bl63⟩ := T.h d58 s58 bl58
  clear T
  exact tail_nil (⟨_, by omega, j + 1, rfl, by omega, Oall_63, Ox_63, d63, s63, bl63, y0, y3, y4, y5, y6, (y9.trans (by first | rfl | (congr 1; rw [i64_id (by omega) (by omega)]; omega) | (congr 1; omega) | (simp; done))), (y10.trans (by first | rfl | (congr 1; rw [i64_id (by omega) (by omega)]; omega) | (congr 1; omega) | (simp; done))), y14, y16, y25, y29, y30, y31, y32, y52, y53, (y54.trans (by first | rfl | (congr 1; rw [i64_id (by omega) (by omega)]; omega) | (congr 1; omega) | (simp; done)))⟩)
 have c55 := Bq55.symm.trans hq
 clear hq
 have c55 := of_decide_eq_false c55
 have hje : j = l.length := by omega
 have hcA := Evt.cntP_end (p := Evt.isAlias) hje
 have hcB := Evt.cntP_end (p := Evt.isBegin) hje
 have hla := Evt.cntP_le Evt.isTold l l.length
 rw [List.take_length] at hla
 have hdocs : (fin.length : Int) = ((Evt.cntP Evt.isBegin (List.take j l) : Nat) : Int) := by rw [hcB, ← hP.docs, ← hmf, List.length_map]
 have htold := hP.told
 rw [← hmf] at htold
 have htold2 : Dc.sumG fin + Evt.cntP Evt.isAlias l = Evt.cntP Evt.isTold l := htold
 have hsum : IntKind.i64.wrap (((Evt.cntP Evt.isTold l : Nat) : Int) - ((Evt.cntP Evt.isAlias (List.take j l) : Nat) : Int)) = ((Dc.sumG fin : Nat) : Int) := by rw [hcA, i64_id (by omega) (by omega)]; omega
 refine wp_exit (wp_seq ?_)
 refine (wpIn_wide (n := 1)).1 (EngI.regionT (n := 13) rfl ?_)
 refine EngI.tw rfl (rv y4) s46 d46 fun A d65 s65 y69 hr => ?_
 have ⟨y3, y6, y9, y10⟩ := k4 hr y3 y6 y9 y10
 refine EngI.tw (w1 := w46) (v := .int .i64 ((fin.length : Nat) : Int)) rfl ?_ s65 d65 ?_
 ·exact run_len_sl rfl Tryd.underlying34 y69 Fall_
 intro A d66 s66 y70 hr
 have ⟨y3, y6, y9, y10⟩ := k4 hr y3 y6 y9 y10
 refine EngI.tw rfl (rv y9) s66 d66 fun A d67 s67 y71 hr => ?_
 have ⟨y3, y6, y10, y70⟩ := k4 hr y3 y6 y10 y70
 refine EngI.tw (w1 := w46) (v := .bool (((fin.length : Nat) : Int) == ((Evt.cntP Evt.isBegin (List.take j l) : Nat) : Int))) rfl (o2 y70 y71) s67 d67 ?_
 intro A d68 s68 hv hr
 have ⟨y3, y6, y10⟩ := k3 hr y3 y6 y10
 have y72 : A.eval (.tmp 72) = .bool true := hv.trans (congrArg Value.bool ((by rw [hdocs, beq_self_eq_true]) : _ = true))
 clear hv hr
 refine EngI.tw rfl (rv y72) s68 d68 fun A d69 s69 y73 hr => ?_
 have ⟨y3, y6, y10⟩ := k3 hr y3 y6 y10
 refine EngG.tail_val EngI.free_wide rfl (EngG.wanted_on (want := true) rfl rfl rfl (by rw [s69]; decide) y73) rfl rfl (rv y6) s69 rfl fun A d70 s70 y74 hr => ?_
 have ⟨y3, y10, y73⟩ := k3 hr y3 y10 y73
 have d70 := d70.trans d69
 refine EngG.tail_val EngI.free_wide rfl (EngG.wanted_on (want := true) rfl rfl rfl (by rw [s70]; decide) y73) rfl rfl (rv y3) s70 rfl fun A d71 s71 y75 hr => ?_
 have ⟨y10, y73, y74⟩ := k3 hr y10 y73 y74
 have d71 := d71.trans d70
 refine EngG.tail_call EngI.free_wide Tryd.func22 (by kernel_rfl) (by kernel_rfl) rfl (EngG.wanted_on (want := true) rfl rfl rfl (by rw [s71]; decide) y73) rfl rfl #[v_8] (m1 y75) s71 rfl (R := fun v w_ => v = .int .i64 ((Evt.cntP Evt.isTold l : Nat) : Int) ∧ Below w46.heap.size w46 w_) ((Evt.nodes_calls v_8 l _ Fx_).mono ?_) fun v_72 w72 A R d72 s72 hv hr => ?_
 ·rintro e w_ ⟨rfl, hb⟩; exact ⟨_, rfl, rfl, hb⟩
 obtain ⟨ev_72, b_72⟩ := R
 have ⟨y10, y73, y74⟩ := k3 hr y10 y73 y74
 have y76 : A.eval (.tmp 76) = .int .i64 ((Evt.cntP Evt.isTold l : Nat) : Int) := (hv.trans ev_72)
 have d72 := d72.trans d71
 clear hv hr
 have bl72 := bl46.trans (b_72.mono bl46.size)
 refine EngG.tail_val EngI.free_wide rfl (EngG.wanted_on (want := true) rfl rfl rfl (by rw [s72]; decide) y73) rfl rfl (rv y10) s72 rfl fun A d73 s73 y77 hr => ?_
 have ⟨y73, y74, y76⟩ := k3 hr y73 y74 y76
 have d73 := d73.trans d72
 refine EngG.tail_val (w1 := w72) (v := .int .i64 (IntKind.i64.wrap (((Evt.cntP Evt.isTold l : Nat) : Int) - ((Evt.cntP Evt.isAlias (List.take j l) : Nat) : Int)))) EngI.free_wide rfl (EngG.wanted_on (want := true) rfl rfl rfl (by rw [s73]; decide) y73) rfl rfl (o2 y76 y77) s73 rfl ?_
 intro A d74 s74 y78 hr
 have ⟨y73, y74⟩ := k2 hr y73 y74
 have d74 := d74.trans d73
 refine EngG.tail_val (w1 := w72) (v := .bool (((Dc.sumG (List.take k fin) : Nat) : Int) == (IntKind.i64.wrap (((Evt.cntP Evt.isTold l : Nat) : Int) - ((Evt.cntP Evt.isAlias (List.take j l) : Nat) : Int))))) EngI.free_wide rfl (EngG.wanted_on (want := true) rfl rfl rfl (by rw [s74]; decide) y73) rfl rfl (o2 y74 y78) s74 rfl ?_
 intro A d75 s75 hv hr
 have y73 := k1 hr y73
 have y79 : A.eval (.tmp 79) = .bool true := hv.trans (congrArg Value.bool ((by rw [hsum, hsk2, beq_self_eq_true]) : _ = true))
 have d75 := d75.trans d74
 clear hv hr
 refine EngI.tw rfl (run_pick rfl y73 (v := .bool true) (by exact y79)) s75 d75 fun A d76 s76 y80 hr => EngI.tw rfl (ra y80) s76 d76 fun A d77 s77 y2 hr => EngI.tail_nil (wp_ret ?_)
 repeat (first | with_reducible refine in_ret ?_ | with_reducible refine then_ret ?_)
 exact ret1 rfl d77 y2 ⟨rfl, bl72⟩
end Go.Proofs.YtgnmjaacnmkgnaaDoor.X
end
section
namespace Go.Proofs.YtgnmjaacnmkgnaaDoor.X
open Go.RowKit Go.Shelf Go.Proofs Go.Maps
set_option linter.unusedVariables false
set_option linter.unusedSimpArgs false
namespace Evt
theorem cntP_cons (p : Ev → Bool) (x : Ev) (l : List Ev) : cntP p (x :: l) = cntP p l + if p x = true then 1 else 0 := by unfold cntP; rw [List.countP_cons]
end Evt
namespace Dc
open Evt (takeF pop more Ev cntP isBegin isTold isAlias)
theorem run_good : ∀ (l : List Ev) (st : List (Int × Int)) (d : Dc) (out : List (List Nd)) (k : Nat), Evt.rightR Evt.rightE st l = true → Tr st d k → k + l.length ≤ 100000 → (∀ x ∈ l, x.text.size ≤ 2000 ∧ x.tag.size ≤ 2000) → (∀ nd ∈ out, GoodG nd) → (runF d out l).2 = 0 →
    (∀ nd ∈ (runF d out l).1, GoodG nd) ∧ (runF d out l).1.length = out.length + cntP isBegin l + (if st.isEmpty = true then 0 else 1) ∧ sumL (runF d out l).1 + cntP isAlias l = sumL out + cntP isTold l + (if st.isEmpty = true then 0 else d.nodes.length) := by
  intro l
  induction l with
  | nil =>
    intro st d out k hr _ _ _ ho _
    rw [Evt.rightR] at hr
    rw [hr]
    exact ⟨ho, rfl, rfl⟩
  | cons x t ih =>
    intro st d out k hr hT hk hs ho he
    simp only [List.length_cons] at hk
    rw [Evt.rightR, Bool.and_eq_true] at hr
    obtain ⟨hre, hr⟩ := hr
    have hsx := hs x (List.mem_cons_self ..)
    have hst : ∀ y ∈ t, y.text.size ≤ 2000 ∧ y.tag.size ≤ 2000 := fun y hy => hs y (List.mem_cons_of_mem _ hy)
    cases hq : takeF st x.kind with
    | none => rw [hq] at hr; exact absurd hr (by simp)
    | some st' =>
      rw [hq] at hr
      simp only at hr
      rw [runF] at he ⊢
      have hs0 : (stepF d x).2.2 = 0 := by
        apply Classical.byContradiction
        intro hf
        rw [if_neg hf] at he; exact hf he
      rw [if_pos hs0] at he ⊢
      rw [Evt.cntP_cons, Evt.cntP_cons, Evt.cntP_cons]
      by_cases h0 : x.kind = 0
      · rw [h0] at hq
        obtain ⟨e1, e2⟩ := take_begin_st hq
        subst e1; subst e2
        rw [stepF_0 h0] at he ⊢
        simp only [Bool.false_eq_true, if_false] at he ⊢
        obtain ⟨r1, r2, r3⟩ := ih [(0, 0)] ⟨[], [], []⟩ out (k + 1) hr (Tr.begin' _) (by omega) hst ho he
        refine ⟨r1, ?_, ?_⟩
        · rw [r2]; simp [isBegin, h0]; omega
        · simp [isTold, isAlias, Evt.isNode, h0] at r3 ⊢; omega
      · by_cases h1 : x.kind = 1
        · rw [h1] at hq
          have hne : st ≠ [] := by rintro rfl; exact absurd (take_empty hq) (by decide)
          have hse : st.isEmpty = false := by cases st with | nil => exact absurd rfl hne | cons => rfl
          have e2 := rel_end hq (hT.rel hne)
          subst e2
          have htw : twiceF d.nodes = false := by
            rw [stepF_1 h1] at hs0
            simp only at hs0
            cases hw : twiceF d.nodes with
            | false => rfl
            | true => rw [hw] at hs0; cases hs0
          have hgood := hT.over (by omega) hq htw
          rw [stepF_1 h1] at he ⊢
          simp only [htw, Bool.not_false, if_true] at he ⊢
          obtain ⟨r1, r2, r3⟩ := ih [] d (out ++ [d.nodes]) (k + 1) hr hT.empty (by omega) hst (fun nd hnd => by
            rcases List.mem_append.1 hnd with h | h
            · exact ho nd h
            · rw [List.mem_singleton.1 h]; exact hgood) he
          refine ⟨r1, ?_, ?_⟩
          · rw [r2, hse]; simp [isBegin, h1]; omega
          · rw [sumL_app] at r3
            have es : sumL [d.nodes] = d.nodes.length := rfl
            rw [es] at r3
            rw [hse]; simp [isTold, isAlias, Evt.isNode, h1] at r3 ⊢; omega
        · have hne : st ≠ [] := by rintro rfl; exact h0 (take_empty hq)
          have hse : st.isEmpty = false := by cases st with | nil => exact absurd rfl hne | cons => rfl
          have hb0 : isBegin x = false := by unfold isBegin; rw [beq_eq_false_iff_ne]; exact h0
          have key : ∀ (d' : Dc) (n : Nat), stepF d x = (d', false, 0) → Tr st' d' (k + 1) → st' ≠ [] → d'.nodes.length = d.nodes.length + n → (n = (if isTold x = true then 1 else 0) - (if isAlias x = true then 1 else 0)) → ((if isAlias x = true then 1 else 0) ≤ (if isTold x = true then 1 else 0 : Nat)) →
              (∀ nd ∈ (runF (stepF d x).1 (if (stepF d x).2.1 = true then out ++ [(stepF d x).1.nodes] else out) t).1, GoodG nd) ∧ (runF (stepF d x).1 (if (stepF d x).2.1 = true then out ++ [(stepF d x).1.nodes] else out) t).1.length = out.length + (cntP isBegin t + if isBegin x = true then 1 else 0) + (if st.isEmpty = true then 0 else 1) ∧
                sumL (runF (stepF d x).1 (if (stepF d x).2.1 = true then out ++ [(stepF d x).1.nodes] else out) t).1 + (cntP isAlias t + if isAlias x = true then 1 else 0) = sumL out + (cntP isTold t + if isTold x = true then 1 else 0) + (if st.isEmpty = true then 0 else d.nodes.length) := by
            intro d' n hstep hT' hne' hln hnn hle
            rw [hstep] at he ⊢
            simp only [Bool.false_eq_true, if_false] at he ⊢
            have hse' : st'.isEmpty = false := by cases st' with | nil => exact absurd rfl hne' | cons => rfl
            obtain ⟨r1, r2, r3⟩ := ih st' d' out (k + 1) hr hT' (by omega) hst ho he
            rw [hse'] at r2 r3
            rw [hse, hb0]
            simp only [Bool.false_eq_true, if_false] at r2 r3 ⊢
            refine ⟨r1, by omega, ?_⟩
            rw [hln] at r3
            omega
          by_cases h3 : x.kind = 3
          · rw [h3, Evt.takeF_3] at hq
            have hT' := hT.close hne (.inl rfl) (fun h => absurd h (by decide)) hq
            refine key _ 0 (stepF_3 (.inl h3)) hT' ?_ rfl (by simp [isTold, isAlias, Evt.isNode, h3]) (by simp [isTold, isAlias, Evt.isNode, h3])
            obtain ⟨pre, o, _, hrel⟩ := rel_close hq (.inl rfl) (hT.rel hne)
            obtain ⟨m, r, e, _⟩ := hrel
            rw [e]; simp
          · by_cases h5 : x.kind = 5
            · rw [h5, Evt.takeF_5] at hq
              have hT' := hT.close hne (.inr rfl) (fun _ z hz => by unfold Evt.even at hz; simpa using hz) hq
              refine key _ 0 (stepF_3 (.inr h5)) hT' ?_ rfl (by simp [isTold, isAlias, Evt.isNode, h5]) (by simp [isTold, isAlias, Evt.isNode, h5])
              obtain ⟨pre, o, _, hrel⟩ := rel_close hq (.inr rfl) (hT.rel hne)
              obtain ⟨m, r, e, _⟩ := hrel
              rw [e]; simp
            · by_cases h7 : x.kind = 7
              · have hmo : st' = more st := by
                  rw [h7, Evt.takeF_x _ _ (by decide) (by decide) (by decide) (by decide), hse] at hq
                  simp at hq; exact hq.symm
                rw [stepF_7 h7] at hs0
                have hT' := hT.alias hne (by omega) hs0
                rw [← hmo] at hT'
                refine key _ 0 (by rw [stepF_7 h7]; simp only at hs0; rw [hs0]) hT' ?_ ?_ (by simp [isTold, isAlias, Evt.isNode, h7]) (by simp [isTold, isAlias, Evt.isNode, h7])
                · rw [hmo]
                  obtain ⟨m, r, e, _⟩ := rel_more (hT.rel hne)
                  rw [e]; simp
                · unfold aliasF
                  split
                  · rfl
                  · exact kidF_nlen
              · rw [stepF_x h0 h1 h3 h5 h7] at hs0
                obtain ⟨hT', hlen⟩ := hT.node hne (by omega) hre h0 h1 h3 h5 h7 hsx.1 hsx.2 hq hs0
                obtain ⟨f1, f2, _, _⟩ := Evt.right_facts hre
                have hnd : Evt.isNode x.kind = true := by
                  have : x.kind = 2 ∨ x.kind = 4 ∨ x.kind = 6 := by omega
                  unfold Evt.isNode
                  rcases this with h | h | h <;> rw [h] <;> rfl
                have h7b : (x.kind == 7) = false := by rw [beq_eq_false_iff_ne]; exact h7
                refine key _ 1 (by rw [stepF_x h0 h1 h3 h5 h7]; simp only at hs0; rw [hs0]) hT' ?_ hlen (by simp [isTold, isAlias, hnd, h7b]) (by simp [isTold, isAlias, hnd, h7b])
                rintro rfl
                rw [Evt.takeF_x _ _ h0 h1 h3 h5, hse] at hq
                simp only [Bool.false_eq_true, if_false] at hq
                obtain ⟨m, r, e, _⟩ := rel_more (hT.rel hne)
                rw [e] at hq
                split at hq <;> simp at hq
theorem pureG {l : List Ev} (h : Evt.Lt 150 l) (he : (graphsF l).2 = 0) : PureG l := by
  have hr : Evt.rightG Evt.rightE l = true := by
    apply Classical.byContradiction
    intro hf
    rw [graphsF_no (by simpa using hf)] at he; cases he
  rw [graphsF_is hr] at he
  have hl := h.1
  obtain ⟨r1, r2, r3⟩ := run_good l [] ⟨[], [], []⟩ [] 0 (rightG_R hr) Tr.start (by omega) (fun x hx => ⟨(h.2 x hx).1, (h.2 x hx).2.2⟩) (fun nd hnd => absurd hnd List.not_mem_nil) he
  refine ⟨by rw [graphsF_is hr]; exact r1, by rw [graphsF_is hr, r2]; simp, ?_⟩
  rw [graphsF_is hr, r3]; simp [sumL_nil]
theorem right_law (v : Value) (l : List Ev) (w : World) (hT : Tabs.Holds w) (hl : Eng.Reads w v l.length 5 (Evt.cells l)) (hll : l.length ≤ 2199023255488) : Calls Tryd.prog 7 #[v] w fun e w' => e = .returned (.bool true) ∧ Below w.heap.size w w' :=
  rights_walk v l w hT hl hll pureG
end Dc
end Go.Proofs.YtgnmjaacnmkgnaaDoor.X
end
