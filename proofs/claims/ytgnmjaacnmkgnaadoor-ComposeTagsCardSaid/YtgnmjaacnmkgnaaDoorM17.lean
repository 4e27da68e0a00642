/- Words and walks that the row of ComposeTags needs: printed by programs, and plain laws. -/
import Derived.Test.YtgnmjaacnmkgnaaDoorM16
import Derived.Test.YtgnmjaacnmkgnaaDoorM9
namespace Go.Proofs.YtgnmjaacnmkgnaaDoorW.PrintWords
end Go.Proofs.YtgnmjaacnmkgnaaDoorW.PrintWords
namespace Go.Proofs.YtgnmjaacnmkgnaaDoorW.PrintLast
end Go.Proofs.YtgnmjaacnmkgnaaDoorW.PrintLast
namespace Go.Proofs.YtgnmjaacnmkgnaaDoorW.PrintMore
end Go.Proofs.YtgnmjaacnmkgnaaDoorW.PrintMore
section
namespace Go.Proofs.YtgnmjaacnmkgnaaDoor.X
open Go.RowKit Go.Shelf Go.Proofs Go.Proofs.YtgnmjaacnmkgnaaDoorW.PrintWords Go.Proofs.YtgnmjaacnmkgnaaDoorW.PrintLast Go.Proofs.YtgnmjaacnmkgnaaDoorW.PrintMore
set_option linter.unusedVariables false
set_option linter.unusedSimpArgs false
attribute [local go_sem] max2_int min2_int max_two min_two
set_option maxHeartbeats 4000000 in
set_option maxRecDepth 100000 in
theorem Dal.alive_calls  (w : World) (hT : Tabs.Holds w) : Calls Tryd.prog 8 #[] w fun e w' => e = .returned (.bool true) ∧ Below w.heap.size w w' := by
 refine Eng.enter Tryd.func8 rfl fun act0 d0 s0 v0 => ?_
 have s0 : act0.tmps.size = 99 := s0
 clear v0
 have bl0 : Below w.heap.size w w := Below.refl _ _
 refine wp_seq ?_
 refine Eng.regionS (Eng.still [fun u_ => u_ = .bool false]) (fun _ => .plain) 1 0 99 s0 rfl (by kernel_rfl) (Eng.still_stable _) (Or.inr (Eng.still_any _)) ?_ ?_
 ·refine .cons (fun _ => ?_) (.nil)
  ·exact Eng.plain rfl rfl fun a w' H => Eng.vr rfl (Eng.run_assign rfl (rfl : a.eval (.const (.bool false)) = .bool false))
 intro act1 w1 T
 have d1 := T.defers.trans d0
 have s1 := T.size.trans s0
 have bl1 := bl0.trans (T.below.mono bl0.size)
 clear T
 refine Eng.tail_nil ?_
 refine wp_seq ?_
 refine (wpIn_wide (n := 1)).1 ?_
 refine EngI.regionT (n := 7) rfl ?_
 refine EngI.tail_val (w1 := w1) (v := .agg #[.int .i64 0, .string ⟨#[]⟩, .string ⟨#[]⟩, .string ⟨#[]⟩, .bool false]) EngI.free_wide rfl rfl rfl rfl ?_ s1 rfl ?_
 ·have e0 : act1.eval (.const (.int .i64 0)) = .int .i64 0 := (rfl : act1.eval (.const (.int .i64 0)) = .int .i64 0)
  simp only [execOp, resolve, e0]
  go_simp
 intro act2 d2 s2 hv hr
 have h10_2 : act2.eval (.tmp 10) = .agg #[.int .i64 0, .string ⟨#[]⟩, .string ⟨#[]⟩, .string ⟨#[]⟩, .bool false] := hv
 have d2 := d2.trans d1
 clear hv hr
 refine EngI.tail_val (w1 := w1) (v := .agg #[.int .i64 2, .string ⟨#[97]⟩, .string ⟨#[]⟩, .string ⟨#[]⟩, .bool false]) EngI.free_wide rfl rfl rfl rfl ?_ s2 rfl ?_
 ·have e0 : act2.eval (.const (.int .i64 2)) = .int .i64 2 := (rfl : act2.eval (.const (.int .i64 2)) = .int .i64 2)
  have e1 : act2.eval (.const (.string ⟨#[97]⟩)) = .string ⟨#[97]⟩ := (rfl : act2.eval (.const (.string ⟨#[97]⟩)) = .string ⟨#[97]⟩)
  simp only [execOp, resolve, e0, e1]
  go_simp
 intro act3 d3 s3 hv hr
 have h10_3 := (hr 10 rfl).trans h10_2
 have h11_3 : act3.eval (.tmp 11) = .agg #[.int .i64 2, .string ⟨#[97]⟩, .string ⟨#[]⟩, .string ⟨#[]⟩, .bool false] := hv
 have d3 := d3.trans d2
 clear hv hr
 refine EngI.tail_val (w1 := w1) (v := .agg #[.int .i64 7, .string ⟨#[97]⟩, .string ⟨#[]⟩, .string ⟨#[]⟩, .bool false]) EngI.free_wide rfl rfl rfl rfl ?_ s3 rfl ?_
 ·have e0 : act3.eval (.const (.int .i64 7)) = .int .i64 7 := (rfl : act3.eval (.const (.int .i64 7)) = .int .i64 7)
  have e1 : act3.eval (.const (.string ⟨#[97]⟩)) = .string ⟨#[97]⟩ := (rfl : act3.eval (.const (.string ⟨#[97]⟩)) = .string ⟨#[97]⟩)
  simp only [execOp, resolve, e0, e1]
  go_simp
 intro act4 d4 s4 hv hr
 have h10_4 := (hr 10 rfl).trans h10_3
 have h11_4 := (hr 11 rfl).trans h11_3
 have h12_4 : act4.eval (.tmp 12) = .agg #[.int .i64 7, .string ⟨#[97]⟩, .string ⟨#[]⟩, .string ⟨#[]⟩, .bool false] := hv
 have d4 := d4.trans d3
 clear hv hr
 refine EngI.tail_val (w1 := w1) (v := .agg #[.int .i64 3, .string ⟨#[]⟩, .string ⟨#[]⟩, .string ⟨#[]⟩, .bool false]) EngI.free_wide rfl rfl rfl rfl ?_ s4 rfl ?_
 ·have e0 : act4.eval (.const (.int .i64 3)) = .int .i64 3 := (rfl : act4.eval (.const (.int .i64 3)) = .int .i64 3)
  simp only [execOp, resolve, e0]
  go_simp
 intro act5 d5 s5 hv hr
 have h10_5 := (hr 10 rfl).trans h10_4
 have h11_5 := (hr 11 rfl).trans h11_4
 have h12_5 := (hr 12 rfl).trans h12_4
 have h13_5 : act5.eval (.tmp 13) = .agg #[.int .i64 3, .string ⟨#[]⟩, .string ⟨#[]⟩, .string ⟨#[]⟩, .bool false] := hv
 have d5 := d5.trans d4
 clear hv hr
 refine EngI.tail_val (w1 := w1) (v := .agg #[.int .i64 1, .string ⟨#[]⟩, .string ⟨#[]⟩, .string ⟨#[]⟩, .bool false]) EngI.free_wide rfl rfl rfl rfl ?_ s5 rfl ?_
 ·have e0 : act5.eval (.const (.int .i64 1)) = .int .i64 1 := (rfl : act5.eval (.const (.int .i64 1)) = .int .i64 1)
  simp only [execOp, resolve, e0]
  go_simp
 intro act6 d6 s6 hv hr
 have h10_6 := (hr 10 rfl).trans h10_5
 have h11_6 := (hr 11 rfl).trans h11_5
 have h12_6 := (hr 12 rfl).trans h12_5
 have h13_6 := (hr 13 rfl).trans h13_5
 have h14_6 : act6.eval (.tmp 14) = .agg #[.int .i64 1, .string ⟨#[]⟩, .string ⟨#[]⟩, .string ⟨#[]⟩, .bool false] := hv
 have d6 := d6.trans d5
 clear hv hr
 refine EngI.tail_ex EngI.free_wide rfl rfl rfl rfl (Eng.build_own (B := w.heap.size) (size := 5) (z := .agg #[.int .i64 0, .string ⟨#[]⟩, .string ⟨#[]⟩, .string ⟨#[]⟩, .bool false]) (us := Evt.cells Dal.l1) [(0, .agg #[.int .i64 0, .string ⟨#[]⟩, .string ⟨#[]⟩, .string ⟨#[]⟩, .bool false]), (1, .agg #[.int .i64 2, .string ⟨#[97]⟩, .string ⟨#[]⟩, .string ⟨#[]⟩, .bool false]), (2, .agg #[.int .i64 7, .string ⟨#[97]⟩, .string ⟨#[]⟩, .string ⟨#[]⟩, .bool false]), (3, .agg #[.int .i64 3, .string ⟨#[]⟩, .string ⟨#[]⟩, .string ⟨#[]⟩, .bool false]), (4, .agg #[.int .i64 1, .string ⟨#[]⟩, .string ⟨#[]⟩, .string ⟨#[]⟩, .bool false])] rfl Tryd.underlying37 (by kernel_rfl) (by have e0 : act6.eval (.tmp 10) = .agg #[.int .i64 0, .string ⟨#[]⟩, .string ⟨#[]⟩, .string ⟨#[]⟩, .bool false] := h10_6; have e1 : act6.eval (.tmp 11) = .agg #[.int .i64 2, .string ⟨#[97]⟩, .string ⟨#[]⟩, .string ⟨#[]⟩, .bool false] := h11_6; have e2 : act6.eval (.tmp 12) = .agg #[.int .i64 7, .string ⟨#[97]⟩, .string ⟨#[]⟩, .string ⟨#[]⟩, .bool false] := h12_6; have e3 : act6.eval (.tmp 13) = .agg #[.int .i64 3, .string ⟨#[]⟩, .string ⟨#[]⟩, .string ⟨#[]⟩, .bool false] := h13_6; have e4 : act6.eval (.tmp 14) = .agg #[.int .i64 1, .string ⟨#[]⟩, .string ⟨#[]⟩, .string ⟨#[]⟩, .bool false] := h14_6; simp only [List.map_toArray, List.map_cons, List.map_nil, e0, e1, e2, e3, e4]) rfl (by kernel_rfl) rfl rfl rfl bl1.size) s6 rfl fun v_7 w7 act7 R d7 s7 hv hr => ?_
 obtain ⟨O_7, b_7⟩ := R
 have h15_7 : act7.eval (.tmp 15) = v_7 := hv
 have d7 := d7.trans d6
 clear hv hr
 have bl7 := bl1.trans (b_7.mono bl1.size)
 have F_7 := Eng.Reads.of_own O_7
 refine EngI.tail_val EngI.free_wide rfl rfl rfl rfl (Eng.run_assign rfl h15_7) s7 rfl fun act8 d8 s8 hv hr => ?_
 have h1_8 : act8.eval (.tmp 1) = v_7 := hv
 have d8 := d8.trans d7
 clear hv hr
 refine EngI.tail_nil ?_
 refine wp_seq ?_
 refine (wpIn_wide (n := 1)).1 ?_
 refine EngI.regionT (n := 7) rfl ?_
 refine EngI.tail_val EngI.free_wide rfl rfl rfl rfl (Eng.run_move rfl h1_8) s8 rfl fun act9 d9 s9 hv hr => ?_
 have h1_9 := (hr 1 rfl).trans h1_8
 have h17_9 : act9.eval (.tmp 17) = v_7 := hv
 have d9 := d9.trans d8
 clear hv hr
 refine EngI.tail_call EngI.free_wide Tryd.func12 (by kernel_rfl) (by kernel_rfl) rfl rfl rfl rfl #[v_7] (by have e0 : act9.eval (.tmp 17) = v_7 := h17_9; simp only [List.map_toArray, List.map_cons, List.map_nil, e0]) s9 rfl (R := fun v w' => ∃ outv fin, v = .tuple #[outv, .int .i64 (Dc.graphsF Dal.l1).2] ∧ List.map (·.1) fin = (Dc.graphsF Dal.l1).1 ∧ w'.ownsRow w7.heap.size 48 1 outv fin.length (List.map (·.2) fin) ∧ (∀ f ∈ fin, Dc.Fin w7 w' f (fun _ => False)) ∧ Below w7.heap.size w7 w') ((Dc.Graphs_calls v_7 Dal.l1 _ (Tabs.below hT bl7) F_7 (by decide) Dal.sz1 Dal.az1 Dal.tw1).mono ?_) fun v_10 w10 act10 R d10 s10 hv hr => ?_
 ·rintro e w1 ⟨o1, f1, rfl, r1⟩; exact ⟨_, rfl, o1, f1, rfl, r1⟩
 have h1_10 := (hr 1 rfl).trans h1_9
 have h18_10 : act10.eval (.tmp 18) = v_10 := hv
 have d10 := d10.trans d9
 clear hv hr
 obtain ⟨outv1, fin1, ev_10, hm10, Oo10, hF10, b_10⟩ := R
 rw [ev_10, Dal.g1] at h18_10
 rw [Dal.g1] at hm10
 obtain ⟨gv1, rfl⟩ := Dal.fin_one hm10
 obtain ⟨hh1, op1, nm1, ov1, mb1, hm1, R1, _⟩ := hF10 _ (List.mem_singleton.2 rfl)
 obtain ⟨kv1, rfl⟩ := Dal.h_one hm1
 have Oo1 : w10.ownsRow w7.heap.size 48 1 outv1 1 [gv1] := Oo10
 have Og1 : w10.ownsRow w7.heap.size 57 4 gv1 1 (Dc.cells [(Dal.nd, kv1)]) := R1.gr
 have Ok1 : w10.ownsRow w7.heap.size 3 1 kv1 1 (Dc.ints [0]) := R1.ks 0 (Nat.lt_succ_self 0)
 have Fl_10 := Eng.Reads.below F_7 b_10
 have Ol_10 := Eng.own_below O_7 b_10
 have bl10 := bl7.trans (b_10.mono bl7.size)
 refine EngI.tail_val EngI.free_wide rfl rfl rfl rfl (Eng.run_move rfl h18_10) s10 rfl fun act11 d11 s11 hv hr => ?_
 have h1_11 := (hr 1 rfl).trans h1_10
 have h16_11 : act11.eval (.tmp 16) = .tuple #[outv1, .int .i64 0] := hv
 have d11 := d11.trans d10
 clear hv hr
 refine EngI.tail_val (w1 := w10) (v := outv1) EngI.free_wide rfl rfl rfl rfl ?_ s11 rfl ?_
 ·have e0 : act11.eval (.tmp 16) = .tuple #[outv1, .int .i64 0] := h16_11
  simp only [execOp, resolve, e0]
  go_simp
 intro act12 d12 s12 hv hr
 have h1_12 := (hr 1 rfl).trans h1_11
 have h16_12 := (hr 16 rfl).trans h16_11
 have h19_12 : act12.eval (.tmp 19) = outv1 := hv
 have d12 := d12.trans d11
 clear hv hr
 refine EngI.tail_val (w1 := w10) (v := .int .i64 0) EngI.free_wide rfl rfl rfl rfl ?_ s12 rfl ?_
 ·have e0 : act12.eval (.tmp 16) = .tuple #[outv1, .int .i64 0] := h16_12
  simp only [execOp, resolve, e0]
  go_simp
 intro act13 d13 s13 hv hr
 have h1_13 := (hr 1 rfl).trans h1_12
 have h19_13 := (hr 19 rfl).trans h19_12
 have h20_13 : act13.eval (.tmp 20) = .int .i64 0 := hv
 have d13 := d13.trans d12
 clear hv hr
 refine EngI.tail_val EngI.free_wide rfl rfl rfl rfl (Eng.run_assign rfl h19_13) s13 rfl fun act14 d14 s14 hv hr => ?_
 have h1_14 := (hr 1 rfl).trans h1_13
 have h20_14 := (hr 20 rfl).trans h20_13
 have h2_14 : act14.eval (.tmp 2) = outv1 := hv
 have d14 := d14.trans d13
 clear hv hr
 refine EngI.tail_val EngI.free_wide rfl rfl rfl rfl (Eng.run_assign rfl h20_14) s14 rfl fun act15 d15 s15 hv hr => ?_
 have h1_15 := (hr 1 rfl).trans h1_14
 have h2_15 := (hr 2 rfl).trans h2_14
 have h3_15 : act15.eval (.tmp 3) = .int .i64 0 := hv
 have d15 := d15.trans d14
 clear hv hr
 refine EngI.tail_nil ?_
 refine wp_seq ?_
 refine (wpIn_wide (n := 1)).1 ?_
 refine EngI.regionT (n := 4) rfl ?_
 refine EngI.tail_val EngI.free_wide rfl rfl rfl rfl (Eng.run_move rfl h1_15) s15 rfl fun act16 d16 s16 hv hr => ?_
 have h1_16 := (hr 1 rfl).trans h1_15
 have h2_16 := (hr 2 rfl).trans h2_15
 have h3_16 := (hr 3 rfl).trans h3_15
 have h21_16 : act16.eval (.tmp 21) = v_7 := hv
 have d16 := d16.trans d15
 clear hv hr
 refine EngI.tail_val (w1 := w10) (v := Eng.elemPtr v_7 (2 * 5)) EngI.free_wide rfl rfl rfl rfl ?_ s16 rfl ?_
 ·exact Eng.run_index_sl rfl Tryd.underlying37 (by kernel_rfl) (show act16.eval (.tmp 21) = v_7 from h21_16) ((show act16.eval (.const (.int .i64 2)) = .int .i64 2 from (rfl : act16.eval (.const (.int .i64 2)) = .int .i64 2)).trans (congrArg (Value.int _) (show 2 = ((2 : Nat) : Int) from by first | rfl | decide))) Fl_10 (by first | rfl | decide) rfl
 intro act17 d17 s17 hv hr
 have h1_17 := (hr 1 rfl).trans h1_16
 have h2_17 := (hr 2 rfl).trans h2_16
 have h3_17 := (hr 3 rfl).trans h3_16
 have h22_17 : act17.eval (.tmp 22) = Eng.elemPtr v_7 (2 * 5) := hv
 have d17 := d17.trans d16
 clear hv hr
 refine EngI.tail_val (w1 := w10) (v := Eng.elemPtr v_7 (2 * 5 + 1)) EngI.free_wide rfl rfl rfl rfl ?_ s17 rfl ?_
 ·exact Eng.run_field_el rfl Tryd.underlying30 1 (by kernel_rfl) (show act17.eval (.tmp 22) = Eng.elemPtr v_7 (2 * 5) from h22_17) Fl_10 (by have h_ : 2 < 5 := (by first | rfl | decide); omega)
 intro act18 d18 s18 hv hr
 have h1_18 := (hr 1 rfl).trans h1_17
 have h2_18 := (hr 2 rfl).trans h2_17
 have h3_18 := (hr 3 rfl).trans h3_17
 have h23_18 : act18.eval (.tmp 23) = Eng.elemPtr v_7 (2 * 5 + 1) := hv
 have d18 := d18.trans d17
 clear hv hr
 refine EngG.tail_exs EngI.free_wide rfl rfl rfl rfl (Eng.run_store_own (j := 2 * 5 + 1) (u := .string ⟨#[98]⟩) rfl (show act18.eval (.tmp 23) = Eng.elemPtr v_7 (2 * 5 + 1) from h23_18) (rfl : act18.eval (.const (.string ⟨#[98]⟩)) = .string ⟨#[98]⟩) Ol_10 (by have h_ : 2 < 5 := (by first | rfl | decide); omega) (by kernel_rfl) (by rfl)) fun w19 R => ?_
 obtain ⟨O_19, G_19⟩ := R
 have bl19 := bl10.grown G_19 bl10.size (fun j hj => (Eng.ownB Ol_10 hj.symm).1)
 have Oo1_19 := Dal.kept30 Oo1 Ol_10 rfl G_19
 have Fo1_19 := Eng.Reads.of_own Oo1_19
 have Og1_19 := Dal.kept30 Og1 Ol_10 rfl G_19
 have Fg1_19 := Eng.Reads.of_own Og1_19
 have Ok1_19 := Dal.kept30 Ok1 Ol_10 rfl G_19
 have Fk1_19 := Eng.Reads.of_own Ok1_19
 have Ol_19 : w19.ownsRow _ 30 5 v_7 5 (Evt.cells Dal.l2) := O_19
 have Fl_19 := Eng.Reads.of_own Ol_19
 refine EngI.tail_nil ?_
 refine wp_seq ?_
 refine (wpIn_wide (n := 1)).1 ?_
 refine EngI.regionT (n := 7) rfl ?_
 refine EngI.tail_val EngI.free_wide rfl rfl rfl rfl (Eng.run_move rfl h1_18) s18 rfl fun act20 d20 s20 hv hr => ?_
 have h2_20 := (hr 2 rfl).trans h2_18
 have h3_20 := (hr 3 rfl).trans h3_18
 have h25_20 : act20.eval (.tmp 25) = v_7 := hv
 have d20 := d20.trans d18
 clear hv hr
 refine EngI.tail_call EngI.free_wide Tryd.func12 (by kernel_rfl) (by kernel_rfl) rfl rfl rfl rfl #[v_7] (by have e0 : act20.eval (.tmp 25) = v_7 := h25_20; simp only [List.map_toArray, List.map_cons, List.map_nil, e0]) s20 rfl (R := fun v w' => ∃ outv fin, v = .tuple #[outv, .int .i64 (Dc.graphsF Dal.l2).2] ∧ List.map (·.1) fin = (Dc.graphsF Dal.l2).1 ∧ w'.ownsRow w19.heap.size 48 1 outv fin.length (List.map (·.2) fin) ∧ (∀ f ∈ fin, Dc.Fin w19 w' f (fun _ => False)) ∧ Below w19.heap.size w19 w') ((Dc.Graphs_calls v_7 Dal.l2 _ (Tabs.below hT bl19) Fl_19 (by decide) Dal.sz2 Dal.az2 Dal.tw2).mono ?_) fun v_21 w21 act21 R d21 s21 hv hr => ?_
 ·rintro e w1 ⟨o1, f1, rfl, r1⟩; exact ⟨_, rfl, o1, f1, rfl, r1⟩
 have h2_21 := (hr 2 rfl).trans h2_20
 have h3_21 := (hr 3 rfl).trans h3_20
 have h26_21 : act21.eval (.tmp 26) = v_21 := hv
 have d21 := d21.trans d20
 clear hv hr
 obtain ⟨outv2, fin2, ev_21, hm21, Oo21, hF21, b_21⟩ := R
 rw [ev_21, Dal.g2] at h26_21
 have Fo1_21 := Eng.Reads.below Fo1_19 b_21
 have Fg1_21 := Eng.Reads.below Fg1_19 b_21
 have Fk1_21 := Eng.Reads.below Fk1_19 b_21
 have bl21 := bl19.trans (b_21.mono bl19.size)
 refine EngI.tail_val EngI.free_wide rfl rfl rfl rfl (Eng.run_move rfl h26_21) s21 rfl fun act22 d22 s22 hv hr => ?_
 have h2_22 := (hr 2 rfl).trans h2_21
 have h3_22 := (hr 3 rfl).trans h3_21
 have h24_22 : act22.eval (.tmp 24) = .tuple #[outv2, .int .i64 11] := hv
 have d22 := d22.trans d21
 clear hv hr
 refine EngI.tail_val (w1 := w21) (v := outv2) EngI.free_wide rfl rfl rfl rfl ?_ s22 rfl ?_
 ·have e0 : act22.eval (.tmp 24) = .tuple #[outv2, .int .i64 11] := h24_22
  simp only [execOp, resolve, e0]
  go_simp
 intro act23 d23 s23 hv hr
 have h2_23 := (hr 2 rfl).trans h2_22
 have h3_23 := (hr 3 rfl).trans h3_22
 have h24_23 := (hr 24 rfl).trans h24_22
 have h27_23 : act23.eval (.tmp 27) = outv2 := hv
 have d23 := d23.trans d22
 clear hv hr
 refine EngI.tail_val (w1 := w21) (v := .int .i64 11) EngI.free_wide rfl rfl rfl rfl ?_ s23 rfl ?_
 ·have e0 : act23.eval (.tmp 24) = .tuple #[outv2, .int .i64 11] := h24_23
  simp only [execOp, resolve, e0]
  go_simp
 intro act24 d24 s24 hv hr
 have h2_24 := (hr 2 rfl).trans h2_23
 have h3_24 := (hr 3 rfl).trans h3_23
 have h27_24 := (hr 27 rfl).trans h27_23
 have h28_24 : act24.eval (.tmp 28) = .int .i64 11 := hv
 have d24 := d24.trans d23
 clear hv hr
 refine EngI.tail_val EngI.free_wide rfl rfl rfl rfl (Eng.run_assign rfl h27_24) s24 rfl fun act25 d25 s25 hv hr => ?_
 have h2_25 := (hr 2 rfl).trans h2_24
 have h3_25 := (hr 3 rfl).trans h3_24
 have h28_25 := (hr 28 rfl).trans h28_24
 have d25 := d25.trans d24
 clear hv hr
 refine EngI.tail_val EngI.free_wide rfl rfl rfl rfl (Eng.run_assign rfl h28_25) s25 rfl fun act26 d26 s26 hv hr => ?_
 have h2_26 := (hr 2 rfl).trans h2_25
 have h3_26 := (hr 3 rfl).trans h3_25
 have h5_26 : act26.eval (.tmp 5) = .int .i64 11 := hv
 have d26 := d26.trans d25
 clear hv hr
 refine EngI.tail_nil ?_
 refine wp_seq ?_
 refine (wpIn_wide (n := 1)).1 ?_
 refine EngI.regionT (n := 7) rfl ?_
 refine EngI.tail_val (w1 := w21) (v := .agg #[.int .i64 6, .string ⟨#[]⟩, .string ⟨#[]⟩, .string ⟨#[53]⟩, .bool true]) EngI.free_wide rfl rfl rfl rfl ?_ s26 rfl ?_
 ·have e0 : act26.eval (.const (.int .i64 6)) = .int .i64 6 := (rfl : act26.eval (.const (.int .i64 6)) = .int .i64 6)
  have e1 : act26.eval (.const (.string ⟨#[53]⟩)) = .string ⟨#[53]⟩ := (rfl : act26.eval (.const (.string ⟨#[53]⟩)) = .string ⟨#[53]⟩)
  have e2 : act26.eval (.const (.bool true)) = .bool true := (rfl : act26.eval (.const (.bool true)) = .bool true)
  simp only [execOp, resolve, e0, e1, e2]
  go_simp
 intro act27 d27 s27 hv hr
 have h2_27 := (hr 2 rfl).trans h2_26
 have h3_27 := (hr 3 rfl).trans h3_26
 have h5_27 := (hr 5 rfl).trans h5_26
 have h30_27 : act27.eval (.tmp 30) = .agg #[.int .i64 6, .string ⟨#[]⟩, .string ⟨#[]⟩, .string ⟨#[53]⟩, .bool true] := hv
 have d27 := d27.trans d26
 clear hv hr
 refine EngI.tail_call EngI.free_wide Tryd.func10 (by kernel_rfl) (by kernel_rfl) rfl rfl rfl rfl #[.agg #[.int .i64 6, .string ⟨#[]⟩, .string ⟨#[]⟩, .string ⟨#[53]⟩, .bool true]] (by have e0 : act27.eval (.tmp 30) = .agg #[.int .i64 6, .string ⟨#[]⟩, .string ⟨#[]⟩, .string ⟨#[53]⟩, .bool true] := h30_27; simp only [List.map_toArray, List.map_cons, List.map_nil, e0]) s27 rfl (R := fun v w_ => v = .tuple #[.string ⟨#[105, 110, 116]⟩, .int .i64 0] ∧ Below w21.heap.size w21 w_) ((Dal.tagc1 _).mono ?_) fun v_28 w28 act28 R d28 s28 hv hr => ?_
 ·rintro e w_ ⟨rfl, hb⟩; exact ⟨_, rfl, rfl, hb⟩
 obtain ⟨ev_28, b_28⟩ := R
 have h2_28 := (hr 2 rfl).trans h2_27
 have h3_28 := (hr 3 rfl).trans h3_27
 have h5_28 := (hr 5 rfl).trans h5_27
 have h31_28 : act28.eval (.tmp 31) = .tuple #[.string ⟨#[105, 110, 116]⟩, .int .i64 0] := (hv.trans ev_28)
 have d28 := d28.trans d27
 clear hv hr
 have Fo1_28 := Eng.Reads.below Fo1_21 b_28
 have Fg1_28 := Eng.Reads.below Fg1_21 b_28
 have Fk1_28 := Eng.Reads.below Fk1_21 b_28
 have bl28 := bl21.trans (b_28.mono bl21.size)
 refine EngI.tail_val EngI.free_wide rfl rfl rfl rfl (Eng.run_move rfl h31_28) s28 rfl fun act29 d29 s29 hv hr => ?_
 have h2_29 := (hr 2 rfl).trans h2_28
 have h3_29 := (hr 3 rfl).trans h3_28
 have h5_29 := (hr 5 rfl).trans h5_28
 have h29_29 : act29.eval (.tmp 29) = .tuple #[.string ⟨#[105, 110, 116]⟩, .int .i64 0] := hv
 have d29 := d29.trans d28
 clear hv hr
 refine EngI.tail_val (w1 := w28) (v := .string ⟨#[105, 110, 116]⟩) EngI.free_wide rfl rfl rfl rfl ?_ s29 rfl ?_
 ·have e0 : act29.eval (.tmp 29) = .tuple #[.string ⟨#[105, 110, 116]⟩, .int .i64 0] := h29_29
  simp only [execOp, resolve, e0]
  go_simp
 intro act30 d30 s30 hv hr
 have h2_30 := (hr 2 rfl).trans h2_29
 have h3_30 := (hr 3 rfl).trans h3_29
 have h5_30 := (hr 5 rfl).trans h5_29
 have h29_30 := (hr 29 rfl).trans h29_29
 have h32_30 : act30.eval (.tmp 32) = .string ⟨#[105, 110, 116]⟩ := hv
 have d30 := d30.trans d29
 clear hv hr
 refine EngI.tail_val (w1 := w28) (v := .int .i64 0) EngI.free_wide rfl rfl rfl rfl ?_ s30 rfl ?_
 ·have e0 : act30.eval (.tmp 29) = .tuple #[.string ⟨#[105, 110, 116]⟩, .int .i64 0] := h29_30
  simp only [execOp, resolve, e0]
  go_simp
 intro act31 d31 s31 hv hr
 have h2_31 := (hr 2 rfl).trans h2_30
 have h3_31 := (hr 3 rfl).trans h3_30
 have h5_31 := (hr 5 rfl).trans h5_30
 have h32_31 := (hr 32 rfl).trans h32_30
 have h33_31 : act31.eval (.tmp 33) = .int .i64 0 := hv
 have d31 := d31.trans d30
 clear hv hr
 refine EngI.tail_val EngI.free_wide rfl rfl rfl rfl (Eng.run_assign rfl h32_31) s31 rfl fun act32 d32 s32 hv hr => ?_
 have h2_32 := (hr 2 rfl).trans h2_31
 have h3_32 := (hr 3 rfl).trans h3_31
 have h5_32 := (hr 5 rfl).trans h5_31
 have h33_32 := (hr 33 rfl).trans h33_31
 have h6_32 : act32.eval (.tmp 6) = .string ⟨#[105, 110, 116]⟩ := hv
 have d32 := d32.trans d31
 clear hv hr
 refine EngI.tail_val EngI.free_wide rfl rfl rfl rfl (Eng.run_assign rfl h33_32) s32 rfl fun act33 d33 s33 hv hr => ?_
 have h2_33 := (hr 2 rfl).trans h2_32
 have h3_33 := (hr 3 rfl).trans h3_32
 have h5_33 := (hr 5 rfl).trans h5_32
 have h6_33 := (hr 6 rfl).trans h6_32
 have h7_33 : act33.eval (.tmp 7) = .int .i64 0 := hv
 have d33 := d33.trans d32
 clear hv hr
 refine EngI.tail_nil ?_
 refine wp_seq ?_
 refine (wpIn_wide (n := 1)).1 ?_
 refine EngI.regionT (n := 7) rfl ?_
 refine EngI.tail_val (w1 := w28) (v := .agg #[.int .i64 6, .string ⟨#[]⟩, .string ⟨#[105, 110, 116]⟩, .string ⟨#[120]⟩, .bool false]) EngI.free_wide rfl rfl rfl rfl ?_ s33 rfl ?_
 ·have e0 : act33.eval (.const (.int .i64 6)) = .int .i64 6 := (rfl : act33.eval (.const (.int .i64 6)) = .int .i64 6)
  have e1 : act33.eval (.const (.string ⟨#[105, 110, 116]⟩)) = .string ⟨#[105, 110, 116]⟩ := (rfl : act33.eval (.const (.string ⟨#[105, 110, 116]⟩)) = .string ⟨#[105, 110, 116]⟩)
  have e2 : act33.eval (.const (.string ⟨#[120]⟩)) = .string ⟨#[120]⟩ := (rfl : act33.eval (.const (.string ⟨#[120]⟩)) = .string ⟨#[120]⟩)
  simp only [execOp, resolve, e0, e1, e2]
  go_simp
 intro act34 d34 s34 hv hr
 have h2_34 := (hr 2 rfl).trans h2_33
 have h3_34 := (hr 3 rfl).trans h3_33
 have h5_34 := (hr 5 rfl).trans h5_33
 have h6_34 := (hr 6 rfl).trans h6_33
 have h7_34 := (hr 7 rfl).trans h7_33
 have h35_34 : act34.eval (.tmp 35) = .agg #[.int .i64 6, .string ⟨#[]⟩, .string ⟨#[105, 110, 116]⟩, .string ⟨#[120]⟩, .bool false] := hv
 have d34 := d34.trans d33
 clear hv hr
 refine EngI.tail_call EngI.free_wide Tryd.func10 (by kernel_rfl) (by kernel_rfl) rfl rfl rfl rfl #[.agg #[.int .i64 6, .string ⟨#[]⟩, .string ⟨#[105, 110, 116]⟩, .string ⟨#[120]⟩, .bool false]] (by have e0 : act34.eval (.tmp 35) = .agg #[.int .i64 6, .string ⟨#[]⟩, .string ⟨#[105, 110, 116]⟩, .string ⟨#[120]⟩, .bool false] := h35_34; simp only [List.map_toArray, List.map_cons, List.map_nil, e0]) s34 rfl (R := fun v w_ => v = .tuple #[.string ⟨#[]⟩, .int .i64 14] ∧ Below w28.heap.size w28 w_) ((Dal.tagc2 _).mono ?_) fun v_35 w35 act35 R d35 s35 hv hr => ?_
 ·rintro e w_ ⟨rfl, hb⟩; exact ⟨_, rfl, rfl, hb⟩
 obtain ⟨ev_35, b_35⟩ := R
 have h2_35 := (hr 2 rfl).trans h2_34
 have h3_35 := (hr 3 rfl).trans h3_34
 have h5_35 := (hr 5 rfl).trans h5_34
 have h6_35 := (hr 6 rfl).trans h6_34
 have h7_35 := (hr 7 rfl).trans h7_34
 have h36_35 : act35.eval (.tmp 36) = .tuple #[.string ⟨#[]⟩, .int .i64 14] := (hv.trans ev_35)
 have d35 := d35.trans d34
 clear hv hr
 have Fo1_35 := Eng.Reads.below Fo1_28 b_35
 have Fg1_35 := Eng.Reads.below Fg1_28 b_35
 have Fk1_35 := Eng.Reads.below Fk1_28 b_35
 have bl35 := bl28.trans (b_35.mono bl28.size)
 refine EngI.tail_val EngI.free_wide rfl rfl rfl rfl (Eng.run_move rfl h36_35) s35 rfl fun act36 d36 s36 hv hr => ?_
 have h2_36 := (hr 2 rfl).trans h2_35
 have h3_36 := (hr 3 rfl).trans h3_35
 have h5_36 := (hr 5 rfl).trans h5_35
 have h6_36 := (hr 6 rfl).trans h6_35
 have h7_36 := (hr 7 rfl).trans h7_35
 have h34_36 : act36.eval (.tmp 34) = .tuple #[.string ⟨#[]⟩, .int .i64 14] := hv
 have d36 := d36.trans d35
 clear hv hr
 refine EngI.tail_val (w1 := w35) (v := .string ⟨#[]⟩) EngI.free_wide rfl rfl rfl rfl ?_ s36 rfl ?_
 ·have e0 : act36.eval (.tmp 34) = .tuple #[.string ⟨#[]⟩, .int .i64 14] := h34_36
  simp only [execOp, resolve, e0]
  go_simp
 intro act37 d37 s37 hv hr
 have h2_37 := (hr 2 rfl).trans h2_36
 have h3_37 := (hr 3 rfl).trans h3_36
 have h5_37 := (hr 5 rfl).trans h5_36
 have h6_37 := (hr 6 rfl).trans h6_36
 have h7_37 := (hr 7 rfl).trans h7_36
 have h34_37 := (hr 34 rfl).trans h34_36
 have h37_37 : act37.eval (.tmp 37) = .string ⟨#[]⟩ := hv
 have d37 := d37.trans d36
 clear hv hr
 refine EngI.tail_val (w1 := w35) (v := .int .i64 14) EngI.free_wide rfl rfl rfl rfl ?_ s37 rfl ?_
 ·have e0 : act37.eval (.tmp 34) = .tuple #[.string ⟨#[]⟩, .int .i64 14] := h34_37
  simp only [execOp, resolve, e0]
  go_simp
 intro act38 d38 s38 hv hr
 have h2_38 := (hr 2 rfl).trans h2_37
 have h3_38 := (hr 3 rfl).trans h3_37
 have h5_38 := (hr 5 rfl).trans h5_37
 have h6_38 := (hr 6 rfl).trans h6_37
 have h7_38 := (hr 7 rfl).trans h7_37
 have h37_38 := (hr 37 rfl).trans h37_37
 have h38_38 : act38.eval (.tmp 38) = .int .i64 14 := hv
 have d38 := d38.trans d37
 clear hv hr
 refine EngI.tail_val EngI.free_wide rfl rfl rfl rfl (Eng.run_assign rfl h37_38) s38 rfl fun act39 d39 s39 hv hr => ?_
 have h2_39 := (hr 2 rfl).trans h2_38
 have h3_39 := (hr 3 rfl).trans h3_38
 have h5_39 := (hr 5 rfl).trans h5_38
 have h6_39 := (hr 6 rfl).trans h6_38
 have h7_39 := (hr 7 rfl).trans h7_38
 have h38_39 := (hr 38 rfl).trans h38_38
 have d39 := d39.trans d38
 clear hv hr
 refine EngI.tail_val EngI.free_wide rfl rfl rfl rfl (Eng.run_assign rfl h38_39) s39 rfl fun act40 d40 s40 hv hr => ?_
 have h2_40 := (hr 2 rfl).trans h2_39
 have h3_40 := (hr 3 rfl).trans h3_39
 have h5_40 := (hr 5 rfl).trans h5_39
 have h6_40 := (hr 6 rfl).trans h6_39
 have h7_40 := (hr 7 rfl).trans h7_39
 have h9_40 : act40.eval (.tmp 9) = .int .i64 14 := hv
 have d40 := d40.trans d39
 clear hv hr
 refine EngI.tail_nil ?_
 refine wp_seq ?_
 refine Eng.regionS (Eng.still [fun u_ => u_ = outv1, fun u_ => u_ = .int .i64 (1 : Int), fun u_ => u_ = .bool true, fun u_ => u_ = .bool true, fun u_ => u_ = outv1, fun u_ => u_ = Eng.elemPtr outv1 (0 * 1), fun u_ => u_ = gv1, fun u_ => u_ = .int .i64 (1 : Int), fun u_ => u_ = .bool true, fun u_ => u_ = .bool true, fun u_ => u_ = .bool true, fun u_ => u_ = outv1, fun u_ => u_ = Eng.elemPtr outv1 (0 * 1), fun u_ => u_ = gv1, fun u_ => u_ = Eng.elemPtr gv1 (0 * 4), fun u_ => u_ = Eng.elemPtr gv1 (0 * 4 + 3), fun u_ => u_ = kv1, fun u_ => u_ = .int .i64 (1 : Int), fun u_ => u_ = .bool true, fun u_ => u_ = .bool true, fun u_ => u_ = .bool true, fun u_ => u_ = outv1, fun u_ => u_ = Eng.elemPtr outv1 (0 * 1), fun u_ => u_ = gv1, fun u_ => u_ = Eng.elemPtr gv1 (0 * 4), fun u_ => u_ = Eng.elemPtr gv1 (0 * 4 + 3), fun u_ => u_ = kv1, fun u_ => u_ = Eng.elemPtr kv1 (0 * 1), fun u_ => u_ = .int .i64 0, fun u_ => u_ = .bool true, fun u_ => u_ = .bool true, fun u_ => u_ = .bool true, fun u_ => u_ = outv1, fun u_ => u_ = Eng.elemPtr outv1 (0 * 1), fun u_ => u_ = gv1, fun u_ => u_ = Eng.elemPtr gv1 (0 * 4), fun u_ => u_ = Eng.elemPtr gv1 (0 * 4 + 1), fun u_ => u_ = .string ⟨#[115, 101, 113]⟩, fun u_ => u_ = .bool true, fun u_ => u_ = .bool true, fun u_ => u_ = .bool true, fun u_ => u_ = .int .i64 0, fun u_ => u_ = .bool true, fun u_ => u_ = .bool true, fun u_ => u_ = .bool true, fun u_ => u_ = .int .i64 11, fun u_ => u_ = .bool true, fun u_ => u_ = .bool true, fun u_ => u_ = .bool true, fun u_ => u_ = .string ⟨#[105, 110, 116]⟩, fun u_ => u_ = .bool true, fun u_ => u_ = .bool true, fun u_ => u_ = .bool true, fun u_ => u_ = .int .i64 0, fun u_ => u_ = .bool true, fun u_ => u_ = .bool true, fun u_ => u_ = .bool true, fun u_ => u_ = .int .i64 14, fun u_ => u_ = .bool true, fun u_ => u_ = .bool true, fun u_ => u_ = .bool true]) (fun _ => .plain) 61 0 99 s40 rfl (by kernel_rfl) (Eng.still_stable _) (Or.inr (Eng.still_any _)) ?_ ?_
 ·refine .cons (fun _ => ?_) (.cons (fun _ => ?_) (.cons (fun _ => ?_) (.cons (fun _ => ?_) (.cons (fun _ => ?_) (.cons (fun _ => ?_) (.cons (fun _ => ?_) (.cons (fun _ => ?_) (.cons (fun _ => ?_) (.cons (fun _ => ?_) (.cons (fun _ => ?_) (.cons (fun _ => ?_) (.cons (fun _ => ?_) (.cons (fun _ => ?_) (.cons (fun _ => ?_) (.cons (fun _ => ?_) (.cons (fun _ => ?_) (.cons (fun _ => ?_) (.cons (fun _ => ?_) (.cons (fun _ => ?_) (.cons (fun _ => ?_) (.cons (fun _ => ?_) (.cons (fun _ => ?_) (.cons (fun _ => ?_) (.cons (fun _ => ?_) (.cons (fun _ => ?_) (.cons (fun _ => ?_) (.cons (fun _ => ?_) (.cons (fun _ => ?_) (.cons (fun _ => ?_) (.cons (fun _ => ?_) (.cons (fun _ => ?_) (.cons (fun _ => ?_) (.cons (fun _ => ?_) (.cons (fun _ => ?_) (.cons (fun _ => ?_) (.cons (fun _ => ?_) (.cons (fun _ => ?_) (.cons (fun _ => ?_) (.cons (fun _ => ?_) (.cons (fun _ => ?_) (.cons (fun _ => ?_) (.cons (fun _ => ?_) (.cons (fun _ => ?_) (.cons (fun _ => ?_) (.cons (fun _ => ?_) (.cons (fun _ => ?_) (.cons (fun _ => ?_) (.cons (fun _ => ?_) (.cons (fun _ => ?_) (.cons (fun _ => ?_) (.cons (fun _ => ?_) (.cons (fun _ => ?_) (.cons (fun _ => ?_) (.cons (fun _ => ?_) (.cons (fun _ => ?_) (.cons (fun _ => ?_) (.cons (fun _ => ?_) (.cons (fun _ => ?_) (.cons (fun _ => ?_) (.cons (fun _ => ?_) (.nil)))))))))))))))))))))))))))))))))))))))))))))))))))))))))))))
  ·exact Eng.plain rfl rfl fun a w' H => Eng.vr rfl (Eng.run_move rfl ((H.kept 2 (by kernel_rfl)).trans h2_40))
  ·exact Eng.plain rfl rfl fun a w' H => Eng.vr (v := .int .i64 (1 : Int)) rfl (Eng.run_len_sl rfl Tryd.underlying34 (show a.eval (.tmp 39) = outv1 from (H.dep 0 39 (by kernel_rfl) rfl)) (Eng.Reads.below Fo1_35 H.below))
  ·refine Eng.plain rfl rfl fun a w' H => ?_
   refine Eng.vr (v := .bool ((1 : Int) == 1)) (by show _ = Value.bool true; rw [show ((1 : Int) == 1) = true from beq_self_eq_true _]) ?_
   have e0 : a.eval (.tmp 40) = .int .i64 (1 : Int) := (H.dep 1 40 (by kernel_rfl) rfl)
   have e1 : a.eval (.const (.int .i64 1)) = .int .i64 1 := (rfl : a.eval (.const (.int .i64 1)) = .int .i64 1)
   simp only [execOp, resolve, e0, e1]
   go_simp
  ·exact Eng.plain rfl rfl fun a w' H => Eng.vr rfl (Eng.run_move rfl (H.dep 2 41 (by kernel_rfl) rfl))
  ·refine Eng.guardedT (j := 3) (d := 42) rfl rfl (by kernel_rfl) rfl (fun v w h => h) fun a w' H => ?_
   exact Eng.val (w1 := w') (v := outv1) (Eng.run_move rfl ((H.kept 2 (by kernel_rfl)).trans h2_40)) (Below.refl _ _) rfl
  ·refine Eng.guardedT (j := 3) (d := 42) rfl rfl (by kernel_rfl) rfl (fun v w h => h) fun a w' H => ?_
   refine Eng.vr (v := Eng.elemPtr outv1 (0 * 1)) rfl ?_
   exact Eng.run_index_sl rfl Tryd.underlying34 (by kernel_rfl) (show a.eval (.tmp 43) = outv1 from (H.dep 4 43 (by kernel_rfl) rfl)) ((show a.eval (.const (.int .i64 0)) = .int .i64 0 from (rfl : a.eval (.const (.int .i64 0)) = .int .i64 0)).trans (congrArg (Value.int _) (show 0 = ((0 : Nat) : Int) from by first | rfl | decide))) (Eng.Reads.below Fo1_35 H.below) (by first | rfl | decide) rfl
  ·refine Eng.guardedT (j := 3) (d := 42) rfl rfl (by kernel_rfl) rfl (fun v w h => h) fun a w' H => ?_
   refine Eng.vr (v := gv1) rfl ?_
   exact Eng.run_load_el (gv1) rfl (show a.eval (.tmp 44) = Eng.elemPtr outv1 (0 * 1) from (H.dep 5 44 (by kernel_rfl) rfl)) (Eng.Reads.below Fo1_35 H.below) (rfl) (by kernel_rfl)
  ·refine Eng.guardedT (j := 3) (d := 42) rfl rfl (by kernel_rfl) rfl (fun v w h => h) fun a w' H => ?_
   refine Eng.vr (v := .int .i64 (1 : Int)) rfl ?_
   exact Eng.run_len_sl rfl Tryd.underlying48 (show a.eval (.tmp 45) = gv1 from (H.dep 6 45 (by kernel_rfl) rfl)) (Eng.Reads.below Fg1_35 H.below)
  ·refine Eng.guardedT (j := 3) (d := 42) rfl rfl (by kernel_rfl) rfl (fun v w h => h) fun a w' H => ?_
   refine Eng.vr (v := .bool ((1 : Int) == 1)) (by show _ = Value.bool true; rw [show ((1 : Int) == 1) = true from beq_self_eq_true _]) ?_
   have e0 : a.eval (.tmp 46) = .int .i64 (1 : Int) := (H.dep 7 46 (by kernel_rfl) rfl)
   have e1 : a.eval (.const (.int .i64 1)) = .int .i64 1 := (rfl : a.eval (.const (.int .i64 1)) = .int .i64 1)
   simp only [execOp, resolve, e0, e1]
   go_simp
  ·exact Eng.plain rfl rfl fun a w' H => Eng.vr rfl (Eng.run_and rfl rfl (G := true) (H.dep 3 42 (by kernel_rfl) rfl) (fun hb => (H.dep 8 47 (by kernel_rfl) rfl)))
  ·exact Eng.plain rfl rfl fun a w' H => Eng.vr rfl (Eng.run_move rfl (H.dep 9 48 (by kernel_rfl) rfl))
  ·refine Eng.guardedT (j := 10) (d := 49) rfl rfl (by kernel_rfl) rfl (fun v w h => h) fun a w' H => ?_
   exact Eng.val (w1 := w') (v := outv1) (Eng.run_move rfl ((H.kept 2 (by kernel_rfl)).trans h2_40)) (Below.refl _ _) rfl
  ·refine Eng.guardedT (j := 10) (d := 49) rfl rfl (by kernel_rfl) rfl (fun v w h => h) fun a w' H => ?_
   refine Eng.vr (v := Eng.elemPtr outv1 (0 * 1)) rfl ?_
   exact Eng.run_index_sl rfl Tryd.underlying34 (by kernel_rfl) (show a.eval (.tmp 50) = outv1 from (H.dep 11 50 (by kernel_rfl) rfl)) ((show a.eval (.const (.int .i64 0)) = .int .i64 0 from (rfl : a.eval (.const (.int .i64 0)) = .int .i64 0)).trans (congrArg (Value.int _) (show 0 = ((0 : Nat) : Int) from by first | rfl | decide))) (Eng.Reads.below Fo1_35 H.below) (by first | rfl | decide) rfl
  ·refine Eng.guardedT (j := 10) (d := 49) rfl rfl (by kernel_rfl) rfl (fun v w h => h) fun a w' H => ?_
   refine Eng.vr (v := gv1) rfl ?_
   exact Eng.run_load_el (gv1) rfl (show a.eval (.tmp 51) = Eng.elemPtr outv1 (0 * 1) from (H.dep 12 51 (by kernel_rfl) rfl)) (Eng.Reads.below Fo1_35 H.below) (rfl) (by kernel_rfl)
  ·refine Eng.guardedT (j := 10) (d := 49) rfl rfl (by kernel_rfl) rfl (fun v w h => h) fun a w' H => ?_
   refine Eng.vr (v := Eng.elemPtr gv1 (0 * 4)) rfl ?_
   exact Eng.run_index_sl rfl Tryd.underlying48 (by kernel_rfl) (show a.eval (.tmp 52) = gv1 from (H.dep 13 52 (by kernel_rfl) rfl)) ((show a.eval (.const (.int .i64 0)) = .int .i64 0 from (rfl : a.eval (.const (.int .i64 0)) = .int .i64 0)).trans (congrArg (Value.int _) (show 0 = ((0 : Nat) : Int) from by first | rfl | decide))) (Eng.Reads.below Fg1_35 H.below) (by first | rfl | decide) rfl
  ·refine Eng.guardedT (j := 10) (d := 49) rfl rfl (by kernel_rfl) rfl (fun v w h => h) fun a w' H => ?_
   refine Eng.vr (v := Eng.elemPtr gv1 (0 * 4 + 3)) rfl ?_
   exact Eng.run_field_el rfl Tryd.underlying57 3 (by kernel_rfl) (show a.eval (.tmp 53) = Eng.elemPtr gv1 (0 * 4) from (H.dep 14 53 (by kernel_rfl) rfl)) (Eng.Reads.below Fg1_35 H.below) (by have h_ : 0 < 1 := (by first | rfl | decide); omega)
  ·refine Eng.guardedT (j := 10) (d := 49) rfl rfl (by kernel_rfl) rfl (fun v w h => h) fun a w' H => ?_
   refine Eng.vr (v := kv1) rfl ?_
   exact Eng.run_load_el (kv1) rfl (show a.eval (.tmp 54) = Eng.elemPtr gv1 (0 * 4 + 3) from (H.dep 15 54 (by kernel_rfl) rfl)) (Eng.Reads.below Fg1_35 H.below) (rfl) (by kernel_rfl)
  ·refine Eng.guardedT (j := 10) (d := 49) rfl rfl (by kernel_rfl) rfl (fun v w h => h) fun a w' H => ?_
   refine Eng.vr (v := .int .i64 (1 : Int)) rfl ?_
   exact Eng.run_len_sl rfl Tryd.underlying55 (show a.eval (.tmp 55) = kv1 from (H.dep 16 55 (by kernel_rfl) rfl)) (Eng.Reads.below Fk1_35 H.below)
  ·refine Eng.guardedT (j := 10) (d := 49) rfl rfl (by kernel_rfl) rfl (fun v w h => h) fun a w' H => ?_
   refine Eng.vr (v := .bool ((1 : Int) == 1)) (by show _ = Value.bool true; rw [show ((1 : Int) == 1) = true from beq_self_eq_true _]) ?_
   have e0 : a.eval (.tmp 56) = .int .i64 (1 : Int) := (H.dep 17 56 (by kernel_rfl) rfl)
   have e1 : a.eval (.const (.int .i64 1)) = .int .i64 1 := (rfl : a.eval (.const (.int .i64 1)) = .int .i64 1)
   simp only [execOp, resolve, e0, e1]
   go_simp
  ·exact Eng.plain rfl rfl fun a w' H => Eng.vr rfl (Eng.run_and rfl rfl (G := true) (H.dep 10 49 (by kernel_rfl) rfl) (fun hb => (H.dep 18 57 (by kernel_rfl) rfl)))
  ·exact Eng.plain rfl rfl fun a w' H => Eng.vr rfl (Eng.run_move rfl (H.dep 19 58 (by kernel_rfl) rfl))
  ·refine Eng.guardedT (j := 20) (d := 59) rfl rfl (by kernel_rfl) rfl (fun v w h => h) fun a w' H => ?_
   exact Eng.val (w1 := w') (v := outv1) (Eng.run_move rfl ((H.kept 2 (by kernel_rfl)).trans h2_40)) (Below.refl _ _) rfl
  ·refine Eng.guardedT (j := 20) (d := 59) rfl rfl (by kernel_rfl) rfl (fun v w h => h) fun a w' H => ?_
   refine Eng.vr (v := Eng.elemPtr outv1 (0 * 1)) rfl ?_
   exact Eng.run_index_sl rfl Tryd.underlying34 (by kernel_rfl) (show a.eval (.tmp 60) = outv1 from (H.dep 21 60 (by kernel_rfl) rfl)) ((show a.eval (.const (.int .i64 0)) = .int .i64 0 from (rfl : a.eval (.const (.int .i64 0)) = .int .i64 0)).trans (congrArg (Value.int _) (show 0 = ((0 : Nat) : Int) from by first | rfl | decide))) (Eng.Reads.below Fo1_35 H.below) (by first | rfl | decide) rfl
  ·refine Eng.guardedT (j := 20) (d := 59) rfl rfl (by kernel_rfl) rfl (fun v w h => h) fun a w' H => ?_
   refine Eng.vr (v := gv1) rfl ?_
   exact Eng.run_load_el (gv1) rfl (show a.eval (.tmp 61) = Eng.elemPtr outv1 (0 * 1) from (H.dep 22 61 (by kernel_rfl) rfl)) (Eng.Reads.below Fo1_35 H.below) (rfl) (by kernel_rfl)
  ·refine Eng.guardedT (j := 20) (d := 59) rfl rfl (by kernel_rfl) rfl (fun v w h => h) fun a w' H => ?_
   refine Eng.vr (v := Eng.elemPtr gv1 (0 * 4)) rfl ?_
   exact Eng.run_index_sl rfl Tryd.underlying48 (by kernel_rfl) (show a.eval (.tmp 62) = gv1 from (H.dep 23 62 (by kernel_rfl) rfl)) ((show a.eval (.const (.int .i64 0)) = .int .i64 0 from (rfl : a.eval (.const (.int .i64 0)) = .int .i64 0)).trans (congrArg (Value.int _) (show 0 = ((0 : Nat) : Int) from by first | rfl | decide))) (Eng.Reads.below Fg1_35 H.below) (by first | rfl | decide) rfl
  ·refine Eng.guardedT (j := 20) (d := 59) rfl rfl (by kernel_rfl) rfl (fun v w h => h) fun a w' H => ?_
   refine Eng.vr (v := Eng.elemPtr gv1 (0 * 4 + 3)) rfl ?_
   exact Eng.run_field_el rfl Tryd.underlying57 3 (by kernel_rfl) (show a.eval (.tmp 63) = Eng.elemPtr gv1 (0 * 4) from (H.dep 24 63 (by kernel_rfl) rfl)) (Eng.Reads.below Fg1_35 H.below) (by have h_ : 0 < 1 := (by first | rfl | decide); omega)
  ·refine Eng.guardedT (j := 20) (d := 59) rfl rfl (by kernel_rfl) rfl (fun v w h => h) fun a w' H => ?_
   refine Eng.vr (v := kv1) rfl ?_
   exact Eng.run_load_el (kv1) rfl (show a.eval (.tmp 64) = Eng.elemPtr gv1 (0 * 4 + 3) from (H.dep 25 64 (by kernel_rfl) rfl)) (Eng.Reads.below Fg1_35 H.below) (rfl) (by kernel_rfl)
  ·refine Eng.guardedT (j := 20) (d := 59) rfl rfl (by kernel_rfl) rfl (fun v w h => h) fun a w' H => ?_
   refine Eng.vr (v := Eng.elemPtr kv1 (0 * 1)) rfl ?_
   exact Eng.run_index_sl rfl Tryd.underlying55 (by kernel_rfl) (show a.eval (.tmp 65) = kv1 from (H.dep 26 65 (by kernel_rfl) rfl)) ((show a.eval (.const (.int .i64 0)) = .int .i64 0 from (rfl : a.eval (.const (.int .i64 0)) = .int .i64 0)).trans (congrArg (Value.int _) (show 0 = ((0 : Nat) : Int) from by first | rfl | decide))) (Eng.Reads.below Fk1_35 H.below) (by first | rfl | decide) rfl
  ·refine Eng.guardedT (j := 20) (d := 59) rfl rfl (by kernel_rfl) rfl (fun v w h => h) fun a w' H => ?_
   refine Eng.vr (v := .int .i64 0) rfl ?_
   exact Eng.run_load_el (.int .i64 0) rfl (show a.eval (.tmp 66) = Eng.elemPtr kv1 (0 * 1) from (H.dep 27 66 (by kernel_rfl) rfl)) (Eng.Reads.below Fk1_35 H.below) (rfl) (by kernel_rfl)
  ·refine Eng.guardedT (j := 20) (d := 59) rfl rfl (by kernel_rfl) rfl (fun v w h => h) fun a w' H => ?_
   refine Eng.vr (v := .bool (0 == 0)) (by show _ = Value.bool true; rw [show (0 == 0) = true from beq_self_eq_true _]) ?_
   have e0 : a.eval (.tmp 67) = .int .i64 0 := (H.dep 28 67 (by kernel_rfl) rfl)
   have e1 : a.eval (.const (.int .i64 0)) = .int .i64 0 := (rfl : a.eval (.const (.int .i64 0)) = .int .i64 0)
   simp only [execOp, resolve, e0, e1]
   go_simp
  ·exact Eng.plain rfl rfl fun a w' H => Eng.vr rfl (Eng.run_and rfl rfl (G := true) (H.dep 20 59 (by kernel_rfl) rfl) (fun hb => (H.dep 29 68 (by kernel_rfl) rfl)))
  ·exact Eng.plain rfl rfl fun a w' H => Eng.vr rfl (Eng.run_move rfl (H.dep 30 69 (by kernel_rfl) rfl))
  ·refine Eng.guardedT (j := 31) (d := 70) rfl rfl (by kernel_rfl) rfl (fun v w h => h) fun a w' H => ?_
   exact Eng.val (w1 := w') (v := outv1) (Eng.run_move rfl ((H.kept 2 (by kernel_rfl)).trans h2_40)) (Below.refl _ _) rfl
  ·refine Eng.guardedT (j := 31) (d := 70) rfl rfl (by kernel_rfl) rfl (fun v w h => h) fun a w' H => ?_
   refine Eng.vr (v := Eng.elemPtr outv1 (0 * 1)) rfl ?_
   exact Eng.run_index_sl rfl Tryd.underlying34 (by kernel_rfl) (show a.eval (.tmp 71) = outv1 from (H.dep 32 71 (by kernel_rfl) rfl)) ((show a.eval (.const (.int .i64 0)) = .int .i64 0 from (rfl : a.eval (.const (.int .i64 0)) = .int .i64 0)).trans (congrArg (Value.int _) (show 0 = ((0 : Nat) : Int) from by first | rfl | decide))) (Eng.Reads.below Fo1_35 H.below) (by first | rfl | decide) rfl
  ·refine Eng.guardedT (j := 31) (d := 70) rfl rfl (by kernel_rfl) rfl (fun v w h => h) fun a w' H => ?_
   refine Eng.vr (v := gv1) rfl ?_
   exact Eng.run_load_el (gv1) rfl (show a.eval (.tmp 72) = Eng.elemPtr outv1 (0 * 1) from (H.dep 33 72 (by kernel_rfl) rfl)) (Eng.Reads.below Fo1_35 H.below) (rfl) (by kernel_rfl)
  ·refine Eng.guardedT (j := 31) (d := 70) rfl rfl (by kernel_rfl) rfl (fun v w h => h) fun a w' H => ?_
   refine Eng.vr (v := Eng.elemPtr gv1 (0 * 4)) rfl ?_
   exact Eng.run_index_sl rfl Tryd.underlying48 (by kernel_rfl) (show a.eval (.tmp 73) = gv1 from (H.dep 34 73 (by kernel_rfl) rfl)) ((show a.eval (.const (.int .i64 0)) = .int .i64 0 from (rfl : a.eval (.const (.int .i64 0)) = .int .i64 0)).trans (congrArg (Value.int _) (show 0 = ((0 : Nat) : Int) from by first | rfl | decide))) (Eng.Reads.below Fg1_35 H.below) (by first | rfl | decide) rfl
  ·refine Eng.guardedT (j := 31) (d := 70) rfl rfl (by kernel_rfl) rfl (fun v w h => h) fun a w' H => ?_
   refine Eng.vr (v := Eng.elemPtr gv1 (0 * 4 + 1)) rfl ?_
   exact Eng.run_field_el rfl Tryd.underlying57 1 (by kernel_rfl) (show a.eval (.tmp 74) = Eng.elemPtr gv1 (0 * 4) from (H.dep 35 74 (by kernel_rfl) rfl)) (Eng.Reads.below Fg1_35 H.below) (by have h_ : 0 < 1 := (by first | rfl | decide); omega)
  ·refine Eng.guardedT (j := 31) (d := 70) rfl rfl (by kernel_rfl) rfl (fun v w h => h) fun a w' H => ?_
   refine Eng.vr (v := .string ⟨#[115, 101, 113]⟩) rfl ?_
   exact Eng.run_load_el (.string ⟨#[115, 101, 113]⟩) rfl (show a.eval (.tmp 75) = Eng.elemPtr gv1 (0 * 4 + 1) from (H.dep 36 75 (by kernel_rfl) rfl)) (Eng.Reads.below Fg1_35 H.below) (rfl) (by kernel_rfl)
  ·refine Eng.guardedT (j := 31) (d := 70) rfl rfl (by kernel_rfl) rfl (fun v w h => h) fun a w' H => ?_
   refine Eng.vr (v := .bool ((⟨#[115, 101, 113]⟩ : ByteArray).toList == (⟨#[115, 101, 113]⟩ : ByteArray).toList)) (by show _ = Value.bool true; rw [show ((⟨#[115, 101, 113]⟩ : ByteArray).toList == (⟨#[115, 101, 113]⟩ : ByteArray).toList) = true from beq_self_eq_true _]) ?_
   have e0 : a.eval (.tmp 76) = .string ⟨#[115, 101, 113]⟩ := (H.dep 37 76 (by kernel_rfl) rfl)
   have e1 : a.eval (.const (.string ⟨#[115, 101, 113]⟩)) = .string ⟨#[115, 101, 113]⟩ := (rfl : a.eval (.const (.string ⟨#[115, 101, 113]⟩)) = .string ⟨#[115, 101, 113]⟩)
   simp only [execOp, resolve, e0, e1]
   go_simp
  ·exact Eng.plain rfl rfl fun a w' H => Eng.vr rfl (Eng.run_and rfl rfl (G := true) (H.dep 31 70 (by kernel_rfl) rfl) (fun hb => (H.dep 38 77 (by kernel_rfl) rfl)))
  ·exact Eng.plain rfl rfl fun a w' H => Eng.vr rfl (Eng.run_move rfl (H.dep 39 78 (by kernel_rfl) rfl))
  ·refine Eng.guardedT (j := 40) (d := 79) rfl rfl (by kernel_rfl) rfl (fun v w h => h) fun a w' H => ?_
   exact Eng.val (w1 := w') (v := .int .i64 0) (Eng.run_move rfl ((H.kept 3 (by kernel_rfl)).trans h3_40)) (Below.refl _ _) rfl
  ·refine Eng.guardedT (j := 40) (d := 79) rfl rfl (by kernel_rfl) rfl (fun v w h => h) fun a w' H => ?_
   refine Eng.vr (v := .bool (0 == 0)) (by show _ = Value.bool true; rw [show (0 == 0) = true from beq_self_eq_true _]) ?_
   have e0 : a.eval (.tmp 80) = .int .i64 0 := (H.dep 41 80 (by kernel_rfl) rfl)
   have e1 : a.eval (.const (.int .i64 0)) = .int .i64 0 := (rfl : a.eval (.const (.int .i64 0)) = .int .i64 0)
   simp only [execOp, resolve, e0, e1]
   go_simp
  ·exact Eng.plain rfl rfl fun a w' H => Eng.vr rfl (Eng.run_and rfl rfl (G := true) (H.dep 40 79 (by kernel_rfl) rfl) (fun hb => (H.dep 42 81 (by kernel_rfl) rfl)))
  ·exact Eng.plain rfl rfl fun a w' H => Eng.vr rfl (Eng.run_move rfl (H.dep 43 82 (by kernel_rfl) rfl))
  ·refine Eng.guardedT (j := 44) (d := 83) rfl rfl (by kernel_rfl) rfl (fun v w h => h) fun a w' H => ?_
   exact Eng.val (w1 := w') (v := .int .i64 11) (Eng.run_move rfl ((H.kept 5 (by kernel_rfl)).trans h5_40)) (Below.refl _ _) rfl
  ·refine Eng.guardedT (j := 44) (d := 83) rfl rfl (by kernel_rfl) rfl (fun v w h => h) fun a w' H => ?_
   refine Eng.vr (v := .bool (11 == 11)) (by show _ = Value.bool true; rw [show (11 == 11) = true from beq_self_eq_true _]) ?_
   have e0 : a.eval (.tmp 84) = .int .i64 11 := (H.dep 45 84 (by kernel_rfl) rfl)
   have e1 : a.eval (.const (.int .i64 11)) = .int .i64 11 := (rfl : a.eval (.const (.int .i64 11)) = .int .i64 11)
   simp only [execOp, resolve, e0, e1]
   go_simp
  ·exact Eng.plain rfl rfl fun a w' H => Eng.vr rfl (Eng.run_and rfl rfl (G := true) (H.dep 44 83 (by kernel_rfl) rfl) (fun hb => (H.dep 46 85 (by kernel_rfl) rfl)))
  ·exact Eng.plain rfl rfl fun a w' H => Eng.vr rfl (Eng.run_move rfl (H.dep 47 86 (by kernel_rfl) rfl))
  ·refine Eng.guardedT (j := 48) (d := 87) rfl rfl (by kernel_rfl) rfl (fun v w h => h) fun a w' H => ?_
   exact Eng.val (w1 := w') (v := .string ⟨#[105, 110, 116]⟩) (Eng.run_move rfl ((H.kept 6 (by kernel_rfl)).trans h6_40)) (Below.refl _ _) rfl
  ·refine Eng.guardedT (j := 48) (d := 87) rfl rfl (by kernel_rfl) rfl (fun v w h => h) fun a w' H => ?_
   refine Eng.vr (v := .bool ((⟨#[105, 110, 116]⟩ : ByteArray).toList == (⟨#[105, 110, 116]⟩ : ByteArray).toList)) (by show _ = Value.bool true; rw [show ((⟨#[105, 110, 116]⟩ : ByteArray).toList == (⟨#[105, 110, 116]⟩ : ByteArray).toList) = true from beq_self_eq_true _]) ?_
   have e0 : a.eval (.tmp 88) = .string ⟨#[105, 110, 116]⟩ := (H.dep 49 88 (by kernel_rfl) rfl)
   have e1 : a.eval (.const (.string ⟨#[105, 110, 116]⟩)) = .string ⟨#[105, 110, 116]⟩ := (rfl : a.eval (.const (.string ⟨#[105, 110, 116]⟩)) = .string ⟨#[105, 110, 116]⟩)
   simp only [execOp, resolve, e0, e1]
   go_simp
  ·exact Eng.plain rfl rfl fun a w' H => Eng.vr rfl (Eng.run_and rfl rfl (G := true) (H.dep 48 87 (by kernel_rfl) rfl) (fun hb => (H.dep 50 89 (by kernel_rfl) rfl)))
  ·exact Eng.plain rfl rfl fun a w' H => Eng.vr rfl (Eng.run_move rfl (H.dep 51 90 (by kernel_rfl) rfl))
  ·refine Eng.guardedT (j := 52) (d := 91) rfl rfl (by kernel_rfl) rfl (fun v w h => h) fun a w' H => ?_
   exact Eng.val (w1 := w') (v := .int .i64 0) (Eng.run_move rfl ((H.kept 7 (by kernel_rfl)).trans h7_40)) (Below.refl _ _) rfl
  ·refine Eng.guardedT (j := 52) (d := 91) rfl rfl (by kernel_rfl) rfl (fun v w h => h) fun a w' H => ?_
   refine Eng.vr (v := .bool (0 == 0)) (by show _ = Value.bool true; rw [show (0 == 0) = true from beq_self_eq_true _]) ?_
   have e0 : a.eval (.tmp 92) = .int .i64 0 := (H.dep 53 92 (by kernel_rfl) rfl)
   have e1 : a.eval (.const (.int .i64 0)) = .int .i64 0 := (rfl : a.eval (.const (.int .i64 0)) = .int .i64 0)
   simp only [execOp, resolve, e0, e1]
   go_simp
  ·exact Eng.plain rfl rfl fun a w' H => Eng.vr rfl (Eng.run_and rfl rfl (G := true) (H.dep 52 91 (by kernel_rfl) rfl) (fun hb => (H.dep 54 93 (by kernel_rfl) rfl)))
  ·exact Eng.plain rfl rfl fun a w' H => Eng.vr rfl (Eng.run_move rfl (H.dep 55 94 (by kernel_rfl) rfl))
  ·refine Eng.guardedT (j := 56) (d := 95) rfl rfl (by kernel_rfl) rfl (fun v w h => h) fun a w' H => ?_
   exact Eng.val (w1 := w') (v := .int .i64 14) (Eng.run_move rfl ((H.kept 9 (by kernel_rfl)).trans h9_40)) (Below.refl _ _) rfl
  ·refine Eng.guardedT (j := 56) (d := 95) rfl rfl (by kernel_rfl) rfl (fun v w h => h) fun a w' H => ?_
   refine Eng.vr (v := .bool (14 == 14)) (by show _ = Value.bool true; rw [show (14 == 14) = true from beq_self_eq_true _]) ?_
   have e0 : a.eval (.tmp 96) = .int .i64 14 := (H.dep 57 96 (by kernel_rfl) rfl)
   have e1 : a.eval (.const (.int .i64 14)) = .int .i64 14 := (rfl : a.eval (.const (.int .i64 14)) = .int .i64 14)
   simp only [execOp, resolve, e0, e1]
   go_simp
  ·exact Eng.plain rfl rfl fun a w' H => Eng.vr rfl (Eng.run_and rfl rfl (G := true) (H.dep 56 95 (by kernel_rfl) rfl) (fun hb => (H.dep 58 97 (by kernel_rfl) rfl)))
  ·exact Eng.plain rfl rfl fun a w' H => Eng.vr rfl (Eng.run_assign rfl (H.dep 59 98 (by kernel_rfl) rfl))
 intro act41 w41 T
 have h0_41 : act41.eval (.tmp 0) = .bool true := T.done 60 0 rfl rfl
 have d41 := T.defers.trans d40
 have bl41 := bl35.trans (T.below.mono bl35.size)
 clear T
 refine Eng.tail_nil ?_
 refine wp_ret ?_
 repeat (first | refine Eng.in_ret ?_ | refine Eng.then_ret ?_)
 exact Eng.ret1 rfl d41 h0_41 ⟨rfl, bl41⟩
end Go.Proofs.YtgnmjaacnmkgnaaDoor.X
end
section
namespace Go.Proofs.YtgnmjaacnmkgnaaDoor.X
open Go.RowKit Go.Shelf Go.Proofs Go.Proofs.YtgnmjaacnmkgnaaDoorW.PrintWords Go.Proofs.YtgnmjaacnmkgnaaDoorW.PrintLast Go.Proofs.YtgnmjaacnmkgnaaDoorW.PrintMore
set_option linter.unusedVariables false
set_option linter.unusedSimpArgs false
attribute [local go_sem] max2_int min2_int max_two min_two
set_option maxHeartbeats 4000000 in
set_option maxRecDepth 100000 in
theorem Evt.tags_walk (x : Evt.Ev) (w : World) (hT : Tabs.Holds w) : Calls Tryd.prog 3 #[.agg #[.int .i64 x.kind, .string x.anchor, .string x.tag, .string x.text, .bool x.plain]] w fun e w' => e = .returned (.bool true) ∧ Below w.heap.size w w' := by
 refine Eng.enter Tryd.func3 rfl fun act0 d0 s0 v0 => ?_
 have s0 : act0.tmps.size = 30 := s0
 have h0_0 : act0.eval (.tmp 0) = .agg #[.int .i64 x.kind, .string x.anchor, .string x.tag, .string x.text, .bool x.plain] := v0 0 (by simp)
 clear v0
 have bl0 : Below w.heap.size w w := Below.refl _ _
 refine wp_seq ?_
 refine Eng.regionS (Eng.still [fun u_ => True, fun u_ => u_ = .bool false]) (fun i => ([.alloc 23 #[.int .i64 x.kind, .string x.anchor, .string x.tag, .string x.text, .bool x.plain], .plain] : List Eng.Kind).getD i .plain) 2 0 30 s0 rfl (by kernel_rfl) (Eng.still_stable _) (Or.inr (Eng.still_any _)) ?_ ?_
 ·refine .cons (fun _ => ?_) (.cons (fun _ => ?_) (.nil))
  ·refine Eng.made rfl (by simp) rfl (fun a w' hd ho => ?_) (fun _ _ => trivial)
   exact Eng.run_box rfl ((ho 0 (by kernel_rfl)).trans h0_0)
  ·exact Eng.plain rfl rfl fun a w' H => Eng.vr rfl (Eng.run_assign rfl (rfl : a.eval (.const (.bool false)) = .bool false))
 intro act1 w1 T
 obtain ⟨g1_1, h1_1, rg1_1, lg1_1_1, kg1_1_1⟩ := T.al 0 1 _ _ rfl rfl rfl (by kernel_rfl)
 have d1 := T.defers.trans d0
 have s1 := T.size.trans s0
 have bl1 := bl0.trans (T.below.mono bl0.size)
 clear T
 refine Eng.tail_nil ?_
 refine wp_seq ?_
 refine wp_seq ?_
 obtain ⟨q8, Bq8⟩ : ∃ b : Bool, b = (!true) := ⟨_, rfl⟩
 refine Eng.regionS (Eng.still [fun u_ => u_ = .bool true, fun u_ => u_ = .bool q8]) (fun _ => .plain) 2 0 30 s1 rfl (by kernel_rfl) (Eng.still_stable _) (Or.inr (Eng.still_any _)) ?_ ?_
 ·refine .cons (fun _ => ?_) (.cons (fun _ => ?_) (.nil))
  ·refine Eng.plain rfl rfl fun a w' H => ?_
   refine Eng.call Tryd.func8 (by kernel_rfl) (by kernel_rfl) rfl #[] ?_ ?_
   ·simp
   refine (Dal.alive_calls _ (Tabs.below (Tabs.below hT bl1) H.below)).mono ?_
   rintro e w'' ⟨rfl, hb⟩
   exact ⟨_, rfl, (by show _ = Value.bool true; rw [show (true) = true from rfl]), hb⟩
  ·exact Eng.plain rfl rfl fun a w' H => Eng.vr (v := .bool (!true)) (by show _ = Value.bool q8; rw [Bq8]) (Eng.run_not rfl (H.dep 0 7 (by kernel_rfl) rfl))
 intro act2 w2 T
 have h1_2 := (T.rest 1 (by kernel_rfl)).trans h1_1
 have kg1_1_2 := (T.below.block _ lg1_1_1).trans kg1_1_1
 have lg1_1_2 := Nat.lt_of_lt_of_le lg1_1_1 T.below.size
 have h8_2 : act2.eval (.tmp 8) = .bool q8 := T.done 1 8 rfl rfl
 have d2 := T.defers.trans d1
 have s2 := T.size.trans s1
 have bl2 := bl1.trans (T.below.mono bl1.size)
 clear T
 refine Eng.tail_nil ?_
 have n8 : q8 = false := by
  try simp only [Bq8]
  first | done | rfl
 refine wp_cond_false (h8_2.trans (by rw [n8])) ?_
 refine wp_skip ?_
 refine wp_seq ?_
 refine wp_seq ?_
 refine (wpIn_wide (n := 1)).1 ?_
 refine EngI.regionT (n := 3) rfl ?_
 refine EngI.tail_val EngI.free_wide rfl rfl rfl rfl (Eng.run_load_all rfl h1_2 kg1_1_2 Tryd.underlying23 rfl (by kernel_rfl)) s2 rfl fun act3 d3 s3 hv hr => ?_
 have h1_3 := (hr 1 rfl).trans h1_2
 have h9_3 : act3.eval (.tmp 9) = .agg #[.int .i64 x.kind, .string x.anchor, .string x.tag, .string x.text, .bool x.plain] := hv
 have d3 := d3.trans d2
 clear hv hr
 refine EngI.tail_ex EngI.free_wide rfl rfl rfl rfl (Eng.run_build1I (size := 5) (z := .agg #[.int .i64 0, .string ⟨#[]⟩, .string ⟨#[]⟩, .string ⟨#[]⟩, .bool false]) [.int .i64 x.kind, .string x.anchor, .string x.tag, .string x.text, .bool x.plain] rfl Tryd.underlying26 (by kernel_rfl) rfl rfl rfl (by kernel_rfl) (show act3.eval (.tmp 9) = .agg #[.int .i64 x.kind, .string x.anchor, .string x.tag, .string x.text, .bool x.plain] from h9_3)) s3 rfl fun v_4 w4 act4 R d4 s4 hv hr => ?_
 obtain ⟨F_4, b_4⟩ := R
 have h1_4 := (hr 1 rfl).trans h1_3
 have h10_4 : act4.eval (.tmp 10) = v_4 := hv
 have d4 := d4.trans d3
 clear hv hr
 have kg1_1_4 := (b_4.block _ lg1_1_2).trans kg1_1_2
 have lg1_1_4 := Nat.lt_of_lt_of_le lg1_1_2 b_4.size
 have bl4 := bl2.trans (b_4.mono bl2.size)
 obtain ⟨q11, Bq11⟩ : ∃ b : Bool, b = (Evt.heavyL [x]) := ⟨_, rfl⟩
 refine EngI.tail_call EngI.free_wide Tryd.func9 (by kernel_rfl) (by kernel_rfl) rfl rfl rfl rfl #[v_4] (by have e0 : act4.eval (.tmp 10) = v_4 := h10_4; simp only [List.map_toArray, List.map_cons, List.map_nil, e0]) s4 rfl (R := fun v w_ => v = .bool (Evt.heavyL [x]) ∧ Below w4.heap.size w4 w_) ((Evt.heavy_calls v_4 [x] _ F_4).mono ?_) fun v_5 w5 act5 R d5 s5 hv hr => ?_
 ·rintro e w_ ⟨rfl, hb⟩; exact ⟨_, rfl, rfl, hb⟩
 obtain ⟨ev_5, b_5⟩ := R
 have h1_5 := (hr 1 rfl).trans h1_4
 have h11_5 : act5.eval (.tmp 11) = .bool q11 := (hv.trans ev_5).trans (congrArg Value.bool Bq11.symm)
 have d5 := d5.trans d4
 clear hv hr
 have kg1_1_5 := (b_5.block _ lg1_1_4).trans kg1_1_4
 have lg1_1_5 := Nat.lt_of_lt_of_le lg1_1_4 b_5.size
 have bl5 := bl4.trans (b_5.mono bl4.size)
 refine EngI.tail_nil ?_
 refine wp_cond_split h11_5 (fun hq => ?_) (fun hq => ?_)
 ·
  have c11 := Bq11.symm.trans hq
  clear hq
  refine wp_seq ?_
  refine Eng.regionS (Eng.still [fun u_ => u_ = .bool true]) (fun _ => .plain) 1 0 30 s5 rfl (by kernel_rfl) (Eng.still_stable _) (Or.inr (Eng.still_any _)) ?_ ?_
  ·refine .cons (fun _ => ?_) (.nil)
   ·exact Eng.plain rfl rfl fun a w' H => Eng.vr rfl (Eng.run_assign rfl (rfl : a.eval (.const (.bool true)) = .bool true))
  intro act7 w7 T
  have h2_7 : act7.eval (.tmp 2) = .bool true := T.done 0 2 rfl rfl
  have d7 := T.defers.trans d5
  have bl7 := bl5.trans (T.below.mono bl5.size)
  clear T
  refine Eng.tail_nil ?_
  refine wp_ret ?_
  repeat (first | refine Eng.in_ret ?_ | refine Eng.then_ret ?_)
  exact Eng.ret1 rfl d7 h2_7 ⟨rfl, bl7⟩
 ·
  have c11 := Bq11.symm.trans hq
  clear hq
  have hs := Evt.light_one (by simpa using c11)
  refine wp_skip ?_
  refine wp_seq ?_
  refine (wpIn_wide (n := 1)).1 ?_
  refine EngI.regionT (n := 7) rfl ?_
  refine EngI.tail_val EngI.free_wide rfl rfl rfl rfl (Eng.run_load_all rfl h1_5 kg1_1_5 Tryd.underlying23 rfl (by kernel_rfl)) s5 rfl fun act9 d9 s9 hv hr => ?_
  have h1_9 := (hr 1 rfl).trans h1_5
  have h13_9 : act9.eval (.tmp 13) = .agg #[.int .i64 x.kind, .string x.anchor, .string x.tag, .string x.text, .bool x.plain] := hv
  have d9 := d9.trans d5
  clear hv hr
  refine EngI.tail_call EngI.free_wide Tryd.func10 (by kernel_rfl) (by kernel_rfl) rfl rfl rfl rfl #[.agg #[.int .i64 x.kind, .string x.anchor, .string x.tag, .string x.text, .bool x.plain]] (by have e0 : act9.eval (.tmp 13) = .agg #[.int .i64 x.kind, .string x.anchor, .string x.tag, .string x.text, .bool x.plain] := h13_9; simp only [List.map_toArray, List.map_cons, List.map_nil, e0]) s9 rfl (R := fun v w_ => v = .tuple #[.string ((Evt.tagF x).1), .int .i64 ((Evt.tagF x).2)] ∧ Below w5.heap.size w5 w_) ((Evt.tag_calls x _ hs.1).mono ?_) fun v_10 w10 act10 R d10 s10 hv hr => ?_
  ·rintro e w_ ⟨rfl, hb⟩; exact ⟨_, rfl, rfl, hb⟩
  obtain ⟨ev_10, b_10⟩ := R
  have h1_10 := (hr 1 rfl).trans h1_9
  have h14_10 : act10.eval (.tmp 14) = .tuple #[.string ((Evt.tagF x).1), .int .i64 ((Evt.tagF x).2)] := (hv.trans ev_10)
  have d10 := d10.trans d9
  clear hv hr
  have kg1_1_10 := (b_10.block _ lg1_1_5).trans kg1_1_5
  have bl10 := bl5.trans (b_10.mono bl5.size)
  refine EngI.tail_val EngI.free_wide rfl rfl rfl rfl (Eng.run_move rfl h14_10) s10 rfl fun act11 d11 s11 hv hr => ?_
  have h1_11 := (hr 1 rfl).trans h1_10
  have h12_11 : act11.eval (.tmp 12) = .tuple #[.string ((Evt.tagF x).1), .int .i64 ((Evt.tagF x).2)] := hv
  have d11 := d11.trans d10
  clear hv hr
  refine EngI.tail_val (w1 := w10) (v := .string ((Evt.tagF x).1)) EngI.free_wide rfl rfl rfl rfl ?_ s11 rfl ?_
  ·have e0 : act11.eval (.tmp 12) = .tuple #[.string ((Evt.tagF x).1), .int .i64 ((Evt.tagF x).2)] := h12_11
   simp only [execOp, resolve, e0]
   go_simp
  intro act12 d12 s12 hv hr
  have h1_12 := (hr 1 rfl).trans h1_11
  have h12_12 := (hr 12 rfl).trans h12_11
  have h15_12 : act12.eval (.tmp 15) = .string ((Evt.tagF x).1) := hv
  have d12 := d12.trans d11
  clear hv hr
  refine EngI.tail_val (w1 := w10) (v := .int .i64 ((Evt.tagF x).2)) EngI.free_wide rfl rfl rfl rfl ?_ s12 rfl ?_
  ·have e0 : act12.eval (.tmp 12) = .tuple #[.string ((Evt.tagF x).1), .int .i64 ((Evt.tagF x).2)] := h12_12
   simp only [execOp, resolve, e0]
   go_simp
  intro act13 d13 s13 hv hr
  have h1_13 := (hr 1 rfl).trans h1_12
  have h15_13 := (hr 15 rfl).trans h15_12
  have h16_13 : act13.eval (.tmp 16) = .int .i64 ((Evt.tagF x).2) := hv
  have d13 := d13.trans d12
  clear hv hr
  refine EngI.tail_val EngI.free_wide rfl rfl rfl rfl (Eng.run_assign rfl h15_13) s13 rfl fun act14 d14 s14 hv hr => ?_
  have h1_14 := (hr 1 rfl).trans h1_13
  have h16_14 := (hr 16 rfl).trans h16_13
  have h3_14 : act14.eval (.tmp 3) = .string ((Evt.tagF x).1) := hv
  have d14 := d14.trans d13
  clear hv hr
  refine EngI.tail_val EngI.free_wide rfl rfl rfl rfl (Eng.run_assign rfl h16_14) s14 rfl fun act15 d15 s15 hv hr => ?_
  have h1_15 := (hr 1 rfl).trans h1_14
  have h3_15 := (hr 3 rfl).trans h3_14
  have h4_15 : act15.eval (.tmp 4) = .int .i64 ((Evt.tagF x).2) := hv
  have d15 := d15.trans d14
  clear hv hr
  refine EngI.tail_nil ?_
  refine wp_seq ?_
  refine (wpIn_wide (n := 1)).1 ?_
  refine EngI.regionT (n := 7) rfl ?_
  refine EngI.tail_val EngI.free_wide rfl rfl rfl rfl (Eng.run_load_all rfl h1_15 kg1_1_10 Tryd.underlying23 rfl (by kernel_rfl)) s15 rfl fun act16 d16 s16 hv hr => ?_
  have h3_16 := (hr 3 rfl).trans h3_15
  have h4_16 := (hr 4 rfl).trans h4_15
  have h18_16 : act16.eval (.tmp 18) = .agg #[.int .i64 x.kind, .string x.anchor, .string x.tag, .string x.text, .bool x.plain] := hv
  have d16 := d16.trans d15
  clear hv hr
  refine EngI.tail_call EngI.free_wide Tryd.func11 (by kernel_rfl) (by kernel_rfl) rfl rfl rfl rfl #[.agg #[.int .i64 x.kind, .string x.anchor, .string x.tag, .string x.text, .bool x.plain]] (by have e0 : act16.eval (.tmp 18) = .agg #[.int .i64 x.kind, .string x.anchor, .string x.tag, .string x.text, .bool x.plain] := h18_16; simp only [List.map_toArray, List.map_cons, List.map_nil, e0]) s16 rfl (R := fun v w_ => v = .tuple #[.string ((Evt.tagF x).1), .int .i64 ((Evt.tagF x).2)] ∧ Below w10.heap.size w10 w_) ((Evt.tag_calls2 x _ hs.2 hs.1).mono ?_) fun v_17 w17 act17 R d17 s17 hv hr => ?_
  ·rintro e w_ ⟨rfl, hb⟩; exact ⟨_, rfl, rfl, hb⟩
  obtain ⟨ev_17, b_17⟩ := R
  have h3_17 := (hr 3 rfl).trans h3_16
  have h4_17 := (hr 4 rfl).trans h4_16
  have h19_17 : act17.eval (.tmp 19) = .tuple #[.string ((Evt.tagF x).1), .int .i64 ((Evt.tagF x).2)] := (hv.trans ev_17)
  have d17 := d17.trans d16
  clear hv hr
  have bl17 := bl10.trans (b_17.mono bl10.size)
  refine EngI.tail_val EngI.free_wide rfl rfl rfl rfl (Eng.run_move rfl h19_17) s17 rfl fun act18 d18 s18 hv hr => ?_
  have h3_18 := (hr 3 rfl).trans h3_17
  have h4_18 := (hr 4 rfl).trans h4_17
  have h17_18 : act18.eval (.tmp 17) = .tuple #[.string ((Evt.tagF x).1), .int .i64 ((Evt.tagF x).2)] := hv
  have d18 := d18.trans d17
  clear hv hr
  refine EngI.tail_val (w1 := w17) (v := .string ((Evt.tagF x).1)) EngI.free_wide rfl rfl rfl rfl ?_ s18 rfl ?_
  ·have e0 : act18.eval (.tmp 17) = .tuple #[.string ((Evt.tagF x).1), .int .i64 ((Evt.tagF x).2)] := h17_18
   simp only [execOp, resolve, e0]
   go_simp
  intro act19 d19 s19 hv hr
  have h3_19 := (hr 3 rfl).trans h3_18
  have h4_19 := (hr 4 rfl).trans h4_18
  have h17_19 := (hr 17 rfl).trans h17_18
  have h20_19 : act19.eval (.tmp 20) = .string ((Evt.tagF x).1) := hv
  have d19 := d19.trans d18
  clear hv hr
  refine EngI.tail_val (w1 := w17) (v := .int .i64 ((Evt.tagF x).2)) EngI.free_wide rfl rfl rfl rfl ?_ s19 rfl ?_
  ·have e0 : act19.eval (.tmp 17) = .tuple #[.string ((Evt.tagF x).1), .int .i64 ((Evt.tagF x).2)] := h17_19
   simp only [execOp, resolve, e0]
   go_simp
  intro act20 d20 s20 hv hr
  have h3_20 := (hr 3 rfl).trans h3_19
  have h4_20 := (hr 4 rfl).trans h4_19
  have h20_20 := (hr 20 rfl).trans h20_19
  have h21_20 : act20.eval (.tmp 21) = .int .i64 ((Evt.tagF x).2) := hv
  have d20 := d20.trans d19
  clear hv hr
  refine EngI.tail_val EngI.free_wide rfl rfl rfl rfl (Eng.run_assign rfl h20_20) s20 rfl fun act21 d21 s21 hv hr => ?_
  have h3_21 := (hr 3 rfl).trans h3_20
  have h4_21 := (hr 4 rfl).trans h4_20
  have h21_21 := (hr 21 rfl).trans h21_20
  have h5_21 : act21.eval (.tmp 5) = .string ((Evt.tagF x).1) := hv
  have d21 := d21.trans d20
  clear hv hr
  refine EngI.tail_val EngI.free_wide rfl rfl rfl rfl (Eng.run_assign rfl h21_21) s21 rfl fun act22 d22 s22 hv hr => ?_
  have h3_22 := (hr 3 rfl).trans h3_21
  have h4_22 := (hr 4 rfl).trans h4_21
  have h5_22 := (hr 5 rfl).trans h5_21
  have h6_22 : act22.eval (.tmp 6) = .int .i64 ((Evt.tagF x).2) := hv
  have d22 := d22.trans d21
  clear hv hr
  refine EngI.tail_nil ?_
  refine wp_seq ?_
  refine Eng.regionS (Eng.still [fun u_ => u_ = .string ((Evt.tagF x).1), fun u_ => u_ = .string ((Evt.tagF x).1), fun u_ => u_ = .bool true, fun u_ => u_ = .bool true, fun u_ => u_ = .int .i64 ((Evt.tagF x).2), fun u_ => u_ = .int .i64 ((Evt.tagF x).2), fun u_ => u_ = .bool true, fun u_ => u_ = .bool true, fun u_ => u_ = .bool true]) (fun _ => .plain) 9 0 30 s22 rfl (by kernel_rfl) (Eng.still_stable _) (Or.inr (Eng.still_any _)) ?_ ?_
  ·refine .cons (fun _ => ?_) (.cons (fun _ => ?_) (.cons (fun _ => ?_) (.cons (fun _ => ?_) (.cons (fun _ => ?_) (.cons (fun _ => ?_) (.cons (fun _ => ?_) (.cons (fun _ => ?_) (.cons (fun _ => ?_) (.nil)))))))))
   ·exact Eng.plain rfl rfl fun a w' H => Eng.vr rfl (Eng.run_move rfl ((H.kept 3 (by kernel_rfl)).trans h3_22))
   ·exact Eng.plain rfl rfl fun a w' H => Eng.vr rfl (Eng.run_move rfl ((H.kept 5 (by kernel_rfl)).trans h5_22))
   ·refine Eng.plain rfl rfl fun a w' H => ?_
    refine Eng.vr (v := .bool (((Evt.tagF x).1).toList == ((Evt.tagF x).1).toList)) (by show _ = Value.bool true; rw [show (((Evt.tagF x).1).toList == ((Evt.tagF x).1).toList) = true from beq_self_eq_true _]) ?_
    have e0 : a.eval (.tmp 22) = .string ((Evt.tagF x).1) := (H.dep 0 22 (by kernel_rfl) rfl)
    have e1 : a.eval (.tmp 23) = .string ((Evt.tagF x).1) := (H.dep 1 23 (by kernel_rfl) rfl)
    simp only [execOp, resolve, e0, e1]
    go_simp
   ·exact Eng.plain rfl rfl fun a w' H => Eng.vr rfl (Eng.run_move rfl (H.dep 2 24 (by kernel_rfl) rfl))
   ·refine Eng.guardedT (j := 3) (d := 25) rfl rfl (by kernel_rfl) rfl (fun v w h => h) fun a w' H => ?_
    exact Eng.val (w1 := w') (v := .int .i64 ((Evt.tagF x).2)) (Eng.run_move rfl ((H.kept 4 (by kernel_rfl)).trans h4_22)) (Below.refl _ _) rfl
   ·refine Eng.guardedT (j := 3) (d := 25) rfl rfl (by kernel_rfl) rfl (fun v w h => h) fun a w' H => ?_
    exact Eng.val (w1 := w') (v := .int .i64 ((Evt.tagF x).2)) (Eng.run_move rfl ((H.kept 6 (by kernel_rfl)).trans h6_22)) (Below.refl _ _) rfl
   ·refine Eng.guardedT (j := 3) (d := 25) rfl rfl (by kernel_rfl) rfl (fun v w h => h) fun a w' H => ?_
    refine Eng.vr (v := .bool (((Evt.tagF x).2) == ((Evt.tagF x).2))) (by show _ = Value.bool true; rw [show (((Evt.tagF x).2) == ((Evt.tagF x).2)) = true from beq_self_eq_true _]) ?_
    have e0 : a.eval (.tmp 26) = .int .i64 ((Evt.tagF x).2) := (H.dep 4 26 (by kernel_rfl) rfl)
    have e1 : a.eval (.tmp 27) = .int .i64 ((Evt.tagF x).2) := (H.dep 5 27 (by kernel_rfl) rfl)
    simp only [execOp, resolve, e0, e1]
    go_simp
   ·exact Eng.plain rfl rfl fun a w' H => Eng.vr rfl (Eng.run_and rfl rfl (G := true) (H.dep 3 25 (by kernel_rfl) rfl) (fun hb => (H.dep 6 28 (by kernel_rfl) rfl)))
   ·exact Eng.plain rfl rfl fun a w' H => Eng.vr rfl (Eng.run_assign rfl (H.dep 7 29 (by kernel_rfl) rfl))
  intro act23 w23 T
  have h2_23 : act23.eval (.tmp 2) = .bool true := T.done 8 2 rfl rfl
  have d23 := T.defers.trans d22
  have bl23 := bl17.trans (T.below.mono bl17.size)
  clear T
  refine Eng.tail_nil ?_
  refine wp_ret ?_
  repeat (first | refine Eng.in_ret ?_ | refine Eng.then_ret ?_)
  exact Eng.ret1 rfl d23 h2_23 ⟨rfl, bl23⟩
end Go.Proofs.YtgnmjaacnmkgnaaDoor.X
end
