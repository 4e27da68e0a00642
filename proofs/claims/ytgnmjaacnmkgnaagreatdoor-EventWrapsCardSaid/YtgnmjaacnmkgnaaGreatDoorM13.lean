/- Words and walks that the row of EventWraps needs: printed by programs, and plain laws. -/
import Derived.Test.YtgnmjaacnmkgnaaGreatDoorM12
import Derived.Test.YtgnmjaacnmkgnaaGreatDoorM10
namespace Go.Proofs.YtgnmjaacnmkgnaaGreatDoorW.PrintWords
end Go.Proofs.YtgnmjaacnmkgnaaGreatDoorW.PrintWords
namespace Go.Proofs.YtgnmjaacnmkgnaaGreatDoorW.PrintLast
end Go.Proofs.YtgnmjaacnmkgnaaGreatDoorW.PrintLast
namespace Go.Proofs.YtgnmjaacnmkgnaaGreatDoorW.PrintMore
end Go.Proofs.YtgnmjaacnmkgnaaGreatDoorW.PrintMore
section
namespace Go.Proofs.YtgnmjaacnmkgnaaGreatDoor.X
open Go.RowKit Go.Shelf Go.Proofs Go.Proofs.YtgnmjaacnmkgnaaGreatDoorW.PrintWords Go.Proofs.YtgnmjaacnmkgnaaGreatDoorW.PrintLast Go.Proofs.YtgnmjaacnmkgnaaGreatDoorW.PrintMore
set_option linter.unusedVariables false
set_option linter.unusedSimpArgs false
attribute [local go_sem] max2_int min2_int max_two min_two
set_option maxHeartbeats 4000000 in
set_option maxRecDepth 100000 in
theorem Evt.wrap_calls (g : Nat) (nv : Value) (node : List Evt.Ev) (kk : Int) (tm : Nat) (w : World) (hk : w.heap[g]? = some (.cells #[nv] 24 (0, 0))) (hnd : Eng.Reads w nv node.length 5 (Evt.cells node)) (hk0 : 0 ≤ kk) (hk1 : kk ≤ 100) (hn10 : tm ≤ 10) (hnl : node.length ≤ 4000) : Calls Tryz.prog 13 #[.int .i64 kk, .int .i64 (tm : Int), .pointer (some ⟨g, 0, none⟩)] w fun e w' => ∃ o, e = .returned o ∧ w'.ownsRow w.heap.size 29 5 o (Evt.wrapL kk tm node).length (Evt.cells (Evt.wrapL kk tm node)) ∧ Below w.heap.size w w' := by
 have hw : IntKind.i64.wrap (kk + 1) = kk + 1 := Eng.i64_id (by omega) (by omega)
 refine Eng.enter Tryz.func13 rfl fun act0 d0 s0 v0 => ?_
 have s0 : act0.tmps.size = 25 := s0
 have h0_0 : act0.eval (.tmp 0) = .int .i64 kk := v0 0 (by simp)
 have h1_0 : act0.eval (.tmp 1) = .int .i64 (tm : Int) := v0 1 (by simp)
 have h2_0 : act0.eval (.tmp 2) = .pointer (some ⟨g, 0, none⟩) := v0 2 (by simp)
 clear v0
 have bl0 : Below w.heap.size w w := Below.refl _ _
 refine wp_seq ?_
 refine Eng.regionS (Eng.still [fun u_ => u_ = .slice none 0 0]) (fun _ => .plain) 1 0 25 s0 rfl (by kernel_rfl) (Eng.still_stable _) (Or.inr (Eng.still_any _)) ?_ ?_
 ·refine .cons (fun _ => ?_) (.nil)
  ·exact Eng.plain rfl rfl fun a w' H => Eng.vr rfl (Eng.run_assign rfl (rfl : a.eval (.const (.slice none 0 0)) = .slice none 0 0))
 intro act1 w1 T
 have h0_1 := (T.rest 0 (by kernel_rfl)).trans h0_0
 have h1_1 := (T.rest 1 (by kernel_rfl)).trans h1_0
 have h2_1 := (T.rest 2 (by kernel_rfl)).trans h2_0
 have kg_1 := (T.below.block _ (Array.getElem?_eq_some_iff.1 hk).1).trans hk
 have lg_1 := Nat.lt_of_lt_of_le (Array.getElem?_eq_some_iff.1 hk).1 T.below.size
 have h5_1 : act1.eval (.tmp 5) = .slice none 0 0 := T.done 0 5 rfl rfl
 have d1 := T.defers.trans d0
 have s1 := T.size.trans s0
 have bl1 := bl0.trans (T.below.mono bl0.size)
 clear T
 refine Eng.tail_nil ?_
 first | show Code.wp Tryz.prog _ _ _ _ | skip
 refine wp_seq ?_
 refine Eng.regionT (n := 5) rfl ?_
 refine Eng.tail_val (w1 := w1) (v := .agg #[.int .i64 0, .string ⟨#[]⟩, .string ⟨#[]⟩, .string ⟨#[]⟩, .bool false]) rfl rfl rfl ?_ s1 rfl ?_
 ·have e0 : act1.eval (.const (.int .i64 0)) = .int .i64 0 := (rfl : act1.eval (.const (.int .i64 0)) = .int .i64 0)
  simp only [execOp, resolve, List.map_toArray, List.map_cons, List.map_nil, e0]
  go_simp
  all_goals first | rfl | (simp; done) | (rw [Bool.eq_iff_iff]; simp; done) | omega | skip
 intro act2 d2 s2 hv hr
 have h0_2 := (hr 0 rfl).trans h0_1
 have h1_2 := (hr 1 rfl).trans h1_1
 have h2_2 := (hr 2 rfl).trans h2_1
 have h5_2 := (hr 5 rfl).trans h5_1
 have h7_2 : act2.eval (.tmp 7) = .agg #[.int .i64 0, .string ⟨#[]⟩, .string ⟨#[]⟩, .string ⟨#[]⟩, .bool false] := hv
 have d2 := d2.trans d1
 clear hv hr
 refine Eng.tail_val rfl rfl rfl (Eng.run_move rfl h0_2) s2 rfl fun act3 d3 s3 hv hr => ?_
 have h0_3 := (hr 0 rfl).trans h0_2
 have h1_3 := (hr 1 rfl).trans h1_2
 have h2_3 := (hr 2 rfl).trans h2_2
 have h5_3 := (hr 5 rfl).trans h5_2
 have h7_3 := (hr 7 rfl).trans h7_2
 have h8_3 : act3.eval (.tmp 8) = .int .i64 kk := hv
 have d3 := d3.trans d2
 clear hv hr
 refine Eng.tail_val (w1 := w1) (v := .agg #[.int .i64 kk, .string ⟨#[]⟩, .string ⟨#[]⟩, .string ⟨#[]⟩, .bool false]) rfl rfl rfl ?_ s3 rfl ?_
 ·have e0 : act3.eval (.tmp 8) = .int .i64 kk := h8_3
  simp only [execOp, resolve, List.map_toArray, List.map_cons, List.map_nil, e0]
  go_simp
  all_goals first | rfl | (simp; done) | (rw [Bool.eq_iff_iff]; simp; done) | omega | skip
 intro act4 d4 s4 hv hr
 have h0_4 := (hr 0 rfl).trans h0_3
 have h1_4 := (hr 1 rfl).trans h1_3
 have h2_4 := (hr 2 rfl).trans h2_3
 have h5_4 := (hr 5 rfl).trans h5_3
 have h7_4 := (hr 7 rfl).trans h7_3
 have h9_4 : act4.eval (.tmp 9) = .agg #[.int .i64 kk, .string ⟨#[]⟩, .string ⟨#[]⟩, .string ⟨#[]⟩, .bool false] := hv
 have d4 := d4.trans d3
 clear hv hr
 refine Eng.tail_ex rfl rfl rfl (Eng.build_own (B := w.heap.size) (size := 5) (z := .agg #[.int .i64 0, .string ⟨#[]⟩, .string ⟨#[]⟩, .string ⟨#[]⟩, .bool false]) (us := Evt.cells [Evt.ev0 0, Evt.ev0 kk]) [(0, .agg #[.int .i64 0, .string ⟨#[]⟩, .string ⟨#[]⟩, .string ⟨#[]⟩, .bool false]), (1, .agg #[.int .i64 kk, .string ⟨#[]⟩, .string ⟨#[]⟩, .string ⟨#[]⟩, .bool false])] rfl Tryz.underlying24 (by kernel_rfl) (by have e0 : act4.eval (.tmp 7) = .agg #[.int .i64 0, .string ⟨#[]⟩, .string ⟨#[]⟩, .string ⟨#[]⟩, .bool false] := h7_4; have e1 : act4.eval (.tmp 9) = .agg #[.int .i64 kk, .string ⟨#[]⟩, .string ⟨#[]⟩, .string ⟨#[]⟩, .bool false] := h9_4; simp only [List.map_toArray, List.map_cons, List.map_nil, e0, e1]) rfl (by kernel_rfl) rfl rfl rfl bl1.size) s4 rfl fun v_5 w5 act5 R d5 s5 hv hr => ?_
 obtain ⟨O_5, b_5⟩ := R
 have h0_5 := (hr 0 rfl).trans h0_4
 have h1_5 := (hr 1 rfl).trans h1_4
 have h2_5 := (hr 2 rfl).trans h2_4
 have h5_5 := (hr 5 rfl).trans h5_4
 have h10_5 : act5.eval (.tmp 10) = v_5 := hv
 have d5 := d5.trans d4
 clear hv hr
 have kg_5 := (b_5.block _ lg_1).trans kg_1
 have lg_5 := Nat.lt_of_lt_of_le lg_1 b_5.size
 have bl5 := bl1.trans (b_5.mono bl1.size)
 have F_5 := Eng.Reads.of_own O_5
 have Oo_5 : w5.ownsRow w.heap.size 29 5 v_5 (Evt.wl kk node 0).length (Evt.cells (Evt.wl kk node 0)) := Evt.wl_zero O_5
 refine Eng.tail_val rfl rfl rfl (Eng.run_assign rfl h10_5) s5 rfl fun act6 d6 s6 hv hr => ?_
 have h0_6 := (hr 0 rfl).trans h0_5
 have h1_6 := (hr 1 rfl).trans h1_5
 have h2_6 := (hr 2 rfl).trans h2_5
 have h5_6 := (hr 5 rfl).trans h5_5
 have h6_6 : act6.eval (.tmp 6) = v_5 := hv
 have d6 := d6.trans d5
 clear hv hr
 refine Eng.tail_nil ?_
 first | show Code.wp Tryz.prog _ _ _ _ | skip
 refine wp_seq ?_
 refine wp_seq ?_
 refine Eng.regionS (Eng.still [fun u_ => u_ = .int .i64 (tm : Int), fun u_ => u_ = .int .i64 0]) (fun _ => .plain) 2 0 25 s6 rfl (by kernel_rfl) (Eng.still_stable _) (Or.inr (Eng.still_any _)) ?_ ?_
 ·refine .cons (fun _ => ?_) (.cons (fun _ => ?_) (.nil))
  ·exact Eng.plain rfl rfl fun a w' H => Eng.vr rfl (Eng.run_move rfl ((H.kept 1 (by kernel_rfl)).trans h1_6))
  ·exact Eng.plain rfl rfl fun a w' H => Eng.vr rfl (Eng.run_move rfl (rfl : a.eval (.const (.int .i64 0)) = .int .i64 0))
 intro act7 w7 T
 have h0_7 := (T.rest 0 (by kernel_rfl)).trans h0_6
 have h1_7 := (T.rest 1 (by kernel_rfl)).trans h1_6
 have h2_7 := (T.rest 2 (by kernel_rfl)).trans h2_6
 have h5_7 := (T.rest 5 (by kernel_rfl)).trans h5_6
 have h6_7 := (T.rest 6 (by kernel_rfl)).trans h6_6
 have kg_7 := (T.below.block _ lg_5).trans kg_5
 have lg_7 := Nat.lt_of_lt_of_le lg_5 T.below.size
 have Oout_7 := Eng.own_below Oo_5 T.below
 have h11_7 : act7.eval (.tmp 11) = .int .i64 (tm : Int) := T.done 0 11 rfl rfl
 have h12_7 : act7.eval (.tmp 12) = .int .i64 0 := T.done 1 12 rfl rfl
 have d7 := T.defers.trans d6
 have s7 := T.size.trans s6
 have bl7 := bl5.trans (T.below.mono bl5.size)
 clear T
 refine Eng.tail_nil ?_
 first | show Code.wp Tryz.prog _ _ _ _ | skip
 refine wp_block ?_
 refine Eng.loopN (fun n a w' => ∃ (j : Nat) (o : Value), tm - j = n ∧ (j ≤ tm) ∧ (w'.ownsRow w.heap.size 29 5 o (Evt.wl kk node j).length (Evt.cells (Evt.wl kk node j))) ∧ a.defers = [] ∧ a.tmps.size = 25 ∧ Below w.heap.size w w' ∧ a.eval (.tmp 0) = .int .i64 kk ∧ a.eval (.tmp 1) = .int .i64 (tm : Int) ∧ a.eval (.tmp 2) = .pointer (some ⟨g, 0, none⟩) ∧ a.eval (.tmp 5) = .slice none 0 0 ∧ a.eval (.tmp 6) = o ∧ a.eval (.tmp 11) = .int .i64 (tm : Int) ∧ a.eval (.tmp 12) = .int .i64 (j : Nat) ∧ w'.heap[g]? = some (.cells (#[nv]) 24 (0, 0)) ∧ g < w'.heap.size) (n0 := tm - 0) ?_ ?_
 ·exact ⟨0, v_5, rfl, by omega, Oout_7, d7, s7, bl7, h0_7, h1_7, h2_7, h5_7, (h6_7.trans (by first | rfl | (congr 1; rw [Eng.i64_id (by omega) (by omega)]; omega) | (simp; done))), h11_7, (h12_7.trans (by first | rfl | (congr 1; rw [Eng.i64_id (by omega) (by omega)]; omega) | (simp; done))), kg_7, lg_7⟩
 rintro n act8 w8 ⟨j, o, rfl, hc0_8, hc1_8, d8, s8, bl8, h0_8, h1_8, h2_8, h5_8, h6_8, h11_8, h12_8, kg_8, lg_8⟩
 have Fnd_8 := Eng.Reads.below hnd bl8
 have hj1 := hc0_8
 have hwl := Evt.wl_len kk node (n := tm) hj1 hn10 hnl
 refine wp_seq ?_
 obtain ⟨q13, Bq13⟩ : ∃ b : Bool, b = (decide ((j : Nat) < (tm : Int))) := ⟨_, rfl⟩
 refine Eng.regionS (Eng.still [fun u_ => u_ = .bool q13]) (fun _ => .plain) 1 0 25 s8 rfl (by kernel_rfl) (Eng.still_stable _) (Or.inr (Eng.still_any _)) ?_ ?_
 ·refine .cons (fun _ => ?_) (.nil)
  ·refine Eng.plain rfl rfl fun a w' H => ?_
   refine Eng.vr (v := .bool (decide ((j : Nat) < (tm : Int)))) (by show _ = Value.bool q13; rw [Bq13]) ?_
   have e0 : a.eval (.tmp 12) = .int .i64 (j : Nat) := ((H.kept 12 (by kernel_rfl)).trans h12_8)
   have e1 : a.eval (.tmp 11) = .int .i64 (tm : Int) := ((H.kept 11 (by kernel_rfl)).trans h11_8)
   simp only [execOp, resolve, List.map_toArray, List.map_cons, List.map_nil, e0, e1]
   go_simp
   all_goals first | rfl | (simp; done) | (rw [Bool.eq_iff_iff]; simp; done) | omega | (split <;> first | (simp_all; done) | (split <;> simp_all; done)) | skip
 intro act9 w9 T
 have h0_9 := (T.rest 0 (by kernel_rfl)).trans h0_8
 have h1_9 := (T.rest 1 (by kernel_rfl)).trans h1_8
 have h2_9 := (T.rest 2 (by kernel_rfl)).trans h2_8
 have h5_9 := (T.rest 5 (by kernel_rfl)).trans h5_8
 have h6_9 := (T.rest 6 (by kernel_rfl)).trans h6_8
 have h11_9 := (T.rest 11 (by kernel_rfl)).trans h11_8
 have h12_9 := (T.rest 12 (by kernel_rfl)).trans h12_8
 have kg_9 := (T.below.block _ lg_8).trans kg_8
 have lg_9 := Nat.lt_of_lt_of_le lg_8 T.below.size
 have Fnd_9 := Eng.Reads.below Fnd_8 T.below
 have Oout_9 := Eng.own_below hc1_8 T.below
 have h13_9 : act9.eval (.tmp 13) = .bool q13 := T.done 0 13 rfl rfl
 have d9 := T.defers.trans d8
 have s9 := T.size.trans s8
 have bl9 := bl8.trans (T.below.mono bl8.size)
 clear T
 refine Eng.tail_nil ?_
 first | show Code.wp Tryz.prog _ _ _ _ | skip
 refine wp_seq ?_
 refine wp_cond_split h13_9 (fun hq => ?_) (fun hq => ?_)
 ·
  have c13 := Bq13.symm.trans hq
  clear hq
  have c13 := of_decide_eq_true c13
  have hj0 : j < tm := by omega
  refine wp_skip ?_
  first | show Code.wp Tryz.prog _ _ _ _ | skip
  refine wp_seq ?_
  refine wp_block ?_
  refine Eng.regionT (n := 4) rfl ?_
  refine Eng.tail_val rfl rfl rfl (Eng.run_move rfl h6_9) s9 rfl fun act11 d11 s11 hv hr => ?_
  have h0_11 := (hr 0 rfl).trans h0_9
  have h1_11 := (hr 1 rfl).trans h1_9
  have h2_11 := (hr 2 rfl).trans h2_9
  have h5_11 := (hr 5 rfl).trans h5_9
  have h11_11 := (hr 11 rfl).trans h11_9
  have h12_11 := (hr 12 rfl).trans h12_9
  have h14_11 : act11.eval (.tmp 14) = o := hv
  have d11 := d11.trans d9
  clear hv hr
  refine Eng.tail_val (w1 := w9) (v := nv) rfl rfl rfl ?_ s11 rfl ?_
  ·exact Eng.run_loadb rfl h2_11 (((Below.refl _ _).block _ lg_9).trans kg_9) rfl (by kernel_rfl)
  intro act12 d12 s12 hv hr
  have h0_12 := (hr 0 rfl).trans h0_11
  have h1_12 := (hr 1 rfl).trans h1_11
  have h2_12 := (hr 2 rfl).trans h2_11
  have h5_12 := (hr 5 rfl).trans h5_11
  have h11_12 := (hr 11 rfl).trans h11_11
  have h12_12 := (hr 12 rfl).trans h12_11
  have h14_12 := (hr 14 rfl).trans h14_11
  have h15_12 : act12.eval (.tmp 15) = nv := hv
  have d12 := d12.trans d11
  clear hv hr
  refine Eng.tail_ex rfl rfl rfl (Eng.run_appendI (z := .agg #[.int .i64 0, .string ⟨#[]⟩, .string ⟨#[]⟩, .string ⟨#[]⟩, .bool false]) rfl Tryz.underlying24 (by kernel_rfl) rfl rfl h14_12 Oout_9 h15_12 Fnd_9 (Evt.cells_one _) (by omega) bl9.size) s12 rfl fun v_13 w13 act13 R d13 s13 hv hr => ?_
  obtain ⟨O_13, _, b_13, G_13, EO_13⟩ := R
  have h0_13 := (hr 0 rfl).trans h0_12
  have h1_13 := (hr 1 rfl).trans h1_12
  have h2_13 := (hr 2 rfl).trans h2_12
  have h5_13 := (hr 5 rfl).trans h5_12
  have h11_13 := (hr 11 rfl).trans h11_12
  have h12_13 := (hr 12 rfl).trans h12_12
  have h16_13 : act13.eval (.tmp 16) = v_13 := hv
  have d13 := d13.trans d12
  clear hv hr
  have kg_13 := (G_13.block _ lg_9 (Eng.own_ne Oout_9 kg_9 rfl)).trans kg_9
  have lg_13 := Nat.lt_of_lt_of_le lg_9 G_13.size
  have bl13 := bl9.trans b_13
  have Oa13 : w13.ownsRow w.heap.size 29 5 v_13 (Evt.wl kk node (j + 1)).length (Evt.cells (Evt.wl kk node (j + 1))) := Evt.wl_next O_13
  have Fa13 := Eng.Reads.of_own Oa13
  refine Eng.tail_val rfl rfl rfl (Eng.run_assign rfl h16_13) s13 rfl fun act14 d14 s14 hv hr => ?_
  have h0_14 := (hr 0 rfl).trans h0_13
  have h1_14 := (hr 1 rfl).trans h1_13
  have h2_14 := (hr 2 rfl).trans h2_13
  have h5_14 := (hr 5 rfl).trans h5_13
  have h11_14 := (hr 11 rfl).trans h11_13
  have h12_14 := (hr 12 rfl).trans h12_13
  have h6_14 : act14.eval (.tmp 6) = v_13 := hv
  have d14 := d14.trans d13
  clear hv hr
  refine Eng.tail_nil ?_
  first | show Code.wp Tryz.prog _ _ _ _ | skip
  refine Eng.regionS (Eng.still [fun u_ => u_ = .int .i64 (IntKind.i64.wrap ((j : Nat) + 1)), fun u_ => u_ = .int .i64 (IntKind.i64.wrap ((j : Nat) + 1))]) (fun _ => .plain) 2 0 25 s14 rfl (by kernel_rfl) (Eng.still_stable _) (Or.inr (Eng.still_any _)) ?_ ?_
  ·refine .cons (fun _ => ?_) (.cons (fun _ => ?_) (.nil))
   ·refine Eng.plain rfl rfl fun a w' H => ?_
    refine Eng.vr (v := .int .i64 (IntKind.i64.wrap ((j : Nat) + 1))) rfl ?_
    have e0 : a.eval (.tmp 12) = .int .i64 (j : Nat) := ((H.kept 12 (by kernel_rfl)).trans h12_14)
    have e1 : a.eval (.const (.int .i64 1)) = .int .i64 1 := (rfl : a.eval (.const (.int .i64 1)) = .int .i64 1)
    simp only [execOp, resolve, List.map_toArray, List.map_cons, List.map_nil, e0, e1]
    go_simp
    all_goals first | rfl | (simp; done) | (rw [Bool.eq_iff_iff]; simp; done) | omega | (split <;> first | (simp_all; done) | (split <;> simp_all; done)) | skip
   ·exact Eng.plain rfl rfl fun a w' H => Eng.vr rfl (Eng.run_move rfl (H.dep 0 17 (by kernel_rfl) rfl))
  intro act15 w15 T
  have h0_15 := (T.rest 0 (by kernel_rfl)).trans h0_14
  have h1_15 := (T.rest 1 (by kernel_rfl)).trans h1_14
  have h2_15 := (T.rest 2 (by kernel_rfl)).trans h2_14
  have h5_15 := (T.rest 5 (by kernel_rfl)).trans h5_14
  have h6_15 := (T.rest 6 (by kernel_rfl)).trans h6_14
  have h11_15 := (T.rest 11 (by kernel_rfl)).trans h11_14
  have kg_15 := (T.below.block _ lg_13).trans kg_13
  have lg_15 := Nat.lt_of_lt_of_le lg_13 T.below.size
  have Oa13_15 := Eng.own_below Oa13 T.below
  have h12_15 : act15.eval (.tmp 12) = .int .i64 (IntKind.i64.wrap ((j : Nat) + 1)) := T.done 1 12 rfl rfl
  have d15 := T.defers.trans d14
  have s15 := T.size.trans s14
  have bl15 := bl13.trans (T.below.mono bl13.size)
  clear T
  refine Eng.tail_nil ?_
  exact ⟨_, by omega, j + 1, v_13, rfl, by omega, Oa13_15, d15, s15, bl15, h0_15, h1_15, h2_15, h5_15, (h6_15.trans (by first | rfl | (congr 1; rw [Eng.i64_id (by omega) (by omega)]; omega) | (simp; done))), h11_15, (h12_15.trans (by first | rfl | (congr 1; rw [Eng.i64_id (by omega) (by omega)]; omega) | (simp; done))), kg_15, lg_15⟩
 ·
  have c13 := Bq13.symm.trans hq
  clear hq
  have c13 := of_decide_eq_false c13
  have hje : j = tm := by omega
  refine wp_exit ?_
  first | show Code.wp Tryz.prog _ _ _ _ | skip
  first | show Code.wp Tryz.prog _ _ _ _ | skip
  refine wp_seq ?_
  refine Eng.regionT (n := 8) rfl ?_
  refine Eng.tail_val rfl rfl rfl (Eng.run_move rfl h6_9) s9 rfl fun act17 d17 s17 hv hr => ?_
  have h0_17 := (hr 0 rfl).trans h0_9
  have h18_17 : act17.eval (.tmp 18) = o := hv
  have d17 := d17.trans d9
  clear hv hr
  refine Eng.tail_val rfl rfl rfl (Eng.run_move rfl h0_17) s17 rfl fun act18 d18 s18 hv hr => ?_
  have h18_18 := (hr 18 rfl).trans h18_17
  have h19_18 : act18.eval (.tmp 19) = .int .i64 kk := hv
  have d18 := d18.trans d17
  clear hv hr
  refine Eng.tail_val (w1 := w9) (v := .int .i64 (IntKind.i64.wrap (kk + 1))) rfl rfl rfl ?_ s18 rfl ?_
  ·have e0 : act18.eval (.tmp 19) = .int .i64 kk := h19_18
   have e1 : act18.eval (.const (.int .i64 1)) = .int .i64 1 := (rfl : act18.eval (.const (.int .i64 1)) = .int .i64 1)
   simp only [execOp, resolve, List.map_toArray, List.map_cons, List.map_nil, e0, e1]
   go_simp
   all_goals first | rfl | (simp; done) | (rw [Bool.eq_iff_iff]; simp; done) | omega | (split <;> first | (simp_all; done) | (split <;> simp_all; done)) | skip
  intro act19 d19 s19 hv hr
  have h18_19 := (hr 18 rfl).trans h18_18
  have h20_19 : act19.eval (.tmp 20) = .int .i64 (IntKind.i64.wrap (kk + 1)) := hv
  have d19 := d19.trans d18
  clear hv hr
  refine Eng.tail_val (w1 := w9) (v := .agg #[.int .i64 (IntKind.i64.wrap (kk + 1)), .string ⟨#[]⟩, .string ⟨#[]⟩, .string ⟨#[]⟩, .bool false]) rfl rfl rfl ?_ s19 rfl ?_
  ·have e0 : act19.eval (.tmp 20) = .int .i64 (IntKind.i64.wrap (kk + 1)) := h20_19
   simp only [execOp, resolve, List.map_toArray, List.map_cons, List.map_nil, e0]
   go_simp
   all_goals first | rfl | (simp; done) | (rw [Bool.eq_iff_iff]; simp; done) | omega | skip
  intro act20 d20 s20 hv hr
  have h18_20 := (hr 18 rfl).trans h18_19
  have h21_20 : act20.eval (.tmp 21) = .agg #[.int .i64 (IntKind.i64.wrap (kk + 1)), .string ⟨#[]⟩, .string ⟨#[]⟩, .string ⟨#[]⟩, .bool false] := hv
  have d20 := d20.trans d19
  clear hv hr
  refine Eng.tail_val (w1 := w9) (v := .agg #[.int .i64 1, .string ⟨#[]⟩, .string ⟨#[]⟩, .string ⟨#[]⟩, .bool false]) rfl rfl rfl ?_ s20 rfl ?_
  ·have e0 : act20.eval (.const (.int .i64 1)) = .int .i64 1 := (rfl : act20.eval (.const (.int .i64 1)) = .int .i64 1)
   simp only [execOp, resolve, List.map_toArray, List.map_cons, List.map_nil, e0]
   go_simp
   all_goals first | rfl | (simp; done) | (rw [Bool.eq_iff_iff]; simp; done) | omega | skip
  intro act21 d21 s21 hv hr
  have h18_21 := (hr 18 rfl).trans h18_20
  have h21_21 := (hr 21 rfl).trans h21_20
  have h22_21 : act21.eval (.tmp 22) = .agg #[.int .i64 1, .string ⟨#[]⟩, .string ⟨#[]⟩, .string ⟨#[]⟩, .bool false] := hv
  have d21 := d21.trans d20
  clear hv hr
  refine Eng.tail_ex rfl rfl rfl (Eng.build_own (B := w.heap.size) (size := 5) (z := .agg #[.int .i64 0, .string ⟨#[]⟩, .string ⟨#[]⟩, .string ⟨#[]⟩, .bool false]) (us := Evt.cells [Evt.ev0 (IntKind.i64.wrap (kk + 1)), Evt.ev0 1]) [(0, .agg #[.int .i64 (IntKind.i64.wrap (kk + 1)), .string ⟨#[]⟩, .string ⟨#[]⟩, .string ⟨#[]⟩, .bool false]), (1, .agg #[.int .i64 1, .string ⟨#[]⟩, .string ⟨#[]⟩, .string ⟨#[]⟩, .bool false])] rfl Tryz.underlying24 (by kernel_rfl) (by have e0 : act21.eval (.tmp 21) = .agg #[.int .i64 (IntKind.i64.wrap (kk + 1)), .string ⟨#[]⟩, .string ⟨#[]⟩, .string ⟨#[]⟩, .bool false] := h21_21; have e1 : act21.eval (.tmp 22) = .agg #[.int .i64 1, .string ⟨#[]⟩, .string ⟨#[]⟩, .string ⟨#[]⟩, .bool false] := h22_21; simp only [List.map_toArray, List.map_cons, List.map_nil, e0, e1]) rfl (by kernel_rfl) rfl rfl rfl bl9.size) s21 rfl fun v_22 w22 act22 R d22 s22 hv hr => ?_
  obtain ⟨O_22, b_22⟩ := R
  have h18_22 := (hr 18 rfl).trans h18_21
  have h23_22 : act22.eval (.tmp 23) = v_22 := hv
  have d22 := d22.trans d21
  clear hv hr
  have Oout_22 := Eng.own_below Oout_9 b_22
  have bl22 := bl9.trans (b_22.mono bl9.size)
  have F_22 := Eng.Reads.of_own O_22
  refine Eng.tail_ex rfl rfl rfl (Eng.run_appendI (z := .agg #[.int .i64 0, .string ⟨#[]⟩, .string ⟨#[]⟩, .string ⟨#[]⟩, .bool false]) rfl Tryz.underlying24 (by kernel_rfl) rfl rfl h18_22 Oout_22 h23_22 F_22 (Evt.cells_one _) (by omega) bl22.size) s22 rfl fun v_23 w23 act23 R d23 s23 hv hr => ?_
  obtain ⟨O_23, _, b_23, G_23, EO_23⟩ := R
  have h24_23 : act23.eval (.tmp 24) = v_23 := hv
  have d23 := d23.trans d22
  clear hv hr
  have bl23 := bl22.trans b_23
  have Oa23 : w23.ownsRow w.heap.size 29 5 v_23 (Evt.wrapL kk tm node).length (Evt.cells (Evt.wrapL kk tm node)) := Evt.wl_end hje hw O_23
  have Fa23 := Eng.Reads.of_own Oa23
  refine Eng.tail_val rfl rfl rfl (Eng.run_assign rfl h24_23) s23 rfl fun act24 d24 s24 hv hr => ?_
  have h5_24 : act24.eval (.tmp 5) = v_23 := hv
  have d24 := d24.trans d23
  clear hv hr
  refine Eng.tail_nil ?_
  first | show Code.wp Tryz.prog _ _ _ _ | skip
  refine wp_ret ?_
  repeat (first | with_reducible refine Eng.in_ret ?_ | with_reducible refine Eng.then_ret ?_)
  exact Eng.ret1 rfl d24 h5_24 ⟨_, rfl, Oa23, bl23⟩
end Go.Proofs.YtgnmjaacnmkgnaaGreatDoor.X
end
section
namespace Go.Proofs.EngG
open Go Go.RowKit Go.Proofs.Eng Go.Proofs.EngI
set_option linter.unusedSimpArgs false
set_option linter.unusedVariables false
variable {Fc : Fence} {nn : Nat} {P : Program} {ops : Array Oper} {Q : Exit → Act → World → Prop} {a : Act} {w : World} {i : Nat} {o : Oper}
theorem tail_callv (hF : Free Fc) {c d n : Nat} {f : FuncId} {fn : Func} {g : Operand} {cap : Array Value} {as_ : Array Operand} {ts : Array TypeId} {R : Value → World → Prop} {os : List Oper} (hf : P.funcs[f]? = some fn) (hname : (fn.name == "runtime.NumGoroutine") = false) (hb : fn.body.isNone = false)
    (ho' : ops.toList.drop i = o :: os) (hg : Region.wanted o (yielded ops a.tmps) = true) (hd : o.dst = some d) (hop : o.op = .call { callee := .value g, args := as_, argTypes := ts }) (hgv : a.eval g = .func (.func f) #[] cap) (args : Array Value) (hargs : as_.map a.eval = args) (hn : a.tmps.size = n) (hlt : decide (d < n) = true)
    (hcall : Calls P f (args ++ cap) w fun e w' => ∃ v, e = .returned v ∧ R v w')
    (h : ∀ (v : Value) (w1 : World) (a' : Act), R v w1 → a'.defers = a.defers → a'.tmps.size = n → a'.eval (.tmp d) = v → (∀ t, (t != d) = true → a'.eval (.tmp t) = a.eval (.tmp t)) → wpOpsIn Fc nn P ops Q (List.range' (i + 1) c) a' w1) : wpOpsIn Fc nn P ops Q (List.range' i (c + 1)) a w := by
  refine tail_one hF ho' hg (by unfold calm; rw [hop]) ?_
  have he := enters hf hname hb (args ++ cap) w
  have hrun : (execOp a.eval o).run P w = .ok (.enter f (args ++ cap)) w := by
    unfold execOp
    rw [hop]
    simp only [resolve, Deferred.ofValue, invoke, hgv, hargs]
    have h2 : (#[] : Array Value) ++ args ++ cap = args ++ cap := by simp
    show Sem.run P (callFunc f (#[] ++ args ++ cap)) w = _
    rw [h2]
    exact he
  unfold Oper.wp
  rw [hrun]
  refine Calls.mono hcall ?_
  rintro e w' ⟨v, rfl, hR⟩
  show wpOpsIn Fc nn P ops Q _ (a.put o.dst v) w'
  rw [hd]
  have hlt := of_decide_eq_true hlt
  have hx : ∀ d', some d = some d' → d' < a.tmps.size := fun d' e => by injection e with e; omega
  refine h v w' _ hR rfl (by simp [Act.put, hn]) ?_ fun t ht => ?_
  · show (a.put (some d) v).tmps.getD d undef = v
    rw [put_getD _ _ _ _ hx, if_pos rfl]
  · show (a.put (some d) v).tmps.getD t undef = _
    rw [put_getD _ _ _ _ hx, if_neg (fun e => by injection e with e; simp [e] at ht)]
    rfl
end Go.Proofs.EngG
namespace Go.Proofs.YtgnmjaacnmkgnaaGreatDoor.X
open Go.RowKit Go.Shelf Go.Proofs
set_option linter.unusedVariables false
set_option linter.unusedSimpArgs false
namespace Dc
theorem alloc_ex1 {a : Act} {o : Oper} {w : World} {T : TypeId} (u : Value) (hop : o.op = .alloc T) (hz : (zeroValue T).run Tryz.prog w = .ok u w) (hc : u.cells = #[u]) : ∃ v w1, (execOp a.eval o).run Tryz.prog w = .ok (.value v) w1 ∧ ∃ g, v = .pointer (some ⟨g, 0, none⟩) ∧ w.heap.size ≤ g ∧ g < w1.heap.size ∧ w1.heap[g]? = some (.cells #[u] T (0, 0)) ∧ Below w.heap.size w w1 := by
  refine ⟨.pointer (some ⟨w.heap.size, 0, none⟩), w.alloc (.cells #[u] T), ?_, w.heap.size, rfl, Nat.le_refl _, ?_, ?_, (Below.refl _ _).alloc (Nat.le_refl _) _⟩
  · unfold execOp; rw [hop]; simp [Instr.alloc, hz, hc, Sem.run_bind, Sem.run_pure, Result.andThen, newVar]; rfl
  · show w.heap.size < (w.heap.push _).size; simp
  · show (w.heap.push _)[w.heap.size]? = _; simp
end Dc
namespace Evt
def isBeg (x : Ev) : Bool := x.kind == 0
def nodeL (l : List Ev) : List Ev := List.take (l.length - 1 - 1) (List.drop 1 l)
theorem node_len (l : List Ev) : (nodeL l).length = l.length - 1 - 1 := by
  unfold nodeL; rw [List.length_take, List.length_drop]; omega
theorem node_law {l : List Ev} (h : rightG rightE l = true) (h3 : 3 ≤ l.length) (h1 : cntP isBeg l = 1) (hl : l.length ≤ 150) : Nodes1 l (nodeL l) := by
  cases l with
  | nil => simp at h3
  | cons b t =>
    rcases List.eq_nil_or_concat t with rfl | ⟨node, z, rfl⟩
    · simp at h3
    · rw [List.concat_eq_append] at h h1 hl h3 ⊢
      have e : nodeL (b :: (node ++ [z])) = node := by
        unfold nodeL
        simp
      rw [e]
      have hr := h
      rw [rightG, Bool.and_eq_true, rightR, Bool.and_eq_true] at hr
      have b0 : b.kind = 0 := by
        by_cases hb : b.kind = 0
        · exact hb
        · exfalso
          have e1 : takeF [] b.kind = none := by
            by_cases h1 : b.kind = 1
            · rw [h1]; rfl
            by_cases h3 : b.kind = 3
            · rw [h3]; rfl
            by_cases h5 : b.kind = 5
            · rw [h5]; rfl
            rw [takeF_x _ _ hb h1 h3 h5]; rfl
          rw [e1] at hr
          exact absurd hr.1.2 (by simp)
      have hk : ∀ x ∈ node ++ [z], x.kind ≠ 0 := by
        intro x hx hx0
        unfold cntP at h1
        rw [List.countP_cons] at h1
        have hbb : isBeg b = true := by unfold isBeg; rw [b0]; rfl
        rw [hbb] at h1
        have h2 : List.countP isBeg (node ++ [z]) = 0 := by simpa using h1
        have := List.countP_eq_zero.1 h2 x hx
        exact this (by unfold isBeg; rw [hx0]; rfl)
      exact node_of h hk (by simp only [List.length_cons, List.length_append] at hl; omega)
theorem wrap_txt {k : Int} {n : Nat} {l : List Ev} (h : ∀ k, k < l.length → (l.getD k default).text.size ≤ 3000) : ∀ j, j < (wrapL k n (nodeL l)).length → ((wrapL k n (nodeL l)).getD j default).text.size ≤ 9223372036854775807 := by
  intro j hj
  have hm : (wrapL k n (nodeL l)).getD j default ∈ wrapL k n (nodeL l) := by rw [List.getD_eq_getElem?_getD, List.getElem?_eq_getElem hj]; exact List.getElem_mem hj
  generalize (wrapL k n (nodeL l)).getD j default = x at hm
  have h0 : ∀ q : Int, (ev0 q).text.size ≤ 9223372036854775807 := fun q => by show 0 ≤ _; omega
  unfold wrapL at hm
  rcases List.mem_append.1 hm with hm | hm
  · rcases List.mem_append.1 hm with hm | hm
    · simp only [List.mem_cons, List.not_mem_nil, or_false] at hm
      rcases hm with rfl | rfl <;> exact h0 _
    · obtain ⟨m, hm1, hm2⟩ := List.mem_flatten.1 hm
      rw [List.eq_of_mem_replicate hm1] at hm2
      have hx : x ∈ l := List.mem_of_mem_drop (List.mem_of_mem_take hm2)
      obtain ⟨i, hi, he⟩ := List.mem_iff_getElem.1 hx
      have := h i hi
      rw [List.getD_eq_getElem?_getD, List.getElem?_eq_getElem hi] at this
      rw [← he]; exact Nat.le_trans this (by decide)
  · simp only [List.mem_cons, List.not_mem_nil, or_false] at hm
    rcases hm with rfl | rfl <;> exact h0 _
theorem wr_21 {l : List Ev} (h : Nodes1 l (nodeL l)) (hl : l.length ≤ 150) : rightG rightE (wrapL 2 1 (nodeL l)) = decide ((depths l).2 < 40) := by
  have := wrap_right h 2 (.inl rfl) 0 (by decide) (by rw [node_len]; omega)
  rw [this]; rfl
theorem wr_23 {l : List Ev} (h : Nodes1 l (nodeL l)) (hl : l.length ≤ 150) : rightG rightE (wrapL 2 3 (nodeL l)) = decide ((depths l).2 < 40) := by
  have := wrap_right h 2 (.inl rfl) 2 (by decide) (by rw [node_len]; omega)
  rw [this]; rfl
theorem wr_42 {l : List Ev} (h : Nodes1 l (nodeL l)) (hl : l.length ≤ 150) : rightG rightE (wrapL 4 2 (nodeL l)) = decide ((depths l).2 < 40) := by
  have := wrap_right h 4 (.inr rfl) 1 (by decide) (by rw [node_len]; omega)
  rw [this, decide_eq_true (.inr (by decide))]; rfl
theorem wr_41 {l : List Ev} (h : Nodes1 l (nodeL l)) (hl : l.length ≤ 150) : rightG rightE (wrapL 4 1 (nodeL l)) = false := by
  have := wrap_right h 4 (.inr rfl) 0 (by decide) (by rw [node_len]; omega)
  rw [this, decide_eq_false (fun e => e.elim (by decide) (by decide))]; rfl
theorem right_as {b : Bool} {L : List Ev} (e : rightG rightE L = b) (v : Value) (w : World) (hT : Tabs.Holds w) (hl : Eng.Reads w v L.length 5 (cells L)) (hsz : ∀ k, k < L.length → (L.getD k default).text.size ≤ 9223372036854775807) (hlen : L.length ≤ 100000) : Calls Tryz.prog 12 #[v] w fun e w' => e = .returned (.bool b) ∧ Below w.heap.size w w' := by
  have h := Right_calls v L w hT hl hsz hlen
  rw [e] at h; exact h
theorem wrap_short {k : Int} {n : Nat} {l : List Ev} (hn : n ≤ 10) (hl : l.length ≤ 150) : (wrapL k n (nodeL l)).length ≤ 100000 := by
  rw [wrap_len (l := l)]
  have : n * (nodeL l).length ≤ 10 * 150 := Nat.mul_le_mul hn (by rw [node_len]; omega)
  omega
end Evt
end Go.Proofs.YtgnmjaacnmkgnaaGreatDoor.X
end
