/- Words and walks that the row of EventWraps needs: printed by programs, and plain laws. -/
import Derived.Test.YtgnmjaacnmkgnaaGreatDoorM10
import Derived.Test.YtgnmjaacnmkgnaaGreatDoorM6
import Derived.Test.YtgnmjaacnmkgnaaGreatDoorM7
namespace Go.Proofs.YtgnmjaacnmkgnaaGreatDoorW.PrintWords
end Go.Proofs.YtgnmjaacnmkgnaaGreatDoorW.PrintWords
namespace Go.Proofs.YtgnmjaacnmkgnaaGreatDoorW.PrintLast
end Go.Proofs.YtgnmjaacnmkgnaaGreatDoorW.PrintLast
namespace Go.Proofs.YtgnmjaacnmkgnaaGreatDoorW.PrintMore
end Go.Proofs.YtgnmjaacnmkgnaaGreatDoorW.PrintMore
section
namespace Go.Proofs.YtgnmjaacnmkgnaaGreatDoor.X
open Go.RowKit Go.Shelf Go.Proofs Go.Proofs.YtgnmjaacnmkgnaaGreatDoorW.PrintWords Go.Proofs.YtgnmjaacnmkgnaaGreatDoorW.PrintLast Go.Proofs.YtgnmjaacnmkgnaaGreatDoorW.PrintMore
set_option linter.unusedVariables false
set_option linter.unusedSimpArgs false
attribute [local go_sem] max2_int min2_int max_two min_two
set_option maxHeartbeats 4000000 in
set_option maxRecDepth 100000 in
theorem Evt.nodes_calls (v : Value) (l : List Evt.Ev) (w : World) (hl : Eng.Reads w v l.length 5 (Evt.cells l)) : Calls Tryz.prog 15 #[v] w fun e w' => e = .returned (.int .i64 ((Evt.cntP Evt.isTold l : Nat) : Int)) ∧ Below w.heap.size w w' := by
 have hm := Eng.Reads.len_le hl
 refine Eng.enter Tryz.func15 rfl fun act0 d0 s0 v0 => ?_
 have s0 : act0.tmps.size = 22 := s0
 have h0_0 : act0.eval (.tmp 0) = v := v0 0 (by simp)
 clear v0
 have bl0 : Below w.heap.size w w := Below.refl _ _
 refine wp_seq ?_
 refine Eng.regionS (Eng.still [fun u_ => u_ = .int .i64 0]) (fun _ => .plain) 1 0 22 s0 rfl (by kernel_rfl) (Eng.still_stable _) (Or.inr (Eng.still_any _)) ?_ ?_
 ·refine .cons (fun _ => ?_) (.nil)
  ·exact Eng.plain rfl rfl fun a w' H => Eng.vr rfl (Eng.run_assign rfl (rfl : a.eval (.const (.int .i64 0)) = .int .i64 0))
 intro act1 w1 T
 have h0_1 := (T.rest 0 (by kernel_rfl)).trans h0_0
 have Fl_1 := Eng.Reads.below hl T.below
 have h2_1 : act1.eval (.tmp 2) = .int .i64 0 := T.done 0 2 rfl rfl
 have d1 := T.defers.trans d0
 have s1 := T.size.trans s0
 have bl1 := bl0.trans (T.below.mono bl0.size)
 clear T
 refine Eng.tail_nil ?_
 first | show Code.wp Tryz.prog _ _ _ _ | skip
 refine wp_seq ?_
 refine wp_seq ?_
 refine Eng.regionS (Eng.still [fun u_ => u_ = v, fun u_ => u_ = .int .i64 ((l.length : Nat) : Int), fun u_ => u_ = .int .i64 0]) (fun _ => .plain) 3 0 22 s1 rfl (by kernel_rfl) (Eng.still_stable _) (Or.inr (Eng.still_any _)) ?_ ?_
 ·refine .cons (fun _ => ?_) (.cons (fun _ => ?_) (.cons (fun _ => ?_) (.nil)))
  ·exact Eng.plain rfl rfl fun a w' H => Eng.vr rfl (Eng.run_move rfl ((H.kept 0 (by kernel_rfl)).trans h0_1))
  ·exact Eng.plain rfl rfl fun a w' H => Eng.vr (v := .int .i64 ((l.length : Nat) : Int)) rfl (Eng.run_len_sl rfl Tryz.underlying24 (show a.eval (.tmp 5) = v from (H.dep 0 5 (by kernel_rfl) rfl)) (Eng.Reads.below Fl_1 H.below))
  ·exact Eng.plain rfl rfl fun a w' H => Eng.vr rfl (Eng.run_move rfl (rfl : a.eval (.const (.int .i64 0)) = .int .i64 0))
 intro act2 w2 T
 have h0_2 := (T.rest 0 (by kernel_rfl)).trans h0_1
 have h2_2 := (T.rest 2 (by kernel_rfl)).trans h2_1
 have h5_2 : act2.eval (.tmp 5) = v := T.done 0 5 rfl rfl
 have h6_2 : act2.eval (.tmp 6) = .int .i64 ((l.length : Nat) : Int) := T.done 1 6 rfl rfl
 have h7_2 : act2.eval (.tmp 7) = .int .i64 0 := T.done 2 7 rfl rfl
 have d2 := T.defers.trans d1
 have s2 := T.size.trans s1
 have bl2 := bl1.trans (T.below.mono bl1.size)
 clear T
 refine Eng.tail_nil ?_
 first | show Code.wp Tryz.prog _ _ _ _ | skip
 refine wp_block ?_
 refine Eng.loopN (fun n a w' => ∃ (k : Nat), l.length - k = n ∧ (k ≤ l.length) ∧ a.defers = [] ∧ a.tmps.size = 22 ∧ Below w.heap.size w w' ∧ a.eval (.tmp 0) = v ∧ a.eval (.tmp 2) = .int .i64 ((Evt.cntP Evt.isTold (List.take k l) : Nat) : Int) ∧ a.eval (.tmp 5) = v ∧ a.eval (.tmp 6) = .int .i64 ((l.length : Nat) : Int) ∧ a.eval (.tmp 7) = .int .i64 (k : Nat)) (n0 := l.length - 0) ?_ ?_
 ·exact ⟨0, rfl, by omega, d2, s2, bl2, h0_2, (h2_2.trans (by first | rfl | (congr 1; rw [Eng.i64_id (by omega) (by omega)]; omega) | (congr 1; omega) | (simp; done))), h5_2, h6_2, (h7_2.trans (by first | rfl | (congr 1; rw [Eng.i64_id (by omega) (by omega)]; omega) | (congr 1; omega) | (simp; done)))⟩
 rintro n act3 w3 ⟨k, rfl, hc0_3, d3, s3, bl3, h0_3, h2_3, h5_3, h6_3, h7_3⟩
 have Fl_3 := Eng.Reads.below hl bl3
 have hk1 := hc0_3
 refine wp_seq ?_
 obtain ⟨q8, Bq8⟩ : ∃ b : Bool, b = (decide ((k : Nat) < ((l.length : Nat) : Int))) := ⟨_, rfl⟩
 refine Eng.regionS (Eng.still [fun u_ => u_ = .bool q8]) (fun _ => .plain) 1 0 22 s3 rfl (by kernel_rfl) (Eng.still_stable _) (Or.inr (Eng.still_any _)) ?_ ?_
 ·refine .cons (fun _ => ?_) (.nil)
  ·refine Eng.plain rfl rfl fun a w' H => ?_
   refine Eng.vr (v := .bool (decide ((k : Nat) < ((l.length : Nat) : Int)))) (by show _ = Value.bool q8; rw [Bq8]) ?_
   have e0 : a.eval (.tmp 7) = .int .i64 (k : Nat) := ((H.kept 7 (by kernel_rfl)).trans h7_3)
   have e1 : a.eval (.tmp 6) = .int .i64 ((l.length : Nat) : Int) := ((H.kept 6 (by kernel_rfl)).trans h6_3)
   simp only [execOp, resolve, List.map_toArray, List.map_cons, List.map_nil, e0, e1]
   go_simp
   all_goals first | rfl | (simp; done) | (rw [Bool.eq_iff_iff]; simp; done) | omega | (split <;> first | (simp_all; done) | (split <;> simp_all; done)) | skip
 intro act4 w4 T
 have h0_4 := (T.rest 0 (by kernel_rfl)).trans h0_3
 have h2_4 := (T.rest 2 (by kernel_rfl)).trans h2_3
 have h5_4 := (T.rest 5 (by kernel_rfl)).trans h5_3
 have h6_4 := (T.rest 6 (by kernel_rfl)).trans h6_3
 have h7_4 := (T.rest 7 (by kernel_rfl)).trans h7_3
 have Fl_4 := Eng.Reads.below Fl_3 T.below
 have h8_4 : act4.eval (.tmp 8) = .bool q8 := T.done 0 8 rfl rfl
 have d4 := T.defers.trans d3
 have s4 := T.size.trans s3
 have bl4 := bl3.trans (T.below.mono bl3.size)
 clear T
 refine Eng.tail_nil ?_
 first | show Code.wp Tryz.prog _ _ _ _ | skip
 refine wp_seq ?_
 refine wp_cond_split h8_4 (fun hq => ?_) (fun hq => ?_)
 ·
  have c8 := Bq8.symm.trans hq
  clear hq
  have c8 := of_decide_eq_true c8
  have hk0 : k < l.length := by omega
  have hcl := Evt.cntP_le Evt.isTold l k
  refine wp_skip ?_
  first | show Code.wp Tryz.prog _ _ _ _ | skip
  refine wp_seq ?_
  refine wp_block ?_
  refine wp_seq ?_
  refine Eng.regionT (n := 4) rfl ?_
  refine Eng.tail_val (w1 := w4) (v := Eng.elemPtr v (k * 5)) rfl rfl rfl ?_ s4 rfl ?_
  ·exact Eng.run_index_sl rfl Tryz.underlying24 (by kernel_rfl) (show act4.eval (.tmp 5) = v from h5_4) ((show act4.eval (.tmp 7) = .int .i64 (k : Nat) from h7_4).trans (congrArg (Value.int _) (show (k : Nat) = ((k : Nat) : Int) from by omega))) Fl_4 (by omega) rfl
  intro act6 d6 s6 hv hr
  have h0_6 := (hr 0 rfl).trans h0_4
  have h2_6 := (hr 2 rfl).trans h2_4
  have h5_6 := (hr 5 rfl).trans h5_4
  have h6_6 := (hr 6 rfl).trans h6_4
  have h7_6 := (hr 7 rfl).trans h7_4
  have h9_6 : act6.eval (.tmp 9) = Eng.elemPtr v (k * 5) := hv
  have d6 := d6.trans d4
  clear hv hr
  refine Eng.tail_val (w1 := w4) (v := .agg #[.int .i64 ((l.getD k default).kind), .string ((l.getD k default).anchor), .string ((l.getD k default).tag), .string ((l.getD k default).text), .bool ((l.getD k default).plain)]) rfl rfl rfl ?_ s6 rfl ?_
  ·exact Eng.run_load_els [.int .i64 ((l.getD k default).kind), .string ((l.getD k default).anchor), .string ((l.getD k default).tag), .string ((l.getD k default).text), .bool ((l.getD k default).plain)] rfl (show act6.eval (.tmp 9) = Eng.elemPtr v (k * 5) from h9_6) Fl_4 (Evt.cells_at l k (by omega)) rfl Tryz.underlying29 rfl (by kernel_rfl)
  intro act7 d7 s7 hv hr
  have h0_7 := (hr 0 rfl).trans h0_6
  have h2_7 := (hr 2 rfl).trans h2_6
  have h5_7 := (hr 5 rfl).trans h5_6
  have h6_7 := (hr 6 rfl).trans h6_6
  have h7_7 := (hr 7 rfl).trans h7_6
  have h10_7 : act7.eval (.tmp 10) = .agg #[.int .i64 ((l.getD k default).kind), .string ((l.getD k default).anchor), .string ((l.getD k default).tag), .string ((l.getD k default).text), .bool ((l.getD k default).plain)] := hv
  have d7 := d7.trans d6
  clear hv hr
  refine Eng.tail_ex rfl rfl rfl (Eng.alloc_ex (cs := #[.int .i64 0, .string ⟨#[]⟩, .string ⟨#[]⟩, .string ⟨#[]⟩, .bool false]) rfl (by kernel_rfl)) s7 rfl fun v_8 w8 act8 R d8 s8 hv hr => ?_
  obtain ⟨g4_8, ev_8, rg_8, lg4_8, kg4_8, b_8⟩ := R
  have h0_8 := (hr 0 rfl).trans h0_7
  have h2_8 := (hr 2 rfl).trans h2_7
  have h5_8 := (hr 5 rfl).trans h5_7
  have h6_8 := (hr 6 rfl).trans h6_7
  have h7_8 := (hr 7 rfl).trans h7_7
  have h10_8 := (hr 10 rfl).trans h10_7
  have h4_8 : act8.eval (.tmp 4) = v_8 := hv
  have d8 := d8.trans d7
  clear hv hr
  have og4_8 : w.heap.size ≤ g4_8 := Nat.le_trans bl4.size rg_8
  have bl8 := bl4.trans (b_8.mono bl4.size)
  rw [ev_8] at h4_8
  refine Eng.tail_put [.int .i64 ((l.getD k default).kind), .string ((l.getD k default).anchor), .string ((l.getD k default).tag), .string ((l.getD k default).text), .bool ((l.getD k default).plain)] (n := 0) (new := #[.int .i64 ((l.getD k default).kind), .string ((l.getD k default).anchor), .string ((l.getD k default).tag), .string ((l.getD k default).text), .bool ((l.getD k default).plain)]) rfl rfl rfl kg4_8 rfl ?_ fun w9 S => ?_
  ·have e0 : act8.eval (.tmp 4) = .pointer (some ⟨g4_8, 0, none⟩) := h4_8
   have e1 : act8.eval (.tmp 10) = .agg #[.int .i64 ((l.getD k default).kind), .string ((l.getD k default).anchor), .string ((l.getD k default).tag), .string ((l.getD k default).text), .bool ((l.getD k default).plain)] := h10_8
   have z0 := (Eng.cells kg4_8 (0)).trans (rfl)
   have f0 := Eng.unfrozen kg4_8 (0)
   have z1 := (Eng.cells kg4_8 (1)).trans (rfl)
   have f1 := Eng.unfrozen kg4_8 (1)
   have z2 := (Eng.cells kg4_8 (2)).trans (rfl)
   have f2 := Eng.unfrozen kg4_8 (2)
   have z3 := (Eng.cells kg4_8 (3)).trans (rfl)
   have f3 := Eng.unfrozen kg4_8 (3)
   have z4 := (Eng.cells kg4_8 (4)).trans (rfl)
   have f4 := Eng.unfrozen kg4_8 (4)
   simp only [execOp]
   rw [e0, e1]
   go_simp
   try rfl
  have kg4_8_9 := S.new
  have lg4_8_9 := Nat.lt_of_lt_of_eq lg4_8 S.size.symm
  have bl9 := S.below bl8 og4_8
  clear S
  refine Eng.tail_nil ?_
  first | show Code.wp Tryz.prog _ _ _ _ | skip
  refine wp_seq ?_
  refine (wpIn_wide (n := 1)).1 ?_
  refine EngI.regionT (n := 7) rfl ?_
  refine EngI.tail_val EngI.free_wide rfl rfl rfl rfl (Eng.run_load_all rfl h4_8 kg4_8_9 Tryz.underlying29 rfl (by kernel_rfl)) s8 rfl fun act10 d10 s10 hv hr => ?_
  have h0_10 := (hr 0 rfl).trans h0_8
  have h2_10 := (hr 2 rfl).trans h2_8
  have h4_10 := (hr 4 rfl).trans h4_8
  have h5_10 := (hr 5 rfl).trans h5_8
  have h6_10 := (hr 6 rfl).trans h6_8
  have h7_10 := (hr 7 rfl).trans h7_8
  have h11_10 : act10.eval (.tmp 11) = .agg #[.int .i64 ((l.getD k default).kind), .string ((l.getD k default).anchor), .string ((l.getD k default).tag), .string ((l.getD k default).text), .bool ((l.getD k default).plain)] := hv
  have d10 := d10.trans d8
  clear hv hr
  obtain ⟨q12, Bq12⟩ : ∃ b : Bool, b = (Evt.isNode (l.getD k default).kind) := ⟨_, rfl⟩
  refine EngI.tail_call EngI.free_wide Tryz.func27 (by kernel_rfl) (by kernel_rfl) rfl rfl rfl rfl #[.agg #[.int .i64 ((l.getD k default).kind), .string ((l.getD k default).anchor), .string ((l.getD k default).tag), .string ((l.getD k default).text), .bool ((l.getD k default).plain)]] (by have e0 : act10.eval (.tmp 11) = .agg #[.int .i64 ((l.getD k default).kind), .string ((l.getD k default).anchor), .string ((l.getD k default).tag), .string ((l.getD k default).text), .bool ((l.getD k default).plain)] := h11_10; simp only [List.map_toArray, List.map_cons, List.map_nil, e0]) s10 rfl (R := fun v w_ => v = .bool (Evt.isNode (l.getD k default).kind) ∧ Below w9.heap.size w9 w_) ((Evt.node_calls (l.getD k default) _).mono ?_) fun v_11 w11 act11 R d11 s11 hv hr => ?_
  ·rintro e w_ ⟨rfl, hb⟩; exact ⟨_, rfl, rfl, hb⟩
  obtain ⟨ev_11, b_11⟩ := R
  have h0_11 := (hr 0 rfl).trans h0_10
  have h2_11 := (hr 2 rfl).trans h2_10
  have h4_11 := (hr 4 rfl).trans h4_10
  have h5_11 := (hr 5 rfl).trans h5_10
  have h6_11 := (hr 6 rfl).trans h6_10
  have h7_11 := (hr 7 rfl).trans h7_10
  have h12_11 : act11.eval (.tmp 12) = .bool q12 := (hv.trans ev_11).trans (congrArg Value.bool Bq12.symm)
  have d11 := d11.trans d10
  clear hv hr
  have kg4_8_11 := (b_11.block _ lg4_8_9).trans kg4_8_9
  have lg4_8_11 := Nat.lt_of_lt_of_le lg4_8_9 b_11.size
  have bl11 := bl9.trans (b_11.mono bl9.size)
  refine EngI.tail_val EngI.free_wide rfl rfl rfl rfl (Eng.run_move rfl h12_11) s11 rfl fun act12 d12 s12 hv hr => ?_
  have h0_12 := (hr 0 rfl).trans h0_11
  have h2_12 := (hr 2 rfl).trans h2_11
  have h4_12 := (hr 4 rfl).trans h4_11
  have h5_12 := (hr 5 rfl).trans h5_11
  have h6_12 := (hr 6 rfl).trans h6_11
  have h7_12 := (hr 7 rfl).trans h7_11
  have h12_12 := (hr 12 rfl).trans h12_11
  have h13_12 : act12.eval (.tmp 13) = .bool q12 := hv
  have d12 := d12.trans d11
  clear hv hr
  rcases Bool.eq_false_or_eq_true q12 with hq | hq
  ·
   have kn13 := hq
   have c13 := Bq12.symm.trans hq
   clear hq
   have h12_kn13 := h12_12.trans (congrArg Value.bool kn13)
   have h13_kn13 := h13_12.trans (congrArg Value.bool kn13)
   have hcn := Evt.cntP_is (p := Evt.isTold) hk0 (by unfold Evt.isTold; rw [c13]; rfl)
   refine EngG.tail_off EngI.free_wide rfl (EngG.wanted_off (want := false) rfl rfl rfl (by rw [s12]; decide) h13_kn13) rfl s12 rfl fun act14 d14 s14 hr => ?_
   have h0_14 := (hr 0 rfl).trans h0_12
   have h2_14 := (hr 2 rfl).trans h2_12
   have h5_14 := (hr 5 rfl).trans h5_12
   have h6_14 := (hr 6 rfl).trans h6_12
   have h7_14 := (hr 7 rfl).trans h7_12
   have h13_14 : act14.eval (.tmp 13) = .bool true := (hr 13 rfl).trans h13_kn13
   have d14 := d14.trans d12
   clear hr
   refine EngG.tail_off EngI.free_wide rfl (EngG.wanted_off (want := false) rfl rfl rfl (by rw [s14]; decide) h13_14) rfl s14 rfl fun act15 d15 s15 hr => ?_
   have h0_15 := (hr 0 rfl).trans h0_14
   have h2_15 := (hr 2 rfl).trans h2_14
   have h5_15 := (hr 5 rfl).trans h5_14
   have h6_15 := (hr 6 rfl).trans h6_14
   have h7_15 := (hr 7 rfl).trans h7_14
   have h13_15 := (hr 13 rfl).trans h13_14
   have d15 := d15.trans d14
   clear hr
   refine EngG.tail_off EngI.free_wide rfl (EngG.wanted_off (want := false) rfl rfl rfl (by rw [s15]; decide) h13_15) rfl s15 rfl fun act16 d16 s16 hr => ?_
   have h0_16 := (hr 0 rfl).trans h0_15
   have h2_16 := (hr 2 rfl).trans h2_15
   have h5_16 := (hr 5 rfl).trans h5_15
   have h6_16 := (hr 6 rfl).trans h6_15
   have h7_16 := (hr 7 rfl).trans h7_15
   have h13_16 := (hr 13 rfl).trans h13_15
   have d16 := d16.trans d15
   clear hr
   refine EngI.tail_val EngI.free_wide rfl rfl rfl rfl (Eng.run_pick rfl h13_16 (v := .bool true) (by exact (rfl : act16.eval (.const (.bool true)) = .bool true))) s16 rfl fun act17 d17 s17 hv hr => ?_
   have h0_17 := (hr 0 rfl).trans h0_16
   have h2_17 := (hr 2 rfl).trans h2_16
   have h5_17 := (hr 5 rfl).trans h5_16
   have h6_17 := (hr 6 rfl).trans h6_16
   have h7_17 := (hr 7 rfl).trans h7_16
   have h17_17 : act17.eval (.tmp 17) = .bool true := hv
   have d17 := d17.trans d16
   clear hv hr
   refine EngI.tail_nil ?_
   first | show Code.wp Tryz.prog _ _ _ _ | skip
   refine wp_cond_true h17_17 ?_
   refine Eng.regionS (Eng.still [fun u_ => u_ = .int .i64 ((Evt.cntP Evt.isTold (List.take k l) : Nat) : Int), fun u_ => u_ = .int .i64 (IntKind.i64.wrap (((Evt.cntP Evt.isTold (List.take k l) : Nat) : Int) + 1)), fun u_ => u_ = .int .i64 (IntKind.i64.wrap (((Evt.cntP Evt.isTold (List.take k l) : Nat) : Int) + 1))]) (fun _ => .plain) 3 0 22 s17 rfl (by kernel_rfl) (Eng.still_stable _) (Or.inr (Eng.still_any _)) ?_ ?_
   ·refine .cons (fun _ => ?_) (.cons (fun _ => ?_) (.cons (fun _ => ?_) (.nil)))
    ·exact Eng.plain rfl rfl fun a w' H => Eng.vr rfl (Eng.run_move rfl ((H.kept 2 (by kernel_rfl)).trans h2_17))
    ·refine Eng.plain rfl rfl fun a w' H => ?_
     refine Eng.vr (v := .int .i64 (IntKind.i64.wrap (((Evt.cntP Evt.isTold (List.take k l) : Nat) : Int) + 1))) rfl ?_
     have e0 : a.eval (.tmp 18) = .int .i64 ((Evt.cntP Evt.isTold (List.take k l) : Nat) : Int) := (H.dep 0 18 (by kernel_rfl) rfl)
     have e1 : a.eval (.const (.int .i64 1)) = .int .i64 1 := (rfl : a.eval (.const (.int .i64 1)) = .int .i64 1)
     simp only [execOp, resolve, List.map_toArray, List.map_cons, List.map_nil, e0, e1]
     go_simp
     all_goals first | rfl | (simp; done) | (rw [Bool.eq_iff_iff]; simp; done) | omega | (split <;> first | (simp_all; done) | (split <;> simp_all; done)) | skip
    ·exact Eng.plain rfl rfl fun a w' H => Eng.vr rfl (Eng.run_assign rfl (H.dep 1 19 (by kernel_rfl) rfl))
   intro act18 w18 T
   have h0_18 := (T.rest 0 (by kernel_rfl)).trans h0_17
   have h5_18 := (T.rest 5 (by kernel_rfl)).trans h5_17
   have h6_18 := (T.rest 6 (by kernel_rfl)).trans h6_17
   have h7_18 := (T.rest 7 (by kernel_rfl)).trans h7_17
   have h2_18 : act18.eval (.tmp 2) = .int .i64 (IntKind.i64.wrap (((Evt.cntP Evt.isTold (List.take k l) : Nat) : Int) + 1)) := T.done 2 2 rfl rfl
   have d18 := T.defers.trans d17
   have s18 := T.size.trans s17
   have bl18 := bl11.trans (T.below.mono bl11.size)
   clear T
   refine Eng.tail_nil ?_
   first | show Code.wp Tryz.prog _ _ _ _ | skip
   refine Eng.regionS (Eng.still [fun u_ => u_ = .int .i64 (IntKind.i64.wrap ((k : Nat) + 1)), fun u_ => u_ = .int .i64 (IntKind.i64.wrap ((k : Nat) + 1))]) (fun _ => .plain) 2 0 22 s18 rfl (by kernel_rfl) (Eng.still_stable _) (Or.inr (Eng.still_any _)) ?_ ?_
   ·refine .cons (fun _ => ?_) (.cons (fun _ => ?_) (.nil))
    ·refine Eng.plain rfl rfl fun a w' H => ?_
     refine Eng.vr (v := .int .i64 (IntKind.i64.wrap ((k : Nat) + 1))) rfl ?_
     have e0 : a.eval (.tmp 7) = .int .i64 (k : Nat) := ((H.kept 7 (by kernel_rfl)).trans h7_18)
     have e1 : a.eval (.const (.int .i64 1)) = .int .i64 1 := (rfl : a.eval (.const (.int .i64 1)) = .int .i64 1)
     simp only [execOp, resolve, List.map_toArray, List.map_cons, List.map_nil, e0, e1]
     go_simp
     all_goals first | rfl | (simp; done) | (rw [Bool.eq_iff_iff]; simp; done) | omega | (split <;> first | (simp_all; done) | (split <;> simp_all; done)) | skip
    ·exact Eng.plain rfl rfl fun a w' H => Eng.vr rfl (Eng.run_move rfl (H.dep 0 20 (by kernel_rfl) rfl))
   intro act19 w19 T
   have h0_19 := (T.rest 0 (by kernel_rfl)).trans h0_18
   have h2_19 := (T.rest 2 (by kernel_rfl)).trans h2_18
   have h5_19 := (T.rest 5 (by kernel_rfl)).trans h5_18
   have h6_19 := (T.rest 6 (by kernel_rfl)).trans h6_18
   have h7_19 : act19.eval (.tmp 7) = .int .i64 (IntKind.i64.wrap ((k : Nat) + 1)) := T.done 1 7 rfl rfl
   have d19 := T.defers.trans d18
   have s19 := T.size.trans s18
   have bl19 := bl18.trans (T.below.mono bl18.size)
   clear T
   refine Eng.tail_nil ?_
   exact ⟨_, by omega, k + 1, rfl, by omega, d19, s19, bl19, h0_19, (h2_19.trans (by first | rfl | (congr 1; rw [Eng.i64_id (by omega) (by omega)]; omega) | (congr 1; omega) | (simp; done))), h5_19, h6_19, (h7_19.trans (by first | rfl | (congr 1; rw [Eng.i64_id (by omega) (by omega)]; omega) | (congr 1; omega) | (simp; done)))⟩
  ·
   have kn20 := hq
   have c13 := Bq12.symm.trans hq
   clear hq
   have h12_kn20 := h12_12.trans (congrArg Value.bool kn20)
   have h13_kn20 := h13_12.trans (congrArg Value.bool kn20)
   have hn13 := c13
   refine EngG.tail_val (w1 := w11) (v := .pointer (some ⟨g4_8, 0, none⟩)) EngI.free_wide rfl (EngG.wanted_on (want := false) rfl rfl rfl (by rw [s12]; decide) h13_kn20) rfl rfl ?_ s12 rfl ?_
   ·exact Eng.run_fieldb rfl Tryz.underlying29 0 (by kernel_rfl) h4_12
   intro act21 d21 s21 hv hr
   have h0_21 := (hr 0 rfl).trans h0_12
   have h2_21 := (hr 2 rfl).trans h2_12
   have h5_21 := (hr 5 rfl).trans h5_12
   have h6_21 := (hr 6 rfl).trans h6_12
   have h7_21 := (hr 7 rfl).trans h7_12
   have h13_21 : act21.eval (.tmp 13) = .bool false := (hr 13 rfl).trans h13_kn20
   have h14_21 : act21.eval (.tmp 14) = .pointer (some ⟨g4_8, 0, none⟩) := hv
   have d21 := d21.trans d12
   clear hv hr
   refine EngG.tail_val (w1 := w11) (v := .int .i64 ((l.getD k default).kind)) EngI.free_wide rfl (EngG.wanted_on (want := false) rfl rfl rfl (by rw [s21]; decide) h13_21) rfl rfl ?_ s21 rfl ?_
   ·exact Eng.run_loadb rfl h14_21 (((Below.refl _ _).block _ lg4_8_11).trans kg4_8_11) rfl (by kernel_rfl)
   intro act22 d22 s22 hv hr
   have h0_22 := (hr 0 rfl).trans h0_21
   have h2_22 := (hr 2 rfl).trans h2_21
   have h5_22 := (hr 5 rfl).trans h5_21
   have h6_22 := (hr 6 rfl).trans h6_21
   have h7_22 := (hr 7 rfl).trans h7_21
   have h13_22 := (hr 13 rfl).trans h13_21
   have h15_22 : act22.eval (.tmp 15) = .int .i64 ((l.getD k default).kind) := hv
   have d22 := d22.trans d21
   clear hv hr
   obtain ⟨q16, Bq16⟩ : ∃ b : Bool, b = (((l.getD k default).kind) == 7) := ⟨_, rfl⟩
   refine EngG.tail_val (w1 := w11) (v := .bool (((l.getD k default).kind) == 7)) EngI.free_wide rfl (EngG.wanted_on (want := false) rfl rfl rfl (by rw [s22]; decide) h13_22) rfl rfl ?_ s22 rfl ?_
   ·have e0 : act22.eval (.tmp 15) = .int .i64 ((l.getD k default).kind) := h15_22
    have e1 : act22.eval (.const (.int .i64 7)) = .int .i64 7 := (rfl : act22.eval (.const (.int .i64 7)) = .int .i64 7)
    simp only [execOp, resolve, List.map_toArray, List.map_cons, List.map_nil, e0, e1]
    go_simp
    all_goals first | rfl | (simp; done) | (rw [Bool.eq_iff_iff]; simp; done) | omega | (split <;> first | (simp_all; done) | (split <;> simp_all; done)) | skip
   intro act23 d23 s23 hv hr
   have h0_23 := (hr 0 rfl).trans h0_22
   have h2_23 := (hr 2 rfl).trans h2_22
   have h5_23 := (hr 5 rfl).trans h5_22
   have h6_23 := (hr 6 rfl).trans h6_22
   have h7_23 := (hr 7 rfl).trans h7_22
   have h13_23 := (hr 13 rfl).trans h13_22
   have h16_23 : act23.eval (.tmp 16) = .bool q16 := hv.trans (congrArg Value.bool Bq16.symm)
   have d23 := d23.trans d22
   clear hv hr
   refine EngI.tail_val EngI.free_wide rfl rfl rfl rfl (Eng.run_pick rfl h13_23 (v := .bool q16) (by exact h16_23)) s23 rfl fun act24 d24 s24 hv hr => ?_
   have h0_24 := (hr 0 rfl).trans h0_23
   have h2_24 := (hr 2 rfl).trans h2_23
   have h5_24 := (hr 5 rfl).trans h5_23
   have h6_24 := (hr 6 rfl).trans h6_23
   have h7_24 := (hr 7 rfl).trans h7_23
   have h17_24 : act24.eval (.tmp 17) = .bool q16 := hv
   have d24 := d24.trans d23
   clear hv hr
   refine EngI.tail_nil ?_
   first | show Code.wp Tryz.prog _ _ _ _ | skip
   refine wp_cond_split h17_24 (fun hq => ?_) (fun hq => ?_)
   ·
    have c17 := Bq16.symm.trans hq
    clear hq
    have hcn := Evt.cntP_is (p := Evt.isTold) hk0 (by unfold Evt.isTold; rw [hn13]; simpa using c17)
    refine Eng.regionS (Eng.still [fun u_ => u_ = .int .i64 ((Evt.cntP Evt.isTold (List.take k l) : Nat) : Int), fun u_ => u_ = .int .i64 (IntKind.i64.wrap (((Evt.cntP Evt.isTold (List.take k l) : Nat) : Int) + 1)), fun u_ => u_ = .int .i64 (IntKind.i64.wrap (((Evt.cntP Evt.isTold (List.take k l) : Nat) : Int) + 1))]) (fun _ => .plain) 3 0 22 s24 rfl (by kernel_rfl) (Eng.still_stable _) (Or.inr (Eng.still_any _)) ?_ ?_
    ·refine .cons (fun _ => ?_) (.cons (fun _ => ?_) (.cons (fun _ => ?_) (.nil)))
     ·exact Eng.plain rfl rfl fun a w' H => Eng.vr rfl (Eng.run_move rfl ((H.kept 2 (by kernel_rfl)).trans h2_24))
     ·refine Eng.plain rfl rfl fun a w' H => ?_
      refine Eng.vr (v := .int .i64 (IntKind.i64.wrap (((Evt.cntP Evt.isTold (List.take k l) : Nat) : Int) + 1))) rfl ?_
      have e0 : a.eval (.tmp 18) = .int .i64 ((Evt.cntP Evt.isTold (List.take k l) : Nat) : Int) := (H.dep 0 18 (by kernel_rfl) rfl)
      have e1 : a.eval (.const (.int .i64 1)) = .int .i64 1 := (rfl : a.eval (.const (.int .i64 1)) = .int .i64 1)
      simp only [execOp, resolve, List.map_toArray, List.map_cons, List.map_nil, e0, e1]
      go_simp
      all_goals first | rfl | (simp; done) | (rw [Bool.eq_iff_iff]; simp; done) | omega | (split <;> first | (simp_all; done) | (split <;> simp_all; done)) | skip
     ·exact Eng.plain rfl rfl fun a w' H => Eng.vr rfl (Eng.run_assign rfl (H.dep 1 19 (by kernel_rfl) rfl))
    intro act26 w26 T
    have h0_26 := (T.rest 0 (by kernel_rfl)).trans h0_24
    have h5_26 := (T.rest 5 (by kernel_rfl)).trans h5_24
    have h6_26 := (T.rest 6 (by kernel_rfl)).trans h6_24
    have h7_26 := (T.rest 7 (by kernel_rfl)).trans h7_24
    have h2_26 : act26.eval (.tmp 2) = .int .i64 (IntKind.i64.wrap (((Evt.cntP Evt.isTold (List.take k l) : Nat) : Int) + 1)) := T.done 2 2 rfl rfl
    have d26 := T.defers.trans d24
    have s26 := T.size.trans s24
    have bl26 := bl11.trans (T.below.mono bl11.size)
    clear T
    refine Eng.tail_nil ?_
    first | show Code.wp Tryz.prog _ _ _ _ | skip
    refine Eng.regionS (Eng.still [fun u_ => u_ = .int .i64 (IntKind.i64.wrap ((k : Nat) + 1)), fun u_ => u_ = .int .i64 (IntKind.i64.wrap ((k : Nat) + 1))]) (fun _ => .plain) 2 0 22 s26 rfl (by kernel_rfl) (Eng.still_stable _) (Or.inr (Eng.still_any _)) ?_ ?_
    ·refine .cons (fun _ => ?_) (.cons (fun _ => ?_) (.nil))
     ·refine Eng.plain rfl rfl fun a w' H => ?_
      refine Eng.vr (v := .int .i64 (IntKind.i64.wrap ((k : Nat) + 1))) rfl ?_
      have e0 : a.eval (.tmp 7) = .int .i64 (k : Nat) := ((H.kept 7 (by kernel_rfl)).trans h7_26)
      have e1 : a.eval (.const (.int .i64 1)) = .int .i64 1 := (rfl : a.eval (.const (.int .i64 1)) = .int .i64 1)
      simp only [execOp, resolve, List.map_toArray, List.map_cons, List.map_nil, e0, e1]
      go_simp
      all_goals first | rfl | (simp; done) | (rw [Bool.eq_iff_iff]; simp; done) | omega | (split <;> first | (simp_all; done) | (split <;> simp_all; done)) | skip
     ·exact Eng.plain rfl rfl fun a w' H => Eng.vr rfl (Eng.run_move rfl (H.dep 0 20 (by kernel_rfl) rfl))
    intro act27 w27 T
    have h0_27 := (T.rest 0 (by kernel_rfl)).trans h0_26
    have h2_27 := (T.rest 2 (by kernel_rfl)).trans h2_26
    have h5_27 := (T.rest 5 (by kernel_rfl)).trans h5_26
    have h6_27 := (T.rest 6 (by kernel_rfl)).trans h6_26
    have h7_27 : act27.eval (.tmp 7) = .int .i64 (IntKind.i64.wrap ((k : Nat) + 1)) := T.done 1 7 rfl rfl
    have d27 := T.defers.trans d26
    have s27 := T.size.trans s26
    have bl27 := bl26.trans (T.below.mono bl26.size)
    clear T
    refine Eng.tail_nil ?_
    exact ⟨_, by omega, k + 1, rfl, by omega, d27, s27, bl27, h0_27, (h2_27.trans (by first | rfl | (congr 1; rw [Eng.i64_id (by omega) (by omega)]; omega) | (congr 1; omega) | (simp; done))), h5_27, h6_27, (h7_27.trans (by first | rfl | (congr 1; rw [Eng.i64_id (by omega) (by omega)]; omega) | (congr 1; omega) | (simp; done)))⟩
   ·
    have c17 := Bq16.symm.trans hq
    clear hq
    have hcn := Evt.cntP_not (p := Evt.isTold) hk0 (by unfold Evt.isTold; rw [hn13]; simpa using c17)
    refine wp_skip ?_
    first | show Code.wp Tryz.prog _ _ _ _ | skip
    refine Eng.regionS (Eng.still [fun u_ => u_ = .int .i64 (IntKind.i64.wrap ((k : Nat) + 1)), fun u_ => u_ = .int .i64 (IntKind.i64.wrap ((k : Nat) + 1))]) (fun _ => .plain) 2 0 22 s24 rfl (by kernel_rfl) (Eng.still_stable _) (Or.inr (Eng.still_any _)) ?_ ?_
    ·refine .cons (fun _ => ?_) (.cons (fun _ => ?_) (.nil))
     ·refine Eng.plain rfl rfl fun a w' H => ?_
      refine Eng.vr (v := .int .i64 (IntKind.i64.wrap ((k : Nat) + 1))) rfl ?_
      have e0 : a.eval (.tmp 7) = .int .i64 (k : Nat) := ((H.kept 7 (by kernel_rfl)).trans h7_24)
      have e1 : a.eval (.const (.int .i64 1)) = .int .i64 1 := (rfl : a.eval (.const (.int .i64 1)) = .int .i64 1)
      simp only [execOp, resolve, List.map_toArray, List.map_cons, List.map_nil, e0, e1]
      go_simp
      all_goals first | rfl | (simp; done) | (rw [Bool.eq_iff_iff]; simp; done) | omega | (split <;> first | (simp_all; done) | (split <;> simp_all; done)) | skip
     ·exact Eng.plain rfl rfl fun a w' H => Eng.vr rfl (Eng.run_move rfl (H.dep 0 20 (by kernel_rfl) rfl))
    intro act29 w29 T
    have h0_29 := (T.rest 0 (by kernel_rfl)).trans h0_24
    have h2_29 := (T.rest 2 (by kernel_rfl)).trans h2_24
    have h5_29 := (T.rest 5 (by kernel_rfl)).trans h5_24
    have h6_29 := (T.rest 6 (by kernel_rfl)).trans h6_24
    have h7_29 : act29.eval (.tmp 7) = .int .i64 (IntKind.i64.wrap ((k : Nat) + 1)) := T.done 1 7 rfl rfl
    have d29 := T.defers.trans d24
    have s29 := T.size.trans s24
    have bl29 := bl11.trans (T.below.mono bl11.size)
    clear T
    refine Eng.tail_nil ?_
    exact ⟨_, by omega, k + 1, rfl, by omega, d29, s29, bl29, h0_29, (h2_29.trans (by first | rfl | (congr 1; rw [Eng.i64_id (by omega) (by omega)]; omega) | (congr 1; omega) | (simp; done))), h5_29, h6_29, (h7_29.trans (by first | rfl | (congr 1; rw [Eng.i64_id (by omega) (by omega)]; omega) | (congr 1; omega) | (simp; done)))⟩
 ·
  have c8 := Bq8.symm.trans hq
  clear hq
  have c8 := of_decide_eq_false c8
  have hke : k = l.length := by omega
  refine wp_exit ?_
  first | show Code.wp Tryz.prog _ _ _ _ | skip
  first | show Code.wp Tryz.prog _ _ _ _ | skip
  refine wp_seq ?_
  refine Eng.regionS (Eng.still [fun u_ => u_ = .int .i64 ((Evt.cntP Evt.isTold (List.take k l) : Nat) : Int), fun u_ => u_ = .int .i64 ((Evt.cntP Evt.isTold (List.take k l) : Nat) : Int)]) (fun _ => .plain) 2 0 22 s4 rfl (by kernel_rfl) (Eng.still_stable _) (Or.inr (Eng.still_any _)) ?_ ?_
  ·refine .cons (fun _ => ?_) (.cons (fun _ => ?_) (.nil))
   ·exact Eng.plain rfl rfl fun a w' H => Eng.vr rfl (Eng.run_move rfl ((H.kept 2 (by kernel_rfl)).trans h2_4))
   ·exact Eng.plain rfl rfl fun a w' H => Eng.vr rfl (Eng.run_assign rfl (H.dep 0 21 (by kernel_rfl) rfl))
  intro act31 w31 T
  have h2_31 : act31.eval (.tmp 2) = .int .i64 ((Evt.cntP Evt.isTold (List.take k l) : Nat) : Int) := T.done 1 2 rfl rfl
  have d31 := T.defers.trans d4
  have bl31 := bl4.trans (T.below.mono bl4.size)
  clear T
  refine Eng.tail_nil ?_
  first | show Code.wp Tryz.prog _ _ _ _ | skip
  refine wp_ret ?_
  repeat (first | with_reducible refine Eng.in_ret ?_ | with_reducible refine Eng.then_ret ?_)
  exact Eng.ret1 rfl d31 (h2_31.trans (by rw [Evt.cntP_end hke])) ⟨rfl, bl31⟩
end Go.Proofs.YtgnmjaacnmkgnaaGreatDoor.X
end
section
namespace Go.Proofs.YtgnmjaacnmkgnaaGreatDoor.X
open Go.RowKit Go.Shelf Go.Proofs
set_option linter.unusedVariables false
set_option linter.unusedSimpArgs false
namespace Zal
theorem cut_reads {w : World} {v : Value} (h : Eng.Reads w v 3 5 (Evt.cells l1)) : Eng.Reads w (Eng.cutVal v 1 3 5) 2 5 (Evt.cells [evA, evE]) := h.cutv (l := 1) (h := 3) (by decide) (by decide)
theorem small (l : List Evt.Ev) (h : l.all (fun x => decide (x.text.size ≤ 10)) = true) : ∀ k, k < l.length → (l.getD k default).text.size ≤ 9223372036854775807 := fun k hk => by
  have := List.all_eq_true.1 h (l.getD k default) (by rw [List.getD_eq_getElem?_getD, List.getElem?_eq_getElem hk]; exact List.getElem_mem hk)
  have := of_decide_eq_true this
  omega
theorem right_l1 (v : Value) (w : World) (hT : Tabs.Holds w) (hl : Eng.Reads w v 3 5 (Evt.cells l1)) : Calls Tryz.prog 12 #[v] w fun e w' => e = .returned (.bool true) ∧ Below w.heap.size w w' := by
  have h := Evt.Right_calls v l1 w hT hl (small _ (by decide)) (by decide)
  rw [right1] at h; exact h
theorem right_cut (v : Value) (w : World) (hT : Tabs.Holds w) (hl : Eng.Reads w v 3 5 (Evt.cells l1)) : Calls Tryz.prog 12 #[Eng.cutVal v 1 3 5] w fun e w' => e = .returned (.bool false) ∧ Below w.heap.size w w' := by
  have h := Evt.Right_calls (Eng.cutVal v 1 3 5) [evA, evE] w hT (cut_reads hl) (small _ (by decide)) (by decide)
  rw [right3] at h; exact h
theorem print_l1 (v : Value) (w : World) (hT : Tabs.Holds w) (hl : Eng.Reads w v 3 5 (Evt.cells l1)) : Calls Tryz.prog 16 #[v] w fun e w' => e = .returned (.string ⟨#[43, 100, 111, 99, 10, 61, 118, 97, 108, 32, 58, 34, 97, 34, 10, 45, 100, 111, 99, 10]⟩) ∧ Below w.heap.size w w' := print_ok v w hT hl
theorem nodes_l1 (v : Value) (w : World) (hl : Eng.Reads w v 3 5 (Evt.cells l1)) : Calls Tryz.prog 15 #[v] w fun e w' => e = .returned (.int .i64 1) ∧ Below w.heap.size w w' := Evt.nodes_calls v l1 w hl
theorem depth_s (v : Value) (w : World) (hl : Eng.Reads w v 1 5 [.int .i64 2, .string ⟨#[]⟩, .string ⟨#[]⟩, .string ⟨#[]⟩, .bool false]) : Calls Tryz.prog 14 #[v] w fun e w' => e = .returned (.int .i64 1) ∧ Below w.heap.size w w' := by
  have h := Evt.depth_calls v [⟨2, ⟨#[]⟩, ⟨#[]⟩, ⟨#[]⟩, false⟩] w hl
  rw [show (Evt.depths [⟨2, ⟨#[]⟩, ⟨#[]⟩, ⟨#[]⟩, false⟩]).2 = 1 by decide] at h; exact h
end Zal
end Go.Proofs.YtgnmjaacnmkgnaaGreatDoor.X
end
section
namespace Go.Proofs.YtgnmjaacnmkgnaaGreatDoor.X
open Go.RowKit Go.Shelf Go.Proofs Go.Proofs.YtgnmjaacnmkgnaaGreatDoorW.PrintWords Go.Proofs.YtgnmjaacnmkgnaaGreatDoorW.PrintLast Go.Proofs.YtgnmjaacnmkgnaaGreatDoorW.PrintMore
set_option linter.unusedVariables false
set_option linter.unusedSimpArgs false
attribute [local go_sem] max2_int min2_int max_two min_two
set_option maxHeartbeats 4000000 in
set_option maxRecDepth 100000 in
theorem Zal.alive_calls  (w : World) (hT : Tabs.Holds w) : Calls Tryz.prog 9 #[] w fun e w' => e = .returned (.bool true) ∧ Below w.heap.size w w' := by
 refine Eng.enter Tryz.func9 rfl fun act0 d0 s0 v0 => ?_
 have s0 : act0.tmps.size = 64 := s0
 clear v0
 have bl0 : Below w.heap.size w w := Below.refl _ _
 refine wp_seq ?_
 refine Eng.regionS (Eng.still [fun u_ => u_ = .bool false]) (fun _ => .plain) 1 0 64 s0 rfl (by kernel_rfl) (Eng.still_stable _) (Or.inr (Eng.still_any _)) ?_ ?_
 ·refine .cons (fun _ => ?_) (.nil)
  ·exact Eng.plain rfl rfl fun a w' H => Eng.vr rfl (Eng.run_assign rfl (rfl : a.eval (.const (.bool false)) = .bool false))
 intro act1 w1 T
 have d1 := T.defers.trans d0
 have s1 := T.size.trans s0
 have bl1 := bl0.trans (T.below.mono bl0.size)
 clear T
 refine Eng.tail_nil ?_
 first | show Code.wp Tryz.prog _ _ _ _ | skip
 refine wp_seq ?_
 refine Eng.regionT (n := 5) rfl ?_
 refine Eng.tail_val (w1 := w1) (v := .agg #[.int .i64 0, .string ⟨#[]⟩, .string ⟨#[]⟩, .string ⟨#[]⟩, .bool false]) rfl rfl rfl ?_ s1 rfl ?_
 ·have e0 : act1.eval (.const (.int .i64 0)) = .int .i64 0 := (rfl : act1.eval (.const (.int .i64 0)) = .int .i64 0)
  simp only [execOp, resolve, List.map_toArray, List.map_cons, List.map_nil, e0]
  go_simp
  all_goals first | rfl | (simp; done) | (rw [Bool.eq_iff_iff]; simp; done) | omega | skip
 intro act2 d2 s2 hv hr
 have h6_2 : act2.eval (.tmp 6) = .agg #[.int .i64 0, .string ⟨#[]⟩, .string ⟨#[]⟩, .string ⟨#[]⟩, .bool false] := hv
 have d2 := d2.trans d1
 clear hv hr
 refine Eng.tail_val (w1 := w1) (v := .agg #[.int .i64 6, .string ⟨#[]⟩, .string ⟨#[]⟩, .string ⟨#[97]⟩, .bool true]) rfl rfl rfl ?_ s2 rfl ?_
 ·have e0 : act2.eval (.const (.int .i64 6)) = .int .i64 6 := (rfl : act2.eval (.const (.int .i64 6)) = .int .i64 6)
  have e1 : act2.eval (.const (.string ⟨#[97]⟩)) = .string ⟨#[97]⟩ := (rfl : act2.eval (.const (.string ⟨#[97]⟩)) = .string ⟨#[97]⟩)
  have e2 : act2.eval (.const (.bool true)) = .bool true := (rfl : act2.eval (.const (.bool true)) = .bool true)
  simp only [execOp, resolve, List.map_toArray, List.map_cons, List.map_nil, e0, e1, e2]
  go_simp
  all_goals first | rfl | (simp; done) | (rw [Bool.eq_iff_iff]; simp; done) | omega | skip
 intro act3 d3 s3 hv hr
 have h6_3 := (hr 6 rfl).trans h6_2
 have h7_3 : act3.eval (.tmp 7) = .agg #[.int .i64 6, .string ⟨#[]⟩, .string ⟨#[]⟩, .string ⟨#[97]⟩, .bool true] := hv
 have d3 := d3.trans d2
 clear hv hr
 refine Eng.tail_val (w1 := w1) (v := .agg #[.int .i64 1, .string ⟨#[]⟩, .string ⟨#[]⟩, .string ⟨#[]⟩, .bool false]) rfl rfl rfl ?_ s3 rfl ?_
 ·have e0 : act3.eval (.const (.int .i64 1)) = .int .i64 1 := (rfl : act3.eval (.const (.int .i64 1)) = .int .i64 1)
  simp only [execOp, resolve, List.map_toArray, List.map_cons, List.map_nil, e0]
  go_simp
  all_goals first | rfl | (simp; done) | (rw [Bool.eq_iff_iff]; simp; done) | omega | skip
 intro act4 d4 s4 hv hr
 have h6_4 := (hr 6 rfl).trans h6_3
 have h7_4 := (hr 7 rfl).trans h7_3
 have h8_4 : act4.eval (.tmp 8) = .agg #[.int .i64 1, .string ⟨#[]⟩, .string ⟨#[]⟩, .string ⟨#[]⟩, .bool false] := hv
 have d4 := d4.trans d3
 clear hv hr
 refine Eng.tail_ex rfl rfl rfl (Eng.build_own (B := w.heap.size) (size := 5) (z := .agg #[.int .i64 0, .string ⟨#[]⟩, .string ⟨#[]⟩, .string ⟨#[]⟩, .bool false]) (us := Evt.cells Zal.l1) [(0, .agg #[.int .i64 0, .string ⟨#[]⟩, .string ⟨#[]⟩, .string ⟨#[]⟩, .bool false]), (1, .agg #[.int .i64 6, .string ⟨#[]⟩, .string ⟨#[]⟩, .string ⟨#[97]⟩, .bool true]), (2, .agg #[.int .i64 1, .string ⟨#[]⟩, .string ⟨#[]⟩, .string ⟨#[]⟩, .bool false])] rfl Tryz.underlying24 (by kernel_rfl) (by have e0 : act4.eval (.tmp 6) = .agg #[.int .i64 0, .string ⟨#[]⟩, .string ⟨#[]⟩, .string ⟨#[]⟩, .bool false] := h6_4; have e1 : act4.eval (.tmp 7) = .agg #[.int .i64 6, .string ⟨#[]⟩, .string ⟨#[]⟩, .string ⟨#[97]⟩, .bool true] := h7_4; have e2 : act4.eval (.tmp 8) = .agg #[.int .i64 1, .string ⟨#[]⟩, .string ⟨#[]⟩, .string ⟨#[]⟩, .bool false] := h8_4; simp only [List.map_toArray, List.map_cons, List.map_nil, e0, e1, e2]) rfl (by kernel_rfl) rfl rfl rfl bl1.size) s4 rfl fun v_5 w5 act5 R d5 s5 hv hr => ?_
 obtain ⟨O_5, b_5⟩ := R
 have h9_5 : act5.eval (.tmp 9) = v_5 := hv
 have d5 := d5.trans d4
 clear hv hr
 have bl5 := bl1.trans (b_5.mono bl1.size)
 have F_5 := Eng.Reads.of_own O_5
 refine Eng.tail_val rfl rfl rfl (Eng.run_assign rfl h9_5) s5 rfl fun act6 d6 s6 hv hr => ?_
 have h1_6 : act6.eval (.tmp 1) = v_5 := hv
 have d6 := d6.trans d5
 clear hv hr
 refine Eng.tail_nil ?_
 first | show Code.wp Tryz.prog _ _ _ _ | skip
 refine wp_seq ?_
 refine (wpIn_wide (n := 1)).1 ?_
 refine EngI.regionT (n := 6) rfl ?_
 refine EngI.tail_call EngI.free_wide Tryz.func21 (by kernel_rfl) (by kernel_rfl) rfl rfl rfl rfl #[.string ⟨#[43, 100, 111, 99, 10, 61, 118, 97, 108, 32, 58, 34, 97, 34, 10, 45, 100, 111, 99, 10]⟩] (by have e0 : act6.eval (.const (.string ⟨#[43, 100, 111, 99, 10, 61, 118, 97, 108, 32, 58, 34, 97, 34, 10, 45, 100, 111, 99, 10]⟩)) = .string ⟨#[43, 100, 111, 99, 10, 61, 118, 97, 108, 32, 58, 34, 97, 34, 10, 45, 100, 111, 99, 10]⟩ := (rfl : act6.eval (.const (.string ⟨#[43, 100, 111, 99, 10, 61, 118, 97, 108, 32, 58, 34, 97, 34, 10, 45, 100, 111, 99, 10]⟩)) = .string ⟨#[43, 100, 111, 99, 10, 61, 118, 97, 108, 32, 58, 34, 97, 34, 10, 45, 100, 111, 99, 10]⟩); simp only [List.map_toArray, List.map_cons, List.map_nil, e0]) s6 rfl (R := fun v w' => ∃ mv, v = .tuple #[mv, .int .i64 0] ∧ w'.ownsRow w5.heap.size 29 5 mv 3 (Evt.cells Zal.l1) ∧ Below w5.heap.size w5 w') ((Zal.parse1 _ (Tabs.below hT bl5)).mono ?_) fun v_7 w7 act7 R d7 s7 hv hr => ?_
 ·rintro e w1 ⟨v, rfl, h1, h2⟩; exact ⟨_, rfl, v, rfl, h1, h2⟩
 have h1_7 := (hr 1 rfl).trans h1_6
 have h11_7 : act7.eval (.tmp 11) = v_7 := hv
 have d7 := d7.trans d6
 clear hv hr
 obtain ⟨mv, ev_7, Om_7, b_7⟩ := R
 rw [ev_7] at h11_7
 have Fl_7 := Eng.Reads.below F_5 b_7
 have bl7 := bl5.trans (b_7.mono bl5.size)
 have Fm_7 := Eng.Reads.of_own Om_7
 refine EngI.tail_val EngI.free_wide rfl rfl rfl rfl (Eng.run_move rfl h11_7) s7 rfl fun act8 d8 s8 hv hr => ?_
 have h1_8 := (hr 1 rfl).trans h1_7
 have h10_8 : act8.eval (.tmp 10) = .tuple #[mv, .int .i64 0] := hv
 have d8 := d8.trans d7
 clear hv hr
 refine EngI.tail_val (w1 := w7) (v := mv) EngI.free_wide rfl rfl rfl rfl ?_ s8 rfl ?_
 ·have e0 : act8.eval (.tmp 10) = .tuple #[mv, .int .i64 0] := h10_8
  simp only [execOp, resolve, List.map_toArray, List.map_cons, List.map_nil, e0]
  go_simp
  all_goals first | rfl | (simp; done) | (rw [Bool.eq_iff_iff]; simp; done) | omega | (split <;> first | (simp_all; done) | (split <;> simp_all; done)) | skip
 intro act9 d9 s9 hv hr
 have h1_9 := (hr 1 rfl).trans h1_8
 have h10_9 := (hr 10 rfl).trans h10_8
 have h12_9 : act9.eval (.tmp 12) = mv := hv
 have d9 := d9.trans d8
 clear hv hr
 refine EngI.tail_val (w1 := w7) (v := .int .i64 0) EngI.free_wide rfl rfl rfl rfl ?_ s9 rfl ?_
 ·have e0 : act9.eval (.tmp 10) = .tuple #[mv, .int .i64 0] := h10_9
  simp only [execOp, resolve, List.map_toArray, List.map_cons, List.map_nil, e0]
  go_simp
  all_goals first | rfl | (simp; done) | (rw [Bool.eq_iff_iff]; simp; done) | omega | (split <;> first | (simp_all; done) | (split <;> simp_all; done)) | skip
 intro act10 d10 s10 hv hr
 have h1_10 := (hr 1 rfl).trans h1_9
 have h12_10 := (hr 12 rfl).trans h12_9
 have h13_10 : act10.eval (.tmp 13) = .int .i64 0 := hv
 have d10 := d10.trans d9
 clear hv hr
 refine EngI.tail_val EngI.free_wide rfl rfl rfl rfl (Eng.run_assign rfl h12_10) s10 rfl fun act11 d11 s11 hv hr => ?_
 have h1_11 := (hr 1 rfl).trans h1_10
 have h13_11 := (hr 13 rfl).trans h13_10
 have h2_11 : act11.eval (.tmp 2) = mv := hv
 have d11 := d11.trans d10
 clear hv hr
 refine EngI.tail_val EngI.free_wide rfl rfl rfl rfl (Eng.run_assign rfl h13_11) s11 rfl fun act12 d12 s12 hv hr => ?_
 have h1_12 := (hr 1 rfl).trans h1_11
 have h2_12 := (hr 2 rfl).trans h2_11
 have h3_12 : act12.eval (.tmp 3) = .int .i64 0 := hv
 have d12 := d12.trans d11
 clear hv hr
 refine EngI.tail_nil ?_
 first | show Code.wp Tryz.prog _ _ _ _ | skip
 refine wp_seq ?_
 refine (wpIn_wide (n := 1)).1 ?_
 refine EngI.regionT (n := 6) rfl ?_
 refine EngI.tail_call EngI.free_wide Tryz.func21 (by kernel_rfl) (by kernel_rfl) rfl rfl rfl rfl #[.string ⟨#[43, 100, 111, 99, 10, 45, 100, 111, 99, 10]⟩] (by have e0 : act12.eval (.const (.string ⟨#[43, 100, 111, 99, 10, 45, 100, 111, 99, 10]⟩)) = .string ⟨#[43, 100, 111, 99, 10, 45, 100, 111, 99, 10]⟩ := (rfl : act12.eval (.const (.string ⟨#[43, 100, 111, 99, 10, 45, 100, 111, 99, 10]⟩)) = .string ⟨#[43, 100, 111, 99, 10, 45, 100, 111, 99, 10]⟩); simp only [List.map_toArray, List.map_cons, List.map_nil, e0]) s12 rfl (R := fun v w' => v = .tuple #[.slice none 0 0, .int .i64 5] ∧ Below w7.heap.size w7 w') ((Zal.parse2 _ (Tabs.below hT bl7)).mono ?_) fun v_13 w13 act13 R d13 s13 hv hr => ?_
 ·rintro e w1 ⟨rfl, h2⟩; exact ⟨_, rfl, rfl, h2⟩
 have h1_13 := (hr 1 rfl).trans h1_12
 have h2_13 := (hr 2 rfl).trans h2_12
 have h3_13 := (hr 3 rfl).trans h3_12
 have h15_13 : act13.eval (.tmp 15) = v_13 := hv
 have d13 := d13.trans d12
 clear hv hr
 obtain ⟨ev_13, b_13⟩ := R
 rw [ev_13] at h15_13
 have Fl_13 := Eng.Reads.below Fl_7 b_13
 have Fm_13 := Eng.Reads.below Fm_7 b_13
 have bl13 := bl7.trans (b_13.mono bl7.size)
 refine EngI.tail_val EngI.free_wide rfl rfl rfl rfl (Eng.run_move rfl h15_13) s13 rfl fun act14 d14 s14 hv hr => ?_
 have h1_14 := (hr 1 rfl).trans h1_13
 have h2_14 := (hr 2 rfl).trans h2_13
 have h3_14 := (hr 3 rfl).trans h3_13
 have h14_14 : act14.eval (.tmp 14) = .tuple #[.slice none 0 0, .int .i64 5] := hv
 have d14 := d14.trans d13
 clear hv hr
 refine EngI.tail_val (w1 := w13) (v := .slice none 0 0) EngI.free_wide rfl rfl rfl rfl ?_ s14 rfl ?_
 ·have e0 : act14.eval (.tmp 14) = .tuple #[.slice none 0 0, .int .i64 5] := h14_14
  simp only [execOp, resolve, List.map_toArray, List.map_cons, List.map_nil, e0]
  go_simp
  all_goals first | rfl | (simp; done) | (rw [Bool.eq_iff_iff]; simp; done) | omega | (split <;> first | (simp_all; done) | (split <;> simp_all; done)) | skip
 intro act15 d15 s15 hv hr
 have h1_15 := (hr 1 rfl).trans h1_14
 have h2_15 := (hr 2 rfl).trans h2_14
 have h3_15 := (hr 3 rfl).trans h3_14
 have h14_15 := (hr 14 rfl).trans h14_14
 have h16_15 : act15.eval (.tmp 16) = .slice none 0 0 := hv
 have d15 := d15.trans d14
 clear hv hr
 refine EngI.tail_val (w1 := w13) (v := .int .i64 5) EngI.free_wide rfl rfl rfl rfl ?_ s15 rfl ?_
 ·have e0 : act15.eval (.tmp 14) = .tuple #[.slice none 0 0, .int .i64 5] := h14_15
  simp only [execOp, resolve, List.map_toArray, List.map_cons, List.map_nil, e0]
  go_simp
  all_goals first | rfl | (simp; done) | (rw [Bool.eq_iff_iff]; simp; done) | omega | (split <;> first | (simp_all; done) | (split <;> simp_all; done)) | skip
 intro act16 d16 s16 hv hr
 have h1_16 := (hr 1 rfl).trans h1_15
 have h2_16 := (hr 2 rfl).trans h2_15
 have h3_16 := (hr 3 rfl).trans h3_15
 have h16_16 := (hr 16 rfl).trans h16_15
 have h17_16 : act16.eval (.tmp 17) = .int .i64 5 := hv
 have d16 := d16.trans d15
 clear hv hr
 refine EngI.tail_val EngI.free_wide rfl rfl rfl rfl (Eng.run_assign rfl h16_16) s16 rfl fun act17 d17 s17 hv hr => ?_
 have h1_17 := (hr 1 rfl).trans h1_16
 have h2_17 := (hr 2 rfl).trans h2_16
 have h3_17 := (hr 3 rfl).trans h3_16
 have h17_17 := (hr 17 rfl).trans h17_16
 have d17 := d17.trans d16
 clear hv hr
 refine EngI.tail_val EngI.free_wide rfl rfl rfl rfl (Eng.run_assign rfl h17_17) s17 rfl fun act18 d18 s18 hv hr => ?_
 have h1_18 := (hr 1 rfl).trans h1_17
 have h2_18 := (hr 2 rfl).trans h2_17
 have h3_18 := (hr 3 rfl).trans h3_17
 have h5_18 : act18.eval (.tmp 5) = .int .i64 5 := hv
 have d18 := d18.trans d17
 clear hv hr
 refine EngI.tail_nil ?_
 first | show Code.wp Tryz.prog _ _ _ _ | skip
 refine wp_seq ?_
 refine Eng.regionD (Eng.tell [.still fun u_ => u_ = v_5, .still fun u_ => u_ = .bool true, .still fun u_ => u_ = .bool true, .still fun u_ => u_ = v_5, .still fun u_ => u_ = (Eng.cutVal v_5 1 3 5), .still fun u_ => u_ = .bool false, .still fun u_ => u_ = .bool true, .still fun u_ => u_ = .bool true, .still fun u_ => u_ = .bool true, .still fun u_ => u_ = v_5, .still fun u_ => u_ = .string ⟨#[43, 100, 111, 99, 10, 61, 118, 97, 108, 32, 58, 34, 97, 34, 10, 45, 100, 111, 99, 10]⟩, .still fun u_ => u_ = .bool true, .still fun u_ => u_ = .bool true, .still fun u_ => u_ = .bool true, .still fun u_ => u_ = mv, .still fun u_ => u_ = .int .i64 (3 : Int), .still fun u_ => u_ = .bool true, .still fun u_ => u_ = .bool true, .still fun u_ => u_ = .bool true, .still fun u_ => u_ = mv, .still fun u_ => u_ = Eng.elemPtr mv (1 * 5), .still fun u_ => u_ = .agg #[.int .i64 6, .string ⟨#[]⟩, .string ⟨#[]⟩, .string ⟨#[97]⟩, .bool true], .still fun u_ => u_ = v_5, .still fun u_ => u_ = Eng.elemPtr v_5 (1 * 5), .still fun u_ => u_ = .agg #[.int .i64 6, .string ⟨#[]⟩, .string ⟨#[]⟩, .string ⟨#[97]⟩, .bool true], .still fun u_ => u_ = .bool true, .still fun u_ => u_ = .bool true, .still fun u_ => u_ = .bool true, .still fun u_ => u_ = .int .i64 0, .still fun u_ => u_ = .bool true, .still fun u_ => u_ = .bool true, .still fun u_ => u_ = .bool true, .still fun u_ => u_ = .int .i64 5, .still fun u_ => u_ = .bool true, .still fun u_ => u_ = .bool true, .still fun u_ => u_ = .bool true, .still fun u_ => u_ = v_5, .still fun u_ => u_ = .int .i64 1, .still fun u_ => u_ = .bool true, .still fun u_ => u_ = .bool true, .still fun u_ => u_ = .bool true, .still fun u_ => u_ = .agg #[.int .i64 2, .string ⟨#[]⟩, .string ⟨#[]⟩, .string ⟨#[]⟩, .bool false], Eng.Tl.reads 1 5 [.int .i64 2, .string ⟨#[]⟩, .string ⟨#[]⟩, .string ⟨#[]⟩, .bool false], .still fun u_ => u_ = .int .i64 1, .still fun u_ => u_ = .bool true, .still fun u_ => u_ = .bool true, .still fun u_ => u_ = .bool true]) (fun i => ([.plain, .plain, .plain, .plain, .plain, .plain, .plain, .plain, .plain, .plain, .plain, .plain, .plain, .plain, .plain, .plain, .plain, .plain, .plain, .plain, .plain, .plain, .plain, .plain, .plain, .plain, .plain, .plain, .plain, .plain, .plain, .plain, .plain, .plain, .plain, .plain, .plain, .plain, .plain, .plain, .plain, .plain, .plain, .plain, .plain, .plain, .plain] : List Eng.Kind).getD i .plain) 47 0 64 (by kernel_rfl) s18 rfl (by kernel_rfl) (Eng.tell_stable _) (Or.inl (Eng.no_stores (by kernel_rfl))) ?_ ?_
 ·refine .cons (fun _ => ?_) (.cons (fun _ => ?_) (.cons (fun _ => ?_) (.cons (fun _ => ?_) (.cons (fun _ => ?_) (.cons (fun _ => ?_) (.cons (fun _ => ?_) (.cons (fun _ => ?_) (.cons (fun _ => ?_) (.cons (fun _ => ?_) (.cons (fun _ => ?_) (.cons (fun _ => ?_) (.cons (fun _ => ?_) (.cons (fun _ => ?_) (.cons (fun _ => ?_) (.cons (fun _ => ?_) (.cons (fun _ => ?_) (.cons (fun _ => ?_) (.cons (fun _ => ?_) (.cons (fun _ => ?_) (.cons (fun _ => ?_) (.cons (fun _ => ?_) (.cons (fun _ => ?_) (.cons (fun _ => ?_) (.cons (fun _ => ?_) (.cons (fun _ => ?_) (.cons (fun _ => ?_) (.cons (fun _ => ?_) (.cons (fun _ => ?_) (.cons (fun _ => ?_) (.cons (fun _ => ?_) (.cons (fun _ => ?_) (.cons (fun _ => ?_) (.cons (fun _ => ?_) (.cons (fun _ => ?_) (.cons (fun _ => ?_) (.cons (fun _ => ?_) (.cons (fun _ => ?_) (.cons (fun _ => ?_) (.cons (fun _ => ?_) (.cons (fun _ => ?_) (.cons (fun _ => ?_) (.cons (fun _ => ?_) (.cons (fun _ => ?_) (.cons (fun _ => ?_) (.cons (fun _ => ?_) (.cons (fun _ => ?_) (.nil)))))))))))))))))))))))))))))))))))))))))))))))
  ·exact Eng.plain rfl rfl fun a w' H => Eng.vr (v := v_5) rfl (Eng.run_move rfl ((H.kept 1 (by kernel_rfl)).trans h1_18))
  ·refine Eng.plain rfl rfl fun a w' H => ?_
   refine Eng.call Tryz.func12 (by kernel_rfl) (by kernel_rfl) rfl #[v_5] ?_ ?_
   ·have e0 : a.eval (.tmp 18) = v_5 := (H.dep 0 18 (by kernel_rfl) rfl); simp only [List.map_toArray, List.map_cons, List.map_nil, e0]
   refine (Zal.right_l1 v_5 _ (Tabs.below (Tabs.below hT bl13) H.below) (Eng.Reads.below Fl_13 H.below)).mono ?_
   rintro e w'' ⟨rfl, hb⟩
   exact ⟨_, rfl, rfl, hb⟩
  ·exact Eng.plain rfl rfl fun a w' H => Eng.vr (v := .bool true) rfl (Eng.run_move rfl (H.dep 1 19 (by kernel_rfl) rfl))
  ·refine Eng.guardedT (j := 2) (d := 20) rfl rfl (by kernel_rfl) rfl (fun v w h => h) fun a w' H => ?_
   exact Eng.val (w1 := w') (v := v_5) (Eng.run_move rfl ((H.kept 1 (by kernel_rfl)).trans h1_18)) (Below.refl _ _) rfl
  ·refine Eng.guardedT (j := 2) (d := 20) rfl rfl (by kernel_rfl) rfl (fun v w h => h) fun a w' H => ?_
   refine Eng.vr (v := (Eng.cutVal v_5 1 3 5)) rfl ?_
   exact Eng.run_cutv (l := 1) (h := 3) (size := 5) rfl Tryz.underlying24 (by kernel_rfl) (show a.eval (.tmp 21) = v_5 from (H.dep 3 21 (by kernel_rfl) rfl)) (Eng.Reads.below Fl_13 H.below) (congrArg some (show a.eval _ = .int .i64 1 from (rfl : a.eval (.const (.int .i64 1)) = .int .i64 1))) rfl (Or.inr ⟨_, rfl⟩) (Or.inl ⟨rfl, rfl⟩) (by omega) (by first | omega | (simp; done) | (simp; omega))
  ·refine Eng.guardedT (j := 2) (d := 20) rfl rfl (by kernel_rfl) rfl (fun v w h => h) fun a w' H => ?_
   refine Eng.call Tryz.func12 (by kernel_rfl) (by kernel_rfl) rfl #[(Eng.cutVal v_5 1 3 5)] ?_ ?_
   ·have e0 : a.eval (.tmp 22) = (Eng.cutVal v_5 1 3 5) := (H.dep 4 22 (by kernel_rfl) rfl); simp only [List.map_toArray, List.map_cons, List.map_nil, e0]
   refine (Zal.right_cut v_5 _ (Tabs.below (Tabs.below hT bl13) H.below) (Eng.Reads.below Fl_13 H.below)).mono ?_
   rintro e w'' ⟨rfl, hb⟩
   exact ⟨_, rfl, rfl, hb⟩
  ·refine Eng.guardedT (j := 2) (d := 20) rfl rfl (by kernel_rfl) rfl (fun v w h => h) fun a w' H => ?_
   exact Eng.val (w1 := w') (v := .bool (!false)) (Eng.run_not rfl (H.dep 5 23 (by kernel_rfl) rfl)) (Below.refl _ _) rfl
  ·exact Eng.plain rfl rfl fun a w' H => Eng.vr (v := .bool (true && true)) rfl (Eng.run_and rfl rfl (G := true) (H.dep 2 20 (by kernel_rfl) rfl) (fun hb => (H.dep 6 24 (by kernel_rfl) rfl)))
  ·exact Eng.plain rfl rfl fun a w' H => Eng.vr (v := .bool true) rfl (Eng.run_move rfl (H.dep 7 25 (by kernel_rfl) rfl))
  ·refine Eng.guardedT (j := 8) (d := 26) rfl rfl (by kernel_rfl) rfl (fun v w h => h) fun a w' H => ?_
   exact Eng.val (w1 := w') (v := v_5) (Eng.run_move rfl ((H.kept 1 (by kernel_rfl)).trans h1_18)) (Below.refl _ _) rfl
  ·refine Eng.guardedT (j := 8) (d := 26) rfl rfl (by kernel_rfl) rfl (fun v w h => h) fun a w' H => ?_
   refine Eng.call Tryz.func16 (by kernel_rfl) (by kernel_rfl) rfl #[v_5] ?_ ?_
   ·have e0 : a.eval (.tmp 27) = v_5 := (H.dep 9 27 (by kernel_rfl) rfl); simp only [List.map_toArray, List.map_cons, List.map_nil, e0]
   refine (Zal.print_l1 v_5 _ (Tabs.below (Tabs.below hT bl13) H.below) (Eng.Reads.below Fl_13 H.below)).mono ?_
   rintro e w'' ⟨rfl, hb⟩
   exact ⟨_, rfl, rfl, hb⟩
  ·refine Eng.guardedT (j := 8) (d := 26) rfl rfl (by kernel_rfl) rfl (fun v w h => h) fun a w' H => ?_
   refine Eng.vr (v := .bool ((⟨#[43, 100, 111, 99, 10, 61, 118, 97, 108, 32, 58, 34, 97, 34, 10, 45, 100, 111, 99, 10]⟩ : ByteArray).toList == (⟨#[43, 100, 111, 99, 10, 61, 118, 97, 108, 32, 58, 34, 97, 34, 10, 45, 100, 111, 99, 10]⟩ : ByteArray).toList)) (by show _ = Value.bool true; rw [show ((⟨#[43, 100, 111, 99, 10, 61, 118, 97, 108, 32, 58, 34, 97, 34, 10, 45, 100, 111, 99, 10]⟩ : ByteArray).toList == (⟨#[43, 100, 111, 99, 10, 61, 118, 97, 108, 32, 58, 34, 97, 34, 10, 45, 100, 111, 99, 10]⟩ : ByteArray).toList) = true from beq_self_eq_true _]) ?_
   have e0 : a.eval (.tmp 28) = .string ⟨#[43, 100, 111, 99, 10, 61, 118, 97, 108, 32, 58, 34, 97, 34, 10, 45, 100, 111, 99, 10]⟩ := (H.dep 10 28 (by kernel_rfl) rfl)
   have e1 : a.eval (.const (.string ⟨#[43, 100, 111, 99, 10, 61, 118, 97, 108, 32, 58, 34, 97, 34, 10, 45, 100, 111, 99, 10]⟩)) = .string ⟨#[43, 100, 111, 99, 10, 61, 118, 97, 108, 32, 58, 34, 97, 34, 10, 45, 100, 111, 99, 10]⟩ := (rfl : a.eval (.const (.string ⟨#[43, 100, 111, 99, 10, 61, 118, 97, 108, 32, 58, 34, 97, 34, 10, 45, 100, 111, 99, 10]⟩)) = .string ⟨#[43, 100, 111, 99, 10, 61, 118, 97, 108, 32, 58, 34, 97, 34, 10, 45, 100, 111, 99, 10]⟩)
   simp only [execOp, resolve, List.map_toArray, List.map_cons, List.map_nil, e0, e1]
   go_simp
   all_goals first | rfl | (simp; done) | (rw [Bool.eq_iff_iff]; simp; done) | omega | (split <;> first | (simp_all; done) | (split <;> simp_all; done)) | skip
  ·exact Eng.plain rfl rfl fun a w' H => Eng.vr (v := .bool (true && true)) rfl (Eng.run_and rfl rfl (G := true) (H.dep 8 26 (by kernel_rfl) rfl) (fun hb => (H.dep 11 29 (by kernel_rfl) rfl)))
  ·exact Eng.plain rfl rfl fun a w' H => Eng.vr (v := .bool true) rfl (Eng.run_move rfl (H.dep 12 30 (by kernel_rfl) rfl))
  ·refine Eng.guardedT (j := 13) (d := 31) rfl rfl (by kernel_rfl) rfl (fun v w h => h) fun a w' H => ?_
   exact Eng.val (w1 := w') (v := mv) (Eng.run_move rfl ((H.kept 2 (by kernel_rfl)).trans h2_18)) (Below.refl _ _) rfl
  ·refine Eng.guardedT (j := 13) (d := 31) rfl rfl (by kernel_rfl) rfl (fun v w h => h) fun a w' H => ?_
   refine Eng.vr (v := .int .i64 (3 : Int)) rfl ?_
   exact Eng.run_len_sl rfl Tryz.underlying24 (show a.eval (.tmp 32) = mv from (H.dep 14 32 (by kernel_rfl) rfl)) (Eng.Reads.below Fm_13 H.below)
  ·refine Eng.guardedT (j := 13) (d := 31) rfl rfl (by kernel_rfl) rfl (fun v w h => h) fun a w' H => ?_
   refine Eng.vr (v := .bool ((3 : Int) == 3)) (by show _ = Value.bool true; rw [show ((3 : Int) == 3) = true from rfl]) ?_
   have e0 : a.eval (.tmp 33) = .int .i64 (3 : Int) := (H.dep 15 33 (by kernel_rfl) rfl)
   have e1 : a.eval (.const (.int .i64 3)) = .int .i64 3 := (rfl : a.eval (.const (.int .i64 3)) = .int .i64 3)
   simp only [execOp, resolve, List.map_toArray, List.map_cons, List.map_nil, e0, e1]
   go_simp
   all_goals first | rfl | (simp; done) | (rw [Bool.eq_iff_iff]; simp; done) | omega | (split <;> first | (simp_all; done) | (split <;> simp_all; done)) | skip
  ·exact Eng.plain rfl rfl fun a w' H => Eng.vr (v := .bool (true && true)) rfl (Eng.run_and rfl rfl (G := true) (H.dep 13 31 (by kernel_rfl) rfl) (fun hb => (H.dep 16 34 (by kernel_rfl) rfl)))
  ·exact Eng.plain rfl rfl fun a w' H => Eng.vr (v := .bool true) rfl (Eng.run_move rfl (H.dep 17 35 (by kernel_rfl) rfl))
  ·refine Eng.guardedT (j := 18) (d := 36) rfl rfl (by kernel_rfl) rfl (fun v w h => h) fun a w' H => ?_
   exact Eng.val (w1 := w') (v := mv) (Eng.run_move rfl ((H.kept 2 (by kernel_rfl)).trans h2_18)) (Below.refl _ _) rfl
  ·refine Eng.guardedT (j := 18) (d := 36) rfl rfl (by kernel_rfl) rfl (fun v w h => h) fun a w' H => ?_
   refine Eng.vr (v := Eng.elemPtr mv (1 * 5)) rfl ?_
   exact Eng.run_index_sl rfl Tryz.underlying24 (by kernel_rfl) (show a.eval (.tmp 37) = mv from (H.dep 19 37 (by kernel_rfl) rfl)) ((show a.eval (.const (.int .i64 1)) = .int .i64 1 from (rfl : a.eval (.const (.int .i64 1)) = .int .i64 1)).trans (congrArg (Value.int _) (show 1 = ((1 : Nat) : Int) from by first | rfl | decide))) (Eng.Reads.below Fm_13 H.below) (by first | rfl | decide) rfl
  ·refine Eng.guardedT (j := 18) (d := 36) rfl rfl (by kernel_rfl) rfl (fun v w h => h) fun a w' H => ?_
   refine Eng.vr (v := .agg #[.int .i64 6, .string ⟨#[]⟩, .string ⟨#[]⟩, .string ⟨#[97]⟩, .bool true]) rfl ?_
   exact Eng.run_load_els [.int .i64 6, .string ⟨#[]⟩, .string ⟨#[]⟩, .string ⟨#[97]⟩, .bool true] rfl (show a.eval (.tmp 38) = Eng.elemPtr mv (1 * 5) from (H.dep 20 38 (by kernel_rfl) rfl)) (Eng.Reads.below Fm_13 H.below) (rfl) rfl Tryz.underlying29 rfl (by kernel_rfl)
  ·refine Eng.guardedT (j := 18) (d := 36) rfl rfl (by kernel_rfl) rfl (fun v w h => h) fun a w' H => ?_
   exact Eng.val (w1 := w') (v := v_5) (Eng.run_move rfl ((H.kept 1 (by kernel_rfl)).trans h1_18)) (Below.refl _ _) rfl
  ·refine Eng.guardedT (j := 18) (d := 36) rfl rfl (by kernel_rfl) rfl (fun v w h => h) fun a w' H => ?_
   refine Eng.vr (v := Eng.elemPtr v_5 (1 * 5)) rfl ?_
   exact Eng.run_index_sl rfl Tryz.underlying24 (by kernel_rfl) (show a.eval (.tmp 40) = v_5 from (H.dep 22 40 (by kernel_rfl) rfl)) ((show a.eval (.const (.int .i64 1)) = .int .i64 1 from (rfl : a.eval (.const (.int .i64 1)) = .int .i64 1)).trans (congrArg (Value.int _) (show 1 = ((1 : Nat) : Int) from by first | rfl | decide))) (Eng.Reads.below Fl_13 H.below) (by first | rfl | decide) rfl
  ·refine Eng.guardedT (j := 18) (d := 36) rfl rfl (by kernel_rfl) rfl (fun v w h => h) fun a w' H => ?_
   refine Eng.vr (v := .agg #[.int .i64 6, .string ⟨#[]⟩, .string ⟨#[]⟩, .string ⟨#[97]⟩, .bool true]) rfl ?_
   exact Eng.run_load_els [.int .i64 6, .string ⟨#[]⟩, .string ⟨#[]⟩, .string ⟨#[97]⟩, .bool true] rfl (show a.eval (.tmp 41) = Eng.elemPtr v_5 (1 * 5) from (H.dep 23 41 (by kernel_rfl) rfl)) (Eng.Reads.below Fl_13 H.below) (rfl) rfl Tryz.underlying29 rfl (by kernel_rfl)
  ·refine Eng.guardedT (j := 18) (d := 36) rfl rfl (by kernel_rfl) rfl (fun v w h => h) fun a w' H => ?_
   refine Eng.vr (v := .bool (true : Bool)) (by show _ = Value.bool true; rw [show ((true : Bool)) = true from rfl]) ?_
   have e0 : a.eval (.tmp 39) = .agg #[.int .i64 6, .string ⟨#[]⟩, .string ⟨#[]⟩, .string ⟨#[97]⟩, .bool true] := (H.dep 21 39 (by kernel_rfl) rfl)
   have e1 : a.eval (.tmp 42) = .agg #[.int .i64 6, .string ⟨#[]⟩, .string ⟨#[]⟩, .string ⟨#[97]⟩, .bool true] := (H.dep 24 42 (by kernel_rfl) rfl)
   simp only [execOp, resolve, List.map_toArray, List.map_cons, List.map_nil, e0, e1]
   go_simp
   all_goals first | rfl | (simp; done) | (rw [Bool.eq_iff_iff]; simp; done) | omega | (split <;> first | (simp_all; done) | (split <;> simp_all; done)) | skip
  ·exact Eng.plain rfl rfl fun a w' H => Eng.vr (v := .bool (true && true)) rfl (Eng.run_and rfl rfl (G := true) (H.dep 18 36 (by kernel_rfl) rfl) (fun hb => (H.dep 25 43 (by kernel_rfl) rfl)))
  ·exact Eng.plain rfl rfl fun a w' H => Eng.vr (v := .bool true) rfl (Eng.run_move rfl (H.dep 26 44 (by kernel_rfl) rfl))
  ·refine Eng.guardedT (j := 27) (d := 45) rfl rfl (by kernel_rfl) rfl (fun v w h => h) fun a w' H => ?_
   exact Eng.val (w1 := w') (v := .int .i64 0) (Eng.run_move rfl ((H.kept 3 (by kernel_rfl)).trans h3_18)) (Below.refl _ _) rfl
  ·refine Eng.guardedT (j := 27) (d := 45) rfl rfl (by kernel_rfl) rfl (fun v w h => h) fun a w' H => ?_
   refine Eng.vr (v := .bool (0 == 0)) (by show _ = Value.bool true; rw [show (0 == 0) = true from rfl]) ?_
   have e0 : a.eval (.tmp 46) = .int .i64 0 := (H.dep 28 46 (by kernel_rfl) rfl)
   have e1 : a.eval (.const (.int .i64 0)) = .int .i64 0 := (rfl : a.eval (.const (.int .i64 0)) = .int .i64 0)
   simp only [execOp, resolve, List.map_toArray, List.map_cons, List.map_nil, e0, e1]
   go_simp
   all_goals first | rfl | (simp; done) | (rw [Bool.eq_iff_iff]; simp; done) | omega | (split <;> first | (simp_all; done) | (split <;> simp_all; done)) | skip
  ·exact Eng.plain rfl rfl fun a w' H => Eng.vr (v := .bool (true && true)) rfl (Eng.run_and rfl rfl (G := true) (H.dep 27 45 (by kernel_rfl) rfl) (fun hb => (H.dep 29 47 (by kernel_rfl) rfl)))
  ·exact Eng.plain rfl rfl fun a w' H => Eng.vr (v := .bool true) rfl (Eng.run_move rfl (H.dep 30 48 (by kernel_rfl) rfl))
  ·refine Eng.guardedT (j := 31) (d := 49) rfl rfl (by kernel_rfl) rfl (fun v w h => h) fun a w' H => ?_
   exact Eng.val (w1 := w') (v := .int .i64 5) (Eng.run_move rfl ((H.kept 5 (by kernel_rfl)).trans h5_18)) (Below.refl _ _) rfl
  ·refine Eng.guardedT (j := 31) (d := 49) rfl rfl (by kernel_rfl) rfl (fun v w h => h) fun a w' H => ?_
   refine Eng.vr (v := .bool (5 == 5)) (by show _ = Value.bool true; rw [show (5 == 5) = true from rfl]) ?_
   have e0 : a.eval (.tmp 50) = .int .i64 5 := (H.dep 32 50 (by kernel_rfl) rfl)
   have e1 : a.eval (.const (.int .i64 5)) = .int .i64 5 := (rfl : a.eval (.const (.int .i64 5)) = .int .i64 5)
   simp only [execOp, resolve, List.map_toArray, List.map_cons, List.map_nil, e0, e1]
   go_simp
   all_goals first | rfl | (simp; done) | (rw [Bool.eq_iff_iff]; simp; done) | omega | (split <;> first | (simp_all; done) | (split <;> simp_all; done)) | skip
  ·exact Eng.plain rfl rfl fun a w' H => Eng.vr (v := .bool (true && true)) rfl (Eng.run_and rfl rfl (G := true) (H.dep 31 49 (by kernel_rfl) rfl) (fun hb => (H.dep 33 51 (by kernel_rfl) rfl)))
  ·exact Eng.plain rfl rfl fun a w' H => Eng.vr (v := .bool true) rfl (Eng.run_move rfl (H.dep 34 52 (by kernel_rfl) rfl))
  ·refine Eng.guardedT (j := 35) (d := 53) rfl rfl (by kernel_rfl) rfl (fun v w h => h) fun a w' H => ?_
   exact Eng.val (w1 := w') (v := v_5) (Eng.run_move rfl ((H.kept 1 (by kernel_rfl)).trans h1_18)) (Below.refl _ _) rfl
  ·refine Eng.guardedT (j := 35) (d := 53) rfl rfl (by kernel_rfl) rfl (fun v w h => h) fun a w' H => ?_
   refine Eng.call Tryz.func15 (by kernel_rfl) (by kernel_rfl) rfl #[v_5] ?_ ?_
   ·have e0 : a.eval (.tmp 54) = v_5 := (H.dep 36 54 (by kernel_rfl) rfl); simp only [List.map_toArray, List.map_cons, List.map_nil, e0]
   refine (Zal.nodes_l1 v_5 _ (Eng.Reads.below Fl_13 H.below)).mono ?_
   rintro e w'' ⟨rfl, hb⟩
   exact ⟨_, rfl, rfl, hb⟩
  ·refine Eng.guardedT (j := 35) (d := 53) rfl rfl (by kernel_rfl) rfl (fun v w h => h) fun a w' H => ?_
   refine Eng.vr (v := .bool (1 == 1)) (by show _ = Value.bool true; rw [show (1 == 1) = true from rfl]) ?_
   have e0 : a.eval (.tmp 55) = .int .i64 1 := (H.dep 37 55 (by kernel_rfl) rfl)
   have e1 : a.eval (.const (.int .i64 1)) = .int .i64 1 := (rfl : a.eval (.const (.int .i64 1)) = .int .i64 1)
   simp only [execOp, resolve, List.map_toArray, List.map_cons, List.map_nil, e0, e1]
   go_simp
   all_goals first | rfl | (simp; done) | (rw [Bool.eq_iff_iff]; simp; done) | omega | (split <;> first | (simp_all; done) | (split <;> simp_all; done)) | skip
  ·exact Eng.plain rfl rfl fun a w' H => Eng.vr (v := .bool (true && true)) rfl (Eng.run_and rfl rfl (G := true) (H.dep 35 53 (by kernel_rfl) rfl) (fun hb => (H.dep 38 56 (by kernel_rfl) rfl)))
  ·exact Eng.plain rfl rfl fun a w' H => Eng.vr (v := .bool true) rfl (Eng.run_move rfl (H.dep 39 57 (by kernel_rfl) rfl))
  ·refine Eng.guardedT (j := 40) (d := 58) rfl rfl (by kernel_rfl) rfl (fun v w h => h) fun a w' H => ?_
   refine Eng.vr (v := .agg #[.int .i64 2, .string ⟨#[]⟩, .string ⟨#[]⟩, .string ⟨#[]⟩, .bool false]) rfl ?_
   have e0 : a.eval (.const (.int .i64 2)) = .int .i64 2 := (rfl : a.eval (.const (.int .i64 2)) = .int .i64 2)
   simp only [execOp, resolve, List.map_toArray, List.map_cons, List.map_nil, e0]
   go_simp
   all_goals first | rfl | (simp; done) | (rw [Bool.eq_iff_iff]; simp; done) | omega | skip
  ·refine Eng.guardedT (j := 40) (d := 58) rfl rfl (by kernel_rfl) rfl (fun v w h => h) fun a w' H => ?_
   refine Eng.val_ex (Eng.run_build1I (size := 5) (z := .agg #[.int .i64 0, .string ⟨#[]⟩, .string ⟨#[]⟩, .string ⟨#[]⟩, .bool false]) [.int .i64 2, .string ⟨#[]⟩, .string ⟨#[]⟩, .string ⟨#[]⟩, .bool false] rfl Tryz.underlying24 (by kernel_rfl) rfl rfl rfl (by kernel_rfl) (show a.eval (.tmp 59) = .agg #[.int .i64 2, .string ⟨#[]⟩, .string ⟨#[]⟩, .string ⟨#[]⟩, .bool false] from (H.dep 41 59 (by kernel_rfl) rfl))) fun v1 w'' R => ?_
   obtain ⟨F, hb⟩ := R
   exact ⟨hb, F⟩
  ·refine Eng.guardedT (j := 40) (d := 58) rfl rfl (by kernel_rfl) rfl (fun v w h => h) fun a w' H => ?_
   refine Eng.call Tryz.func14 (by kernel_rfl) (by kernel_rfl) rfl #[(a.eval (.tmp 60))] ?_ ?_
   ·simp only [List.map_toArray, List.map_cons, List.map_nil]
   refine (Zal.depth_s (a.eval (.tmp 60)) _ (show Eng.Reads w' (a.eval (.tmp 60)) 1 5 [.int .i64 2, .string ⟨#[]⟩, .string ⟨#[]⟩, .string ⟨#[]⟩, .bool false] from H.dep 42 60 (by kernel_rfl) rfl)).mono ?_
   rintro e w'' ⟨rfl, hb⟩
   exact ⟨_, rfl, rfl, hb⟩
  ·refine Eng.guardedT (j := 40) (d := 58) rfl rfl (by kernel_rfl) rfl (fun v w h => h) fun a w' H => ?_
   refine Eng.vr (v := .bool (1 == 1)) (by show _ = Value.bool true; rw [show (1 == 1) = true from rfl]) ?_
   have e0 : a.eval (.tmp 61) = .int .i64 1 := (H.dep 43 61 (by kernel_rfl) rfl)
   have e1 : a.eval (.const (.int .i64 1)) = .int .i64 1 := (rfl : a.eval (.const (.int .i64 1)) = .int .i64 1)
   simp only [execOp, resolve, List.map_toArray, List.map_cons, List.map_nil, e0, e1]
   go_simp
   all_goals first | rfl | (simp; done) | (rw [Bool.eq_iff_iff]; simp; done) | omega | (split <;> first | (simp_all; done) | (split <;> simp_all; done)) | skip
  ·exact Eng.plain rfl rfl fun a w' H => Eng.vr (v := .bool (true && true)) rfl (Eng.run_and rfl rfl (G := true) (H.dep 40 58 (by kernel_rfl) rfl) (fun hb => (H.dep 44 62 (by kernel_rfl) rfl)))
  ·exact Eng.plain rfl rfl fun a w' H => Eng.vr (v := .bool true) rfl (Eng.run_assign rfl (H.dep 45 63 (by kernel_rfl) rfl))
 intro act19 w19 T
 have h0_19 : act19.eval (.tmp 0) = .bool true := T.done 46 0 rfl rfl
 have d19 := T.defers.trans d18
 have bl19 := bl13.trans (T.below.mono bl13.size)
 clear T
 refine Eng.tail_nil ?_
 first | show Code.wp Tryz.prog _ _ _ _ | skip
 refine wp_ret ?_
 repeat (first | with_reducible refine Eng.in_ret ?_ | with_reducible refine Eng.then_ret ?_)
 exact Eng.ret1 rfl d19 h0_19 ⟨rfl, bl19⟩
end Go.Proofs.YtgnmjaacnmkgnaaGreatDoor.X
end
section
namespace Go.Proofs.YtgnmjaacnmkgnaaGreatDoor.X
open Go.RowKit Go.Shelf Go.Proofs
set_option linter.unusedVariables false
set_option linter.unusedSimpArgs false
namespace Evt
def dl (k : Int) : Int := if k = 0 ∨ k = 2 ∨ k = 4 then 1 else if k = 1 ∨ k = 3 ∨ k = 5 then -1 else 0
theorem pop_some {st st' : List (Int × Int)} {k : Int} {may : Int → Bool} (h : pop st k may = some st') : (st'.length : Int) = st.length - 1 := by
  rcases List.eq_nil_or_concat st with rfl | ⟨pre, t, rfl⟩
  · cases h
  · rw [pop_st h, List.concat_eq_append, List.dropLast_concat]; simp
theorem take_dl {st st' : List (Int × Int)} {k : Int} (h : takeF st k = some st') : (st'.length : Int) = st.length + dl k := by
  by_cases h0 : k = 0
  · subst h0; rw [takeF_0] at h
    split at h
    · rename_i he; injection h with h; subst h; rw [List.isEmpty_iff.1 he]; rfl
    · cases h
  by_cases h1 : k = 1
  · subst h1; rw [takeF_1] at h; rw [pop_some h]; rfl
  by_cases h3 : k = 3
  · subst h3; rw [takeF_3] at h; rw [pop_some h]; rfl
  by_cases h5 : k = 5
  · subst h5; rw [takeF_5] at h; rw [pop_some h]; rfl
  rw [takeF_x _ _ h0 h1 h3 h5] at h
  split at h
  · cases h
  · split at h
    · rename_i h24; injection h with h; subst h; rw [List.length_append, more_len]; unfold dl; rw [if_pos (by omega)]; rfl
    · rename_i h24; injection h with h; subst h; rw [more_len]; unfold dl; rw [if_neg (by omega), if_neg (by omega)]; omega
def dls (l : List Ev) : Int := (l.map fun e => dl e.kind).sum
theorem right_all : ∀ (l : List Ev) (st : List (Int × Int)), rightR rightE st l = true → ∀ e ∈ l, rightE e = true
  | [], st, h => by simp
  | e :: t, st, h => by
    rw [rightR, Bool.and_eq_true] at h
    intro x hx
    rcases List.mem_cons.1 hx with rfl | hx
    · exact h.1
    · cases hq : takeF st e.kind with
      | none => rw [hq] at h; exact absurd h.2 (by simp)
      | some st' => rw [hq] at h; exact right_all t st' h.2 x hx
end Evt
end Go.Proofs.YtgnmjaacnmkgnaaGreatDoor.X
end
section
namespace Go.Proofs.YtgnmjaacnmkgnaaGreatDoor.X
open Go.RowKit Go.Shelf Go.Proofs
set_option linter.unusedVariables false
set_option linter.unusedSimpArgs false
namespace Evt
def heavyE (x : Ev) : Bool := (decide ((x.text.size : Int) > 3000) || decide ((x.anchor.size : Int) > 3000)) || decide ((x.tag.size : Int) > 3000)
def heavyL (l : List Ev) : Bool := l.any heavyE || decide ((l.length : Int) > 150)
theorem heavy_take {l : List Ev} {k : Nat} (hk : k < l.length) (h : (l.take k).any heavyE = false) (h2 : heavyE (l.getD k default) = false) : (l.take (k + 1)).any heavyE = false := by
  rw [Rwt.take_one hk, List.any_append, h, Bool.false_or, List.any_cons, h2]; rfl
theorem heavy_at {l : List Ev} {k : Nat} (hk : k < l.length) (h2 : heavyE (l.getD k default) = true) : heavyL l = true := by
  unfold heavyL
  rw [Bool.or_eq_true]; left
  rw [List.any_eq_true]
  refine ⟨l.getD k default, ?_, h2⟩
  rw [List.getD_eq_getElem?_getD, List.getElem?_eq_getElem hk]; exact List.getElem_mem hk
theorem light_len {l : List Ev} (h : heavyL l = false) : l.length ≤ 150 ∧ ∀ k, k < l.length → (l.getD k default).text.size ≤ 3000 := by
  unfold heavyL at h
  rw [Bool.or_eq_false_iff] at h
  have h2 := of_decide_eq_false h.2
  refine ⟨by omega, fun k hk => ?_⟩
  have h3 : heavyE (l.getD k default) = false := by
    cases hx : heavyE (l.getD k default) with
    | false => rfl
    | true =>
      have : l.any heavyE = true := List.any_eq_true.2 ⟨_, by rw [List.getD_eq_getElem?_getD, List.getElem?_eq_getElem hk]; exact List.getElem_mem hk, hx⟩
      rw [this] at h; exact absurd h.1 (by decide)
  unfold heavyE at h3
  rw [Bool.or_eq_false_iff, Bool.or_eq_false_iff] at h3
  have := of_decide_eq_false h3.1.1
  omega
end Evt
end Go.Proofs.YtgnmjaacnmkgnaaGreatDoor.X
end
