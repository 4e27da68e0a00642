/- Words and walks that the row of EventWraps needs: printed by programs, and plain laws. -/
import Derived.Test.YtgnmjaacnmkgnaaGreatDoorM6
namespace Go.Proofs.YtgnmjaacnmkgnaaGreatDoorW.PrintWords
end Go.Proofs.YtgnmjaacnmkgnaaGreatDoorW.PrintWords
namespace Go.Proofs.YtgnmjaacnmkgnaaGreatDoorW.PrintLast
end Go.Proofs.YtgnmjaacnmkgnaaGreatDoorW.PrintLast
namespace Go.Proofs.YtgnmjaacnmkgnaaGreatDoorW.PrintMore
end Go.Proofs.YtgnmjaacnmkgnaaGreatDoorW.PrintMore
section
namespace Go.Proofs.YtgnmjaacnmkgnaaGreatDoor.X
open Go.RowKit Go.Shelf Go.Proofs Go.Proofs.YtgnmjaacnmkgnaaGreatDoorW.PrintWords Go.Proofs.YtgnmjaacnmkgnaaGreatDoorW.PrintLast Go.Proofs.YtgnmjaacnmkgnaaGreatDoorW.PrintMore
set_option linter.unusedVariables false
set_option linter.unusedSimpArgs false
attribute [local go_sem] max2_int min2_int max_two min_two
set_option maxHeartbeats 4000000 in
set_option maxRecDepth 100000 in
theorem Evt.depth_calls (v : Value) (l : List Evt.Ev) (w : World) (hl : Eng.Reads w v l.length 5 (Evt.cells l)) : Calls Tryz.prog 14 #[v] w fun e w' => e = .returned (.int .i64 (Evt.depths l).2) ∧ Below w.heap.size w w' := by
 have hm := Eng.Reads.len_le hl
 refine Eng.enter Tryz.func14 rfl fun act0 d0 s0 v0 => ?_
 have s0 : act0.tmps.size = 29 := s0
 have h0_0 : act0.eval (.tmp 0) = v := v0 0 (by simp)
 clear v0
 have bl0 : Below w.heap.size w w := Below.refl _ _
 refine wp_seq ?_
 refine Eng.regionS (Eng.still [fun u_ => u_ = .int .i64 0]) (fun _ => .plain) 1 0 29 s0 rfl (by kernel_rfl) (Eng.still_stable _) (Or.inr (Eng.still_any _)) ?_ ?_
 ·refine .cons (fun _ => ?_) (.nil)
  ·exact Eng.plain rfl rfl fun a w' H => Eng.vr rfl (Eng.run_assign rfl (rfl : a.eval (.const (.int .i64 0)) = .int .i64 0))
 intro act1 w1 T
 have h0_1 := (T.rest 0 (by kernel_rfl)).trans h0_0
 have Fl_1 := Eng.Reads.below hl T.below
 have h2_1 : act1.eval (.tmp 2) = .int .i64 0 := T.done 0 2 rfl rfl
 have d1 := T.defers.trans d0
 have s1 := T.size.trans s0
 have bl1 := bl0.trans (T.below.mono bl0.size)
 clear T
 refine Eng.tail_nil ?_
 first | show Code.wp Tryz.prog _ _ _ _ | skip
 refine wp_seq ?_
 refine Eng.regionS (Eng.still [fun u_ => u_ = .int .i64 0]) (fun _ => .plain) 1 0 29 s1 rfl (by kernel_rfl) (Eng.still_stable _) (Or.inr (Eng.still_any _)) ?_ ?_
 ·refine .cons (fun _ => ?_) (.nil)
  ·exact Eng.plain rfl rfl fun a w' H => Eng.vr rfl (Eng.run_assign rfl (rfl : a.eval (.const (.int .i64 0)) = .int .i64 0))
 intro act2 w2 T
 have h0_2 := (T.rest 0 (by kernel_rfl)).trans h0_1
 have h2_2 := (T.rest 2 (by kernel_rfl)).trans h2_1
 have Fl_2 := Eng.Reads.below Fl_1 T.below
 have h3_2 : act2.eval (.tmp 3) = .int .i64 0 := T.done 0 3 rfl rfl
 have d2 := T.defers.trans d1
 have s2 := T.size.trans s1
 have bl2 := bl1.trans (T.below.mono bl1.size)
 clear T
 refine Eng.tail_nil ?_
 first | show Code.wp Tryz.prog _ _ _ _ | skip
 refine wp_seq ?_
 refine wp_seq ?_
 refine Eng.regionS (Eng.still [fun u_ => u_ = v, fun u_ => u_ = .int .i64 ((l.length : Nat) : Int), fun u_ => u_ = .int .i64 0]) (fun _ => .plain) 3 0 29 s2 rfl (by kernel_rfl) (Eng.still_stable _) (Or.inr (Eng.still_any _)) ?_ ?_
 ·refine .cons (fun _ => ?_) (.cons (fun _ => ?_) (.cons (fun _ => ?_) (.nil)))
  ·exact Eng.plain rfl rfl fun a w' H => Eng.vr rfl (Eng.run_move rfl ((H.kept 0 (by kernel_rfl)).trans h0_2))
  ·exact Eng.plain rfl rfl fun a w' H => Eng.vr (v := .int .i64 ((l.length : Nat) : Int)) rfl (Eng.run_len_sl rfl Tryz.underlying24 (show a.eval (.tmp 6) = v from (H.dep 0 6 (by kernel_rfl) rfl)) (Eng.Reads.below Fl_2 H.below))
  ·exact Eng.plain rfl rfl fun a w' H => Eng.vr rfl (Eng.run_move rfl (rfl : a.eval (.const (.int .i64 0)) = .int .i64 0))
 intro act3 w3 T
 have h0_3 := (T.rest 0 (by kernel_rfl)).trans h0_2
 have h2_3 := (T.rest 2 (by kernel_rfl)).trans h2_2
 have h3_3 := (T.rest 3 (by kernel_rfl)).trans h3_2
 have h6_3 : act3.eval (.tmp 6) = v := T.done 0 6 rfl rfl
 have h7_3 : act3.eval (.tmp 7) = .int .i64 ((l.length : Nat) : Int) := T.done 1 7 rfl rfl
 have h8_3 : act3.eval (.tmp 8) = .int .i64 0 := T.done 2 8 rfl rfl
 have d3 := T.defers.trans d2
 have s3 := T.size.trans s2
 have bl3 := bl2.trans (T.below.mono bl2.size)
 clear T
 refine Eng.tail_nil ?_
 first | show Code.wp Tryz.prog _ _ _ _ | skip
 refine wp_block ?_
 refine Eng.loopN (fun n a w' => ∃ (k : Nat), l.length - k = n ∧ (k ≤ l.length) ∧ a.defers = [] ∧ a.tmps.size = 29 ∧ Below w.heap.size w w' ∧ a.eval (.tmp 0) = v ∧ a.eval (.tmp 2) = .int .i64 ((Evt.depths (List.take k l)).2) ∧ a.eval (.tmp 3) = .int .i64 ((Evt.depths (List.take k l)).1) ∧ a.eval (.tmp 6) = v ∧ a.eval (.tmp 7) = .int .i64 ((l.length : Nat) : Int) ∧ a.eval (.tmp 8) = .int .i64 (k : Nat)) (n0 := l.length - 0) ?_ ?_
 ·exact ⟨0, rfl, by omega, d3, s3, bl3, h0_3, (h2_3.trans (by first | rfl | (congr 1; rw [Eng.i64_id (by omega) (by omega)]; omega) | (rw [Evt.depths_take hk0]; unfold Evt.dstep; first | (rw [if_pos h24]; done) | (rw [if_neg h24, if_pos h35]; done) | (rw [if_neg h24, if_neg h35]; done)) | (simp; done))), (h3_3.trans (by first | rfl | (congr 1; rw [Eng.i64_id (by omega) (by omega)]; omega) | (rw [Evt.depths_take hk0]; unfold Evt.dstep; first | (rw [if_pos h24]; done) | (rw [if_neg h24, if_pos h35]; done) | (rw [if_neg h24, if_neg h35]; done)) | (simp; done))), h6_3, h7_3, (h8_3.trans (by first | rfl | (congr 1; rw [Eng.i64_id (by omega) (by omega)]; omega) | (rw [Evt.depths_take hk0]; unfold Evt.dstep; first | (rw [if_pos h24]; done) | (rw [if_neg h24, if_pos h35]; done) | (rw [if_neg h24, if_neg h35]; done)) | (simp; done)))⟩
 rintro n act4 w4 ⟨k, rfl, hc0_4, d4, s4, bl4, h0_4, h2_4, h3_4, h6_4, h7_4, h8_4⟩
 have Fl_4 := Eng.Reads.below hl bl4
 have hk1 := hc0_4
 refine wp_seq ?_
 obtain ⟨q9, Bq9⟩ : ∃ b : Bool, b = (decide ((k : Nat) < ((l.length : Nat) : Int))) := ⟨_, rfl⟩
 refine Eng.regionS (Eng.still [fun u_ => u_ = .bool q9]) (fun _ => .plain) 1 0 29 s4 rfl (by kernel_rfl) (Eng.still_stable _) (Or.inr (Eng.still_any _)) ?_ ?_
 ·refine .cons (fun _ => ?_) (.nil)
  ·refine Eng.plain rfl rfl fun a w' H => ?_
   refine Eng.vr (v := .bool (decide ((k : Nat) < ((l.length : Nat) : Int)))) (by show _ = Value.bool q9; rw [Bq9]) ?_
   have e0 : a.eval (.tmp 8) = .int .i64 (k : Nat) := ((H.kept 8 (by kernel_rfl)).trans h8_4)
   have e1 : a.eval (.tmp 7) = .int .i64 ((l.length : Nat) : Int) := ((H.kept 7 (by kernel_rfl)).trans h7_4)
   simp only [execOp, resolve, List.map_toArray, List.map_cons, List.map_nil, e0, e1]
   go_simp
   all_goals first | rfl | (simp; done) | (rw [Bool.eq_iff_iff]; simp; done) | omega | (split <;> first | (simp_all; done) | (split <;> simp_all; done)) | skip
 intro act5 w5 T
 have h0_5 := (T.rest 0 (by kernel_rfl)).trans h0_4
 have h2_5 := (T.rest 2 (by kernel_rfl)).trans h2_4
 have h3_5 := (T.rest 3 (by kernel_rfl)).trans h3_4
 have h6_5 := (T.rest 6 (by kernel_rfl)).trans h6_4
 have h7_5 := (T.rest 7 (by kernel_rfl)).trans h7_4
 have h8_5 := (T.rest 8 (by kernel_rfl)).trans h8_4
 have Fl_5 := Eng.Reads.below Fl_4 T.below
 have h9_5 : act5.eval (.tmp 9) = .bool q9 := T.done 0 9 rfl rfl
 have d5 := T.defers.trans d4
 have s5 := T.size.trans s4
 have bl5 := bl4.trans (T.below.mono bl4.size)
 clear T
 refine Eng.tail_nil ?_
 first | show Code.wp Tryz.prog _ _ _ _ | skip
 refine wp_seq ?_
 refine wp_cond_split h9_5 (fun hq => ?_) (fun hq => ?_)
 ·
  have c9 := Bq9.symm.trans hq
  clear hq
  have c9 := of_decide_eq_true c9
  have hk0 : k < l.length := by omega
  refine wp_skip ?_
  first | show Code.wp Tryz.prog _ _ _ _ | skip
  refine wp_seq ?_
  refine wp_block ?_
  refine wp_seq ?_
  refine Eng.regionS (Eng.still [fun u_ => u_ = Eng.elemPtr v (k * 5), fun u_ => u_ = .agg #[.int .i64 ((l.getD k default).kind), .string ((l.getD k default).anchor), .string ((l.getD k default).tag), .string ((l.getD k default).text), .bool ((l.getD k default).plain)], fun u_ => True, fun u_ => True]) (fun i => ([.plain, .plain, .alloc 29 #[.int .i64 0, .string ⟨#[]⟩, .string ⟨#[]⟩, .string ⟨#[]⟩, .bool false], .store 2 #[.int .i64 ((l.getD k default).kind), .string ((l.getD k default).anchor), .string ((l.getD k default).tag), .string ((l.getD k default).text), .bool ((l.getD k default).plain)]] : List Eng.Kind).getD i .plain) 4 0 29 s5 rfl (by kernel_rfl) (Eng.still_stable _) (Or.inr (Eng.still_any _)) ?_ ?_
  ·refine .cons (fun _ => ?_) (.cons (fun _ => ?_) (.cons (fun _ => ?_) (.cons (fun _ => ?_) (.nil))))
   ·exact Eng.plain rfl rfl fun a w' H => Eng.vr (v := Eng.elemPtr v (k * 5)) rfl (Eng.run_index_sl rfl Tryz.underlying24 (by kernel_rfl) (show a.eval (.tmp 6) = v from ((H.kept 6 (by kernel_rfl)).trans h6_5)) ((show a.eval (.tmp 8) = .int .i64 (k : Nat) from ((H.kept 8 (by kernel_rfl)).trans h8_5)).trans (congrArg (Value.int _) (show (k : Nat) = ((k : Nat) : Int) from by omega))) (Eng.Reads.below Fl_5 H.below) (by omega) rfl)
   ·exact Eng.plain rfl rfl fun a w' H => Eng.vr (v := .agg #[.int .i64 ((l.getD k default).kind), .string ((l.getD k default).anchor), .string ((l.getD k default).tag), .string ((l.getD k default).text), .bool ((l.getD k default).plain)]) rfl (Eng.run_load_els [.int .i64 ((l.getD k default).kind), .string ((l.getD k default).anchor), .string ((l.getD k default).tag), .string ((l.getD k default).text), .bool ((l.getD k default).plain)] rfl (show a.eval (.tmp 10) = Eng.elemPtr v (k * 5) from (H.dep 0 10 (by kernel_rfl) rfl)) (Eng.Reads.below Fl_5 H.below) (Evt.cells_at l k (by omega)) rfl Tryz.underlying29 rfl (by kernel_rfl))
   ·refine Eng.made rfl (by simp) rfl (fun a w' hd ho => ?_) (fun _ _ => trivial)
    simp only [execOp]
    go_simp
   ·refine Eng.stored [.int .i64 ((l.getD k default).kind), .string ((l.getD k default).anchor), .string ((l.getD k default).tag), .string ((l.getD k default).text), .bool ((l.getD k default).plain)] rfl rfl rfl (j := 2) (d := 5) (by kernel_rfl) rfl rfl (Eng.store_uniq (by kernel_rfl)) rfl rfl fun a w' g e hc hd ho => ?_
    have e0 : a.eval _ = .agg #[.int .i64 ((l.getD k default).kind), .string ((l.getD k default).anchor), .string ((l.getD k default).tag), .string ((l.getD k default).text), .bool ((l.getD k default).plain)] := (hd 1 11 (by kernel_rfl) rfl)
    have z0 := (Eng.cells hc 0).trans rfl
    have z1 := (Eng.cells hc 1).trans rfl
    have z2 := (Eng.cells hc 2).trans rfl
    have z3 := (Eng.cells hc 3).trans rfl
    have z4 := (Eng.cells hc 4).trans rfl
    have f0 := Eng.unfrozen hc 0
    have f1 := Eng.unfrozen hc 1
    have f2 := Eng.unfrozen hc 2
    have f3 := Eng.unfrozen hc 3
    have f4 := Eng.unfrozen hc 4
    simp only [execOp, e, e0]
    go_simp
    rfl
  intro act7 w7 T
  have h0_7 := (T.rest 0 (by kernel_rfl)).trans h0_5
  have h2_7 := (T.rest 2 (by kernel_rfl)).trans h2_5
  have h3_7 := (T.rest 3 (by kernel_rfl)).trans h3_5
  have h6_7 := (T.rest 6 (by kernel_rfl)).trans h6_5
  have h7_7 := (T.rest 7 (by kernel_rfl)).trans h7_5
  have h8_7 := (T.rest 8 (by kernel_rfl)).trans h8_5
  obtain ⟨g5_7, h5_7, rg5_7, lg5_7_7, kg5_7_7⟩ := T.st 2 5 3 _ _ _ rfl rfl rfl rfl rfl
  have d7 := T.defers.trans d5
  have s7 := T.size.trans s5
  have bl7 := bl5.trans (T.below.mono bl5.size)
  clear T
  refine Eng.tail_nil ?_
  first | show Code.wp Tryz.prog _ _ _ _ | skip
  refine wp_seq ?_
  refine wp_seq ?_
  refine Eng.regionS (Eng.still [fun u_ => u_ = .pointer (some ⟨g5_7, 0, none⟩), fun u_ => u_ = .int .i64 ((l.getD k default).kind)]) (fun _ => .plain) 2 0 29 s7 rfl (by kernel_rfl) (Eng.still_stable _) (Or.inr (Eng.still_any _)) ?_ ?_
  ·refine .cons (fun _ => ?_) (.cons (fun _ => ?_) (.nil))
   ·exact Eng.plain rfl rfl fun a w' H => Eng.vr rfl (Eng.run_fieldb rfl Tryz.underlying29 0 (by kernel_rfl) ((H.kept 5 (by kernel_rfl)).trans h5_7))
   ·exact Eng.plain rfl rfl fun a w' H => Eng.vr rfl (Eng.run_loadb rfl (H.dep 0 12 (by kernel_rfl) rfl) ((H.below.block _ lg5_7_7).trans kg5_7_7) rfl (by kernel_rfl))
  intro act8 w8 T
  have h0_8 := (T.rest 0 (by kernel_rfl)).trans h0_7
  have h2_8 := (T.rest 2 (by kernel_rfl)).trans h2_7
  have h3_8 := (T.rest 3 (by kernel_rfl)).trans h3_7
  have h6_8 := (T.rest 6 (by kernel_rfl)).trans h6_7
  have h7_8 := (T.rest 7 (by kernel_rfl)).trans h7_7
  have h8_8 := (T.rest 8 (by kernel_rfl)).trans h8_7
  have h13_8 : act8.eval (.tmp 13) = .int .i64 ((l.getD k default).kind) := T.done 1 13 rfl rfl
  have d8 := T.defers.trans d7
  have s8 := T.size.trans s7
  have bl8 := bl7.trans (T.below.mono bl7.size)
  clear T
  refine Eng.tail_nil ?_
  first | show Code.wp Tryz.prog _ _ _ _ | skip
  refine wp_block ?_
  refine wp_seq ?_
  refine wp_seq ?_
  obtain ⟨q15, Bq15⟩ : ∃ b : Bool, b = (((l.getD k default).kind) == 2) := ⟨_, rfl⟩
  refine Eng.regionS (Eng.still [fun u_ => u_ = .bool q15, fun u_ => u_ = .bool q15]) (fun _ => .plain) 2 0 29 s8 rfl (by kernel_rfl) (Eng.still_stable _) (Or.inr (Eng.still_any _)) ?_ ?_
  ·refine .cons (fun _ => ?_) (.cons (fun _ => ?_) (.nil))
   ·refine Eng.plain rfl rfl fun a w' H => ?_
    refine Eng.vr (v := .bool (((l.getD k default).kind) == 2)) (by show _ = Value.bool q15; rw [Bq15]) ?_
    have e0 : a.eval (.tmp 13) = .int .i64 ((l.getD k default).kind) := ((H.kept 13 (by kernel_rfl)).trans h13_8)
    have e1 : a.eval (.const (.int .i64 2)) = .int .i64 2 := (rfl : a.eval (.const (.int .i64 2)) = .int .i64 2)
    simp only [execOp, resolve, List.map_toArray, List.map_cons, List.map_nil, e0, e1]
    go_simp
    all_goals first | rfl | (simp; done) | (rw [Bool.eq_iff_iff]; simp; done) | omega | (split <;> first | (simp_all; done) | (split <;> simp_all; done)) | skip
   ·exact Eng.plain rfl rfl fun a w' H => Eng.vr rfl (Eng.run_assign rfl (H.dep 0 15 (by kernel_rfl) rfl))
  intro act9 w9 T
  have h0_9 := (T.rest 0 (by kernel_rfl)).trans h0_8
  have h2_9 := (T.rest 2 (by kernel_rfl)).trans h2_8
  have h3_9 := (T.rest 3 (by kernel_rfl)).trans h3_8
  have h6_9 := (T.rest 6 (by kernel_rfl)).trans h6_8
  have h7_9 := (T.rest 7 (by kernel_rfl)).trans h7_8
  have h8_9 := (T.rest 8 (by kernel_rfl)).trans h8_8
  have h13_9 := (T.rest 13 (by kernel_rfl)).trans h13_8
  have h14_9 : act9.eval (.tmp 14) = .bool q15 := T.done 1 14 rfl rfl
  have d9 := T.defers.trans d8
  have s9 := T.size.trans s8
  have bl9 := bl8.trans (T.below.mono bl8.size)
  clear T
  refine Eng.tail_nil ?_
  first | show Code.wp Tryz.prog _ _ _ _ | skip
  refine wp_cond_split h14_9 (fun hq => ?_) (fun hq => ?_)
  ·
   have kn10 := hq
   have c14 := Bq15.symm.trans hq
   clear hq
   have h24 : (l.getD k default).kind = 2 ∨ (l.getD k default).kind = 4 := Or.inl (by have h := c14; simpa using h)
   refine wp_skip ?_
   first | show Code.wp Tryz.prog _ _ _ _ | skip
   refine wp_cond_true (h14_9.trans (by rw [kn10])) ?_
   refine Eng.regionS (Eng.still [fun u_ => u_ = .int .i64 ((Evt.depths (List.take k l)).1), fun u_ => u_ = .int .i64 (IntKind.i64.wrap (((Evt.depths (List.take k l)).1) + 1)), fun u_ => u_ = .int .i64 (IntKind.i64.wrap (((Evt.depths (List.take k l)).1) + 1))]) (fun _ => .plain) 3 0 29 s9 rfl (by kernel_rfl) (Eng.still_stable _) (Or.inr (Eng.still_any _)) ?_ ?_
   ·refine .cons (fun _ => ?_) (.cons (fun _ => ?_) (.cons (fun _ => ?_) (.nil)))
    ·exact Eng.plain rfl rfl fun a w' H => Eng.vr rfl (Eng.run_move rfl ((H.kept 3 (by kernel_rfl)).trans h3_9))
    ·refine Eng.plain rfl rfl fun a w' H => ?_
     refine Eng.vr (v := .int .i64 (IntKind.i64.wrap (((Evt.depths (List.take k l)).1) + 1))) rfl ?_
     have e0 : a.eval (.tmp 17) = .int .i64 ((Evt.depths (List.take k l)).1) := (H.dep 0 17 (by kernel_rfl) rfl)
     have e1 : a.eval (.const (.int .i64 1)) = .int .i64 1 := (rfl : a.eval (.const (.int .i64 1)) = .int .i64 1)
     simp only [execOp, resolve, List.map_toArray, List.map_cons, List.map_nil, e0, e1]
     go_simp
     all_goals first | rfl | (simp; done) | (rw [Bool.eq_iff_iff]; simp; done) | omega | (split <;> first | (simp_all; done) | (split <;> simp_all; done)) | skip
    ·exact Eng.plain rfl rfl fun a w' H => Eng.vr rfl (Eng.run_assign rfl (H.dep 1 18 (by kernel_rfl) rfl))
   intro act11 w11 T
   have h0_11 := (T.rest 0 (by kernel_rfl)).trans h0_9
   have h2_11 := (T.rest 2 (by kernel_rfl)).trans h2_9
   have h6_11 := (T.rest 6 (by kernel_rfl)).trans h6_9
   have h7_11 := (T.rest 7 (by kernel_rfl)).trans h7_9
   have h8_11 := (T.rest 8 (by kernel_rfl)).trans h8_9
   have h3_11 : act11.eval (.tmp 3) = .int .i64 (IntKind.i64.wrap (((Evt.depths (List.take k l)).1) + 1)) := T.done 2 3 rfl rfl
   have d11 := T.defers.trans d9
   have s11 := T.size.trans s9
   have bl11 := bl9.trans (T.below.mono bl9.size)
   clear T
   refine Eng.tail_nil ?_
   first | show Code.wp Tryz.prog _ _ _ _ | skip
   refine Eng.regionS (Eng.still [fun u_ => u_ = .int .i64 ((Evt.depths (List.take k l)).2), fun u_ => u_ = .int .i64 (IntKind.i64.wrap (((Evt.depths (List.take k l)).1) + 1)), fun u_ => u_ = .int .i64 (mx ((Evt.depths (List.take k l)).2) (IntKind.i64.wrap (((Evt.depths (List.take k l)).1) + 1))), fun u_ => u_ = .int .i64 (mx ((Evt.depths (List.take k l)).2) (IntKind.i64.wrap (((Evt.depths (List.take k l)).1) + 1)))]) (fun _ => .plain) 4 0 29 s11 rfl (by kernel_rfl) (Eng.still_stable _) (Or.inr (Eng.still_any _)) ?_ ?_
   ·refine .cons (fun _ => ?_) (.cons (fun _ => ?_) (.cons (fun _ => ?_) (.cons (fun _ => ?_) (.nil))))
    ·exact Eng.plain rfl rfl fun a w' H => Eng.vr rfl (Eng.run_move rfl ((H.kept 2 (by kernel_rfl)).trans h2_11))
    ·exact Eng.plain rfl rfl fun a w' H => Eng.vr rfl (Eng.run_move rfl ((H.kept 3 (by kernel_rfl)).trans h3_11))
    ·refine Eng.plain rfl rfl fun a w' H => ?_
     refine Eng.vr (v := .int .i64 (mx ((Evt.depths (List.take k l)).2) (IntKind.i64.wrap (((Evt.depths (List.take k l)).1) + 1)))) rfl ?_
     have e0 : a.eval (.tmp 24) = .int .i64 ((Evt.depths (List.take k l)).2) := (H.dep 0 24 (by kernel_rfl) rfl)
     have e1 : a.eval (.tmp 25) = .int .i64 (IntKind.i64.wrap (((Evt.depths (List.take k l)).1) + 1)) := (H.dep 1 25 (by kernel_rfl) rfl)
     simp only [execOp, resolve, List.map_toArray, List.map_cons, List.map_nil, e0, e1]
     go_simp
     all_goals first | rfl | (simp; done) | (rw [Bool.eq_iff_iff]; simp; done) | omega | (split <;> first | (simp_all; done) | (split <;> simp_all; done)) | skip
    ·exact Eng.plain rfl rfl fun a w' H => Eng.vr rfl (Eng.run_assign rfl (H.dep 2 26 (by kernel_rfl) rfl))
   intro act12 w12 T
   have h0_12 := (T.rest 0 (by kernel_rfl)).trans h0_11
   have h3_12 := (T.rest 3 (by kernel_rfl)).trans h3_11
   have h6_12 := (T.rest 6 (by kernel_rfl)).trans h6_11
   have h7_12 := (T.rest 7 (by kernel_rfl)).trans h7_11
   have h8_12 := (T.rest 8 (by kernel_rfl)).trans h8_11
   have h2_12 : act12.eval (.tmp 2) = .int .i64 (mx ((Evt.depths (List.take k l)).2) (IntKind.i64.wrap (((Evt.depths (List.take k l)).1) + 1))) := T.done 3 2 rfl rfl
   have d12 := T.defers.trans d11
   have s12 := T.size.trans s11
   have bl12 := bl11.trans (T.below.mono bl11.size)
   clear T
   refine Eng.tail_nil ?_
   first | show Code.wp Tryz.prog _ _ _ _ | skip
   refine Eng.regionS (Eng.still [fun u_ => u_ = .int .i64 (IntKind.i64.wrap ((k : Nat) + 1)), fun u_ => u_ = .int .i64 (IntKind.i64.wrap ((k : Nat) + 1))]) (fun _ => .plain) 2 0 29 s12 rfl (by kernel_rfl) (Eng.still_stable _) (Or.inr (Eng.still_any _)) ?_ ?_
   ·refine .cons (fun _ => ?_) (.cons (fun _ => ?_) (.nil))
    ·refine Eng.plain rfl rfl fun a w' H => ?_
     refine Eng.vr (v := .int .i64 (IntKind.i64.wrap ((k : Nat) + 1))) rfl ?_
     have e0 : a.eval (.tmp 8) = .int .i64 (k : Nat) := ((H.kept 8 (by kernel_rfl)).trans h8_12)
     have e1 : a.eval (.const (.int .i64 1)) = .int .i64 1 := (rfl : a.eval (.const (.int .i64 1)) = .int .i64 1)
     simp only [execOp, resolve, List.map_toArray, List.map_cons, List.map_nil, e0, e1]
     go_simp
     all_goals first | rfl | (simp; done) | (rw [Bool.eq_iff_iff]; simp; done) | omega | (split <;> first | (simp_all; done) | (split <;> simp_all; done)) | skip
    ·exact Eng.plain rfl rfl fun a w' H => Eng.vr rfl (Eng.run_move rfl (H.dep 0 27 (by kernel_rfl) rfl))
   intro act13 w13 T
   have h0_13 := (T.rest 0 (by kernel_rfl)).trans h0_12
   have h2_13 := (T.rest 2 (by kernel_rfl)).trans h2_12
   have h3_13 := (T.rest 3 (by kernel_rfl)).trans h3_12
   have h6_13 := (T.rest 6 (by kernel_rfl)).trans h6_12
   have h7_13 := (T.rest 7 (by kernel_rfl)).trans h7_12
   have h8_13 : act13.eval (.tmp 8) = .int .i64 (IntKind.i64.wrap ((k : Nat) + 1)) := T.done 1 8 rfl rfl
   have d13 := T.defers.trans d12
   have s13 := T.size.trans s12
   have bl13 := bl12.trans (T.below.mono bl12.size)
   clear T
   refine Eng.tail_nil ?_
   exact ⟨_, by omega, k + 1, rfl, by omega, d13, s13, bl13, h0_13, (h2_13.trans (by first | rfl | (congr 1; rw [Eng.i64_id (by omega) (by omega)]; omega) | (rw [Evt.depths_take hk0]; unfold Evt.dstep; first | (rw [if_pos h24]; done) | (rw [if_neg h24, if_pos h35]; done) | (rw [if_neg h24, if_neg h35]; done)) | (simp; done))), (h3_13.trans (by first | rfl | (congr 1; rw [Eng.i64_id (by omega) (by omega)]; omega) | (rw [Evt.depths_take hk0]; unfold Evt.dstep; first | (rw [if_pos h24]; done) | (rw [if_neg h24, if_pos h35]; done) | (rw [if_neg h24, if_neg h35]; done)) | (simp; done))), h6_13, h7_13, (h8_13.trans (by first | rfl | (congr 1; rw [Eng.i64_id (by omega) (by omega)]; omega) | (rw [Evt.depths_take hk0]; unfold Evt.dstep; first | (rw [if_pos h24]; done) | (rw [if_neg h24, if_pos h35]; done) | (rw [if_neg h24, if_neg h35]; done)) | (simp; done)))⟩
  ·
   have c14 := Bq15.symm.trans hq
   clear hq
   have h24_1 : ¬ (l.getD k default).kind = 2 := by have h := c14; simpa using h
   obtain ⟨q16, Bq16⟩ : ∃ b : Bool, b = (((l.getD k default).kind) == 4) := ⟨_, rfl⟩
   refine Eng.regionS (Eng.still [fun u_ => u_ = .bool q16, fun u_ => u_ = .bool q16]) (fun _ => .plain) 2 0 29 s9 rfl (by kernel_rfl) (Eng.still_stable _) (Or.inr (Eng.still_any _)) ?_ ?_
   ·refine .cons (fun _ => ?_) (.cons (fun _ => ?_) (.nil))
    ·refine Eng.plain rfl rfl fun a w' H => ?_
     refine Eng.vr (v := .bool (((l.getD k default).kind) == 4)) (by show _ = Value.bool q16; rw [Bq16]) ?_
     have e0 : a.eval (.tmp 13) = .int .i64 ((l.getD k default).kind) := ((H.kept 13 (by kernel_rfl)).trans h13_9)
     have e1 : a.eval (.const (.int .i64 4)) = .int .i64 4 := (rfl : a.eval (.const (.int .i64 4)) = .int .i64 4)
     simp only [execOp, resolve, List.map_toArray, List.map_cons, List.map_nil, e0, e1]
     go_simp
     all_goals first | rfl | (simp; done) | (rw [Bool.eq_iff_iff]; simp; done) | omega | (split <;> first | (simp_all; done) | (split <;> simp_all; done)) | skip
    ·exact Eng.plain rfl rfl fun a w' H => Eng.vr rfl (Eng.run_assign rfl (H.dep 0 16 (by kernel_rfl) rfl))
   intro act15 w15 T
   have h0_15 := (T.rest 0 (by kernel_rfl)).trans h0_9
   have h2_15 := (T.rest 2 (by kernel_rfl)).trans h2_9
   have h3_15 := (T.rest 3 (by kernel_rfl)).trans h3_9
   have h6_15 := (T.rest 6 (by kernel_rfl)).trans h6_9
   have h7_15 := (T.rest 7 (by kernel_rfl)).trans h7_9
   have h8_15 := (T.rest 8 (by kernel_rfl)).trans h8_9
   have h13_15 := (T.rest 13 (by kernel_rfl)).trans h13_9
   have h14_15 : act15.eval (.tmp 14) = .bool q16 := T.done 1 14 rfl rfl
   have d15 := T.defers.trans d9
   have s15 := T.size.trans s9
   have bl15 := bl9.trans (T.below.mono bl9.size)
   clear T
   refine Eng.tail_nil ?_
   first | show Code.wp Tryz.prog _ _ _ _ | skip
   refine wp_cond_split h14_15 (fun hq => ?_) (fun hq => ?_)
   ·
    have c14 := Bq16.symm.trans hq
    clear hq
    have h24 : (l.getD k default).kind = 2 ∨ (l.getD k default).kind = 4 := Or.inr (by have h := c14; simpa using h)
    refine Eng.regionS (Eng.still [fun u_ => u_ = .int .i64 ((Evt.depths (List.take k l)).1), fun u_ => u_ = .int .i64 (IntKind.i64.wrap (((Evt.depths (List.take k l)).1) + 1)), fun u_ => u_ = .int .i64 (IntKind.i64.wrap (((Evt.depths (List.take k l)).1) + 1))]) (fun _ => .plain) 3 0 29 s15 rfl (by kernel_rfl) (Eng.still_stable _) (Or.inr (Eng.still_any _)) ?_ ?_
    ·refine .cons (fun _ => ?_) (.cons (fun _ => ?_) (.cons (fun _ => ?_) (.nil)))
     ·exact Eng.plain rfl rfl fun a w' H => Eng.vr rfl (Eng.run_move rfl ((H.kept 3 (by kernel_rfl)).trans h3_15))
     ·refine Eng.plain rfl rfl fun a w' H => ?_
      refine Eng.vr (v := .int .i64 (IntKind.i64.wrap (((Evt.depths (List.take k l)).1) + 1))) rfl ?_
      have e0 : a.eval (.tmp 17) = .int .i64 ((Evt.depths (List.take k l)).1) := (H.dep 0 17 (by kernel_rfl) rfl)
      have e1 : a.eval (.const (.int .i64 1)) = .int .i64 1 := (rfl : a.eval (.const (.int .i64 1)) = .int .i64 1)
      simp only [execOp, resolve, List.map_toArray, List.map_cons, List.map_nil, e0, e1]
      go_simp
      all_goals first | rfl | (simp; done) | (rw [Bool.eq_iff_iff]; simp; done) | omega | (split <;> first | (simp_all; done) | (split <;> simp_all; done)) | skip
     ·exact Eng.plain rfl rfl fun a w' H => Eng.vr rfl (Eng.run_assign rfl (H.dep 1 18 (by kernel_rfl) rfl))
    intro act17 w17 T
    have h0_17 := (T.rest 0 (by kernel_rfl)).trans h0_15
    have h2_17 := (T.rest 2 (by kernel_rfl)).trans h2_15
    have h6_17 := (T.rest 6 (by kernel_rfl)).trans h6_15
    have h7_17 := (T.rest 7 (by kernel_rfl)).trans h7_15
    have h8_17 := (T.rest 8 (by kernel_rfl)).trans h8_15
    have h3_17 : act17.eval (.tmp 3) = .int .i64 (IntKind.i64.wrap (((Evt.depths (List.take k l)).1) + 1)) := T.done 2 3 rfl rfl
    have d17 := T.defers.trans d15
    have s17 := T.size.trans s15
    have bl17 := bl15.trans (T.below.mono bl15.size)
    clear T
    refine Eng.tail_nil ?_
    first | show Code.wp Tryz.prog _ _ _ _ | skip
    refine Eng.regionS (Eng.still [fun u_ => u_ = .int .i64 ((Evt.depths (List.take k l)).2), fun u_ => u_ = .int .i64 (IntKind.i64.wrap (((Evt.depths (List.take k l)).1) + 1)), fun u_ => u_ = .int .i64 (mx ((Evt.depths (List.take k l)).2) (IntKind.i64.wrap (((Evt.depths (List.take k l)).1) + 1))), fun u_ => u_ = .int .i64 (mx ((Evt.depths (List.take k l)).2) (IntKind.i64.wrap (((Evt.depths (List.take k l)).1) + 1)))]) (fun _ => .plain) 4 0 29 s17 rfl (by kernel_rfl) (Eng.still_stable _) (Or.inr (Eng.still_any _)) ?_ ?_
    ·refine .cons (fun _ => ?_) (.cons (fun _ => ?_) (.cons (fun _ => ?_) (.cons (fun _ => ?_) (.nil))))
     ·exact Eng.plain rfl rfl fun a w' H => Eng.vr rfl (Eng.run_move rfl ((H.kept 2 (by kernel_rfl)).trans h2_17))
     ·exact Eng.plain rfl rfl fun a w' H => Eng.vr rfl (Eng.run_move rfl ((H.kept 3 (by kernel_rfl)).trans h3_17))
     ·refine Eng.plain rfl rfl fun a w' H => ?_
      refine Eng.vr (v := .int .i64 (mx ((Evt.depths (List.take k l)).2) (IntKind.i64.wrap (((Evt.depths (List.take k l)).1) + 1)))) rfl ?_
      have e0 : a.eval (.tmp 24) = .int .i64 ((Evt.depths (List.take k l)).2) := (H.dep 0 24 (by kernel_rfl) rfl)
      have e1 : a.eval (.tmp 25) = .int .i64 (IntKind.i64.wrap (((Evt.depths (List.take k l)).1) + 1)) := (H.dep 1 25 (by kernel_rfl) rfl)
      simp only [execOp, resolve, List.map_toArray, List.map_cons, List.map_nil, e0, e1]
      go_simp
      all_goals first | rfl | (simp; done) | (rw [Bool.eq_iff_iff]; simp; done) | omega | (split <;> first | (simp_all; done) | (split <;> simp_all; done)) | skip
     ·exact Eng.plain rfl rfl fun a w' H => Eng.vr rfl (Eng.run_assign rfl (H.dep 2 26 (by kernel_rfl) rfl))
    intro act18 w18 T
    have h0_18 := (T.rest 0 (by kernel_rfl)).trans h0_17
    have h3_18 := (T.rest 3 (by kernel_rfl)).trans h3_17
    have h6_18 := (T.rest 6 (by kernel_rfl)).trans h6_17
    have h7_18 := (T.rest 7 (by kernel_rfl)).trans h7_17
    have h8_18 := (T.rest 8 (by kernel_rfl)).trans h8_17
    have h2_18 : act18.eval (.tmp 2) = .int .i64 (mx ((Evt.depths (List.take k l)).2) (IntKind.i64.wrap (((Evt.depths (List.take k l)).1) + 1))) := T.done 3 2 rfl rfl
    have d18 := T.defers.trans d17
    have s18 := T.size.trans s17
    have bl18 := bl17.trans (T.below.mono bl17.size)
    clear T
    refine Eng.tail_nil ?_
    first | show Code.wp Tryz.prog _ _ _ _ | skip
    refine Eng.regionS (Eng.still [fun u_ => u_ = .int .i64 (IntKind.i64.wrap ((k : Nat) + 1)), fun u_ => u_ = .int .i64 (IntKind.i64.wrap ((k : Nat) + 1))]) (fun _ => .plain) 2 0 29 s18 rfl (by kernel_rfl) (Eng.still_stable _) (Or.inr (Eng.still_any _)) ?_ ?_
    ·refine .cons (fun _ => ?_) (.cons (fun _ => ?_) (.nil))
     ·refine Eng.plain rfl rfl fun a w' H => ?_
      refine Eng.vr (v := .int .i64 (IntKind.i64.wrap ((k : Nat) + 1))) rfl ?_
      have e0 : a.eval (.tmp 8) = .int .i64 (k : Nat) := ((H.kept 8 (by kernel_rfl)).trans h8_18)
      have e1 : a.eval (.const (.int .i64 1)) = .int .i64 1 := (rfl : a.eval (.const (.int .i64 1)) = .int .i64 1)
      simp only [execOp, resolve, List.map_toArray, List.map_cons, List.map_nil, e0, e1]
      go_simp
      all_goals first | rfl | (simp; done) | (rw [Bool.eq_iff_iff]; simp; done) | omega | (split <;> first | (simp_all; done) | (split <;> simp_all; done)) | skip
     ·exact Eng.plain rfl rfl fun a w' H => Eng.vr rfl (Eng.run_move rfl (H.dep 0 27 (by kernel_rfl) rfl))
    intro act19 w19 T
    have h0_19 := (T.rest 0 (by kernel_rfl)).trans h0_18
    have h2_19 := (T.rest 2 (by kernel_rfl)).trans h2_18
    have h3_19 := (T.rest 3 (by kernel_rfl)).trans h3_18
    have h6_19 := (T.rest 6 (by kernel_rfl)).trans h6_18
    have h7_19 := (T.rest 7 (by kernel_rfl)).trans h7_18
    have h8_19 : act19.eval (.tmp 8) = .int .i64 (IntKind.i64.wrap ((k : Nat) + 1)) := T.done 1 8 rfl rfl
    have d19 := T.defers.trans d18
    have s19 := T.size.trans s18
    have bl19 := bl18.trans (T.below.mono bl18.size)
    clear T
    refine Eng.tail_nil ?_
    exact ⟨_, by omega, k + 1, rfl, by omega, d19, s19, bl19, h0_19, (h2_19.trans (by first | rfl | (congr 1; rw [Eng.i64_id (by omega) (by omega)]; omega) | (rw [Evt.depths_take hk0]; unfold Evt.dstep; first | (rw [if_pos h24]; done) | (rw [if_neg h24, if_pos h35]; done) | (rw [if_neg h24, if_neg h35]; done)) | (simp; done))), (h3_19.trans (by first | rfl | (congr 1; rw [Eng.i64_id (by omega) (by omega)]; omega) | (rw [Evt.depths_take hk0]; unfold Evt.dstep; first | (rw [if_pos h24]; done) | (rw [if_neg h24, if_pos h35]; done) | (rw [if_neg h24, if_neg h35]; done)) | (simp; done))), h6_19, h7_19, (h8_19.trans (by first | rfl | (congr 1; rw [Eng.i64_id (by omega) (by omega)]; omega) | (rw [Evt.depths_take hk0]; unfold Evt.dstep; first | (rw [if_pos h24]; done) | (rw [if_neg h24, if_pos h35]; done) | (rw [if_neg h24, if_neg h35]; done)) | (simp; done)))⟩
   ·
    have c14 := Bq16.symm.trans hq
    clear hq
    have h24_2 : ¬ (l.getD k default).kind = 4 := by have h := c14; simpa using h
    have h24 : ¬ ((l.getD k default).kind = 2 ∨ (l.getD k default).kind = 4) := fun h => h.elim h24_1 h24_2
    refine wp_seq ?_
    refine wp_seq ?_
    obtain ⟨q20, Bq20⟩ : ∃ b : Bool, b = (((l.getD k default).kind) == 3) := ⟨_, rfl⟩
    refine Eng.regionS (Eng.still [fun u_ => u_ = .bool q20, fun u_ => u_ = .bool q20]) (fun _ => .plain) 2 0 29 s15 rfl (by kernel_rfl) (Eng.still_stable _) (Or.inr (Eng.still_any _)) ?_ ?_
    ·refine .cons (fun _ => ?_) (.cons (fun _ => ?_) (.nil))
     ·refine Eng.plain rfl rfl fun a w' H => ?_
      refine Eng.vr (v := .bool (((l.getD k default).kind) == 3)) (by show _ = Value.bool q20; rw [Bq20]) ?_
      have e0 : a.eval (.tmp 13) = .int .i64 ((l.getD k default).kind) := ((H.kept 13 (by kernel_rfl)).trans h13_15)
      have e1 : a.eval (.const (.int .i64 3)) = .int .i64 3 := (rfl : a.eval (.const (.int .i64 3)) = .int .i64 3)
      simp only [execOp, resolve, List.map_toArray, List.map_cons, List.map_nil, e0, e1]
      go_simp
      all_goals first | rfl | (simp; done) | (rw [Bool.eq_iff_iff]; simp; done) | omega | (split <;> first | (simp_all; done) | (split <;> simp_all; done)) | skip
     ·exact Eng.plain rfl rfl fun a w' H => Eng.vr rfl (Eng.run_assign rfl (H.dep 0 20 (by kernel_rfl) rfl))
    intro act21 w21 T
    have h0_21 := (T.rest 0 (by kernel_rfl)).trans h0_15
    have h2_21 := (T.rest 2 (by kernel_rfl)).trans h2_15
    have h3_21 := (T.rest 3 (by kernel_rfl)).trans h3_15
    have h6_21 := (T.rest 6 (by kernel_rfl)).trans h6_15
    have h7_21 := (T.rest 7 (by kernel_rfl)).trans h7_15
    have h8_21 := (T.rest 8 (by kernel_rfl)).trans h8_15
    have h13_21 := (T.rest 13 (by kernel_rfl)).trans h13_15
    have h19_21 : act21.eval (.tmp 19) = .bool q20 := T.done 1 19 rfl rfl
    have d21 := T.defers.trans d15
    have s21 := T.size.trans s15
    have bl21 := bl15.trans (T.below.mono bl15.size)
    clear T
    refine Eng.tail_nil ?_
    first | show Code.wp Tryz.prog _ _ _ _ | skip
    refine wp_cond_split h19_21 (fun hq => ?_) (fun hq => ?_)
    ·
     have kn22 := hq
     have c19 := Bq20.symm.trans hq
     clear hq
     have h35 : (l.getD k default).kind = 3 ∨ (l.getD k default).kind = 5 := Or.inl (by have h := c19; simpa using h)
     refine wp_skip ?_
     first | show Code.wp Tryz.prog _ _ _ _ | skip
     refine wp_cond_true (h19_21.trans (by rw [kn22])) ?_
     refine Eng.regionS (Eng.still [fun u_ => u_ = .int .i64 ((Evt.depths (List.take k l)).1), fun u_ => u_ = .int .i64 (IntKind.i64.wrap (((Evt.depths (List.take k l)).1) - 1)), fun u_ => u_ = .int .i64 (IntKind.i64.wrap (((Evt.depths (List.take k l)).1) - 1))]) (fun _ => .plain) 3 0 29 s21 rfl (by kernel_rfl) (Eng.still_stable _) (Or.inr (Eng.still_any _)) ?_ ?_
     ·refine .cons (fun _ => ?_) (.cons (fun _ => ?_) (.cons (fun _ => ?_) (.nil)))
      ·exact Eng.plain rfl rfl fun a w' H => Eng.vr rfl (Eng.run_move rfl ((H.kept 3 (by kernel_rfl)).trans h3_21))
      ·refine Eng.plain rfl rfl fun a w' H => ?_
       refine Eng.vr (v := .int .i64 (IntKind.i64.wrap (((Evt.depths (List.take k l)).1) - 1))) rfl ?_
       have e0 : a.eval (.tmp 22) = .int .i64 ((Evt.depths (List.take k l)).1) := (H.dep 0 22 (by kernel_rfl) rfl)
       have e1 : a.eval (.const (.int .i64 1)) = .int .i64 1 := (rfl : a.eval (.const (.int .i64 1)) = .int .i64 1)
       simp only [execOp, resolve, List.map_toArray, List.map_cons, List.map_nil, e0, e1]
       go_simp
       all_goals first | rfl | (simp; done) | (rw [Bool.eq_iff_iff]; simp; done) | omega | (split <;> first | (simp_all; done) | (split <;> simp_all; done)) | skip
      ·exact Eng.plain rfl rfl fun a w' H => Eng.vr rfl (Eng.run_assign rfl (H.dep 1 23 (by kernel_rfl) rfl))
     intro act23 w23 T
     have h0_23 := (T.rest 0 (by kernel_rfl)).trans h0_21
     have h2_23 := (T.rest 2 (by kernel_rfl)).trans h2_21
     have h6_23 := (T.rest 6 (by kernel_rfl)).trans h6_21
     have h7_23 := (T.rest 7 (by kernel_rfl)).trans h7_21
     have h8_23 := (T.rest 8 (by kernel_rfl)).trans h8_21
     have h3_23 : act23.eval (.tmp 3) = .int .i64 (IntKind.i64.wrap (((Evt.depths (List.take k l)).1) - 1)) := T.done 2 3 rfl rfl
     have d23 := T.defers.trans d21
     have s23 := T.size.trans s21
     have bl23 := bl21.trans (T.below.mono bl21.size)
     clear T
     refine Eng.tail_nil ?_
     first | show Code.wp Tryz.prog _ _ _ _ | skip
     refine Eng.regionS (Eng.still [fun u_ => u_ = .int .i64 ((Evt.depths (List.take k l)).2), fun u_ => u_ = .int .i64 (IntKind.i64.wrap (((Evt.depths (List.take k l)).1) - 1)), fun u_ => u_ = .int .i64 (mx ((Evt.depths (List.take k l)).2) (IntKind.i64.wrap (((Evt.depths (List.take k l)).1) - 1))), fun u_ => u_ = .int .i64 (mx ((Evt.depths (List.take k l)).2) (IntKind.i64.wrap (((Evt.depths (List.take k l)).1) - 1)))]) (fun _ => .plain) 4 0 29 s23 rfl (by kernel_rfl) (Eng.still_stable _) (Or.inr (Eng.still_any _)) ?_ ?_
     ·refine .cons (fun _ => ?_) (.cons (fun _ => ?_) (.cons (fun _ => ?_) (.cons (fun _ => ?_) (.nil))))
      ·exact Eng.plain rfl rfl fun a w' H => Eng.vr rfl (Eng.run_move rfl ((H.kept 2 (by kernel_rfl)).trans h2_23))
      ·exact Eng.plain rfl rfl fun a w' H => Eng.vr rfl (Eng.run_move rfl ((H.kept 3 (by kernel_rfl)).trans h3_23))
      ·refine Eng.plain rfl rfl fun a w' H => ?_
       refine Eng.vr (v := .int .i64 (mx ((Evt.depths (List.take k l)).2) (IntKind.i64.wrap (((Evt.depths (List.take k l)).1) - 1)))) rfl ?_
       have e0 : a.eval (.tmp 24) = .int .i64 ((Evt.depths (List.take k l)).2) := (H.dep 0 24 (by kernel_rfl) rfl)
       have e1 : a.eval (.tmp 25) = .int .i64 (IntKind.i64.wrap (((Evt.depths (List.take k l)).1) - 1)) := (H.dep 1 25 (by kernel_rfl) rfl)
       simp only [execOp, resolve, List.map_toArray, List.map_cons, List.map_nil, e0, e1]
       go_simp
       all_goals first | rfl | (simp; done) | (rw [Bool.eq_iff_iff]; simp; done) | omega | (split <;> first | (simp_all; done) | (split <;> simp_all; done)) | skip
      ·exact Eng.plain rfl rfl fun a w' H => Eng.vr rfl (Eng.run_assign rfl (H.dep 2 26 (by kernel_rfl) rfl))
     intro act24 w24 T
     have h0_24 := (T.rest 0 (by kernel_rfl)).trans h0_23
     have h3_24 := (T.rest 3 (by kernel_rfl)).trans h3_23
     have h6_24 := (T.rest 6 (by kernel_rfl)).trans h6_23
     have h7_24 := (T.rest 7 (by kernel_rfl)).trans h7_23
     have h8_24 := (T.rest 8 (by kernel_rfl)).trans h8_23
     have h2_24 : act24.eval (.tmp 2) = .int .i64 (mx ((Evt.depths (List.take k l)).2) (IntKind.i64.wrap (((Evt.depths (List.take k l)).1) - 1))) := T.done 3 2 rfl rfl
     have d24 := T.defers.trans d23
     have s24 := T.size.trans s23
     have bl24 := bl23.trans (T.below.mono bl23.size)
     clear T
     refine Eng.tail_nil ?_
     first | show Code.wp Tryz.prog _ _ _ _ | skip
     refine Eng.regionS (Eng.still [fun u_ => u_ = .int .i64 (IntKind.i64.wrap ((k : Nat) + 1)), fun u_ => u_ = .int .i64 (IntKind.i64.wrap ((k : Nat) + 1))]) (fun _ => .plain) 2 0 29 s24 rfl (by kernel_rfl) (Eng.still_stable _) (Or.inr (Eng.still_any _)) ?_ ?_
     ·refine .cons (fun _ => ?_) (.cons (fun _ => ?_) (.nil))
      ·refine Eng.plain rfl rfl fun a w' H => ?_
       refine Eng.vr (v := .int .i64 (IntKind.i64.wrap ((k : Nat) + 1))) rfl ?_
       have e0 : a.eval (.tmp 8) = .int .i64 (k : Nat) := ((H.kept 8 (by kernel_rfl)).trans h8_24)
       have e1 : a.eval (.const (.int .i64 1)) = .int .i64 1 := (rfl : a.eval (.const (.int .i64 1)) = .int .i64 1)
       simp only [execOp, resolve, List.map_toArray, List.map_cons, List.map_nil, e0, e1]
       go_simp
       all_goals first | rfl | (simp; done) | (rw [Bool.eq_iff_iff]; simp; done) | omega | (split <;> first | (simp_all; done) | (split <;> simp_all; done)) | skip
      ·exact Eng.plain rfl rfl fun a w' H => Eng.vr rfl (Eng.run_move rfl (H.dep 0 27 (by kernel_rfl) rfl))
     intro act25 w25 T
     have h0_25 := (T.rest 0 (by kernel_rfl)).trans h0_24
     have h2_25 := (T.rest 2 (by kernel_rfl)).trans h2_24
     have h3_25 := (T.rest 3 (by kernel_rfl)).trans h3_24
     have h6_25 := (T.rest 6 (by kernel_rfl)).trans h6_24
     have h7_25 := (T.rest 7 (by kernel_rfl)).trans h7_24
     have h8_25 : act25.eval (.tmp 8) = .int .i64 (IntKind.i64.wrap ((k : Nat) + 1)) := T.done 1 8 rfl rfl
     have d25 := T.defers.trans d24
     have s25 := T.size.trans s24
     have bl25 := bl24.trans (T.below.mono bl24.size)
     clear T
     refine Eng.tail_nil ?_
     exact ⟨_, by omega, k + 1, rfl, by omega, d25, s25, bl25, h0_25, (h2_25.trans (by first | rfl | (congr 1; rw [Eng.i64_id (by omega) (by omega)]; omega) | (rw [Evt.depths_take hk0]; unfold Evt.dstep; first | (rw [if_pos h24]; done) | (rw [if_neg h24, if_pos h35]; done) | (rw [if_neg h24, if_neg h35]; done)) | (simp; done))), (h3_25.trans (by first | rfl | (congr 1; rw [Eng.i64_id (by omega) (by omega)]; omega) | (rw [Evt.depths_take hk0]; unfold Evt.dstep; first | (rw [if_pos h24]; done) | (rw [if_neg h24, if_pos h35]; done) | (rw [if_neg h24, if_neg h35]; done)) | (simp; done))), h6_25, h7_25, (h8_25.trans (by first | rfl | (congr 1; rw [Eng.i64_id (by omega) (by omega)]; omega) | (rw [Evt.depths_take hk0]; unfold Evt.dstep; first | (rw [if_pos h24]; done) | (rw [if_neg h24, if_pos h35]; done) | (rw [if_neg h24, if_neg h35]; done)) | (simp; done)))⟩
    ·
     have c19 := Bq20.symm.trans hq
     clear hq
     have h35_1 : ¬ (l.getD k default).kind = 3 := by have h := c19; simpa using h
     obtain ⟨q21, Bq21⟩ : ∃ b : Bool, b = (((l.getD k default).kind) == 5) := ⟨_, rfl⟩
     refine Eng.regionS (Eng.still [fun u_ => u_ = .bool q21, fun u_ => u_ = .bool q21]) (fun _ => .plain) 2 0 29 s21 rfl (by kernel_rfl) (Eng.still_stable _) (Or.inr (Eng.still_any _)) ?_ ?_
     ·refine .cons (fun _ => ?_) (.cons (fun _ => ?_) (.nil))
      ·refine Eng.plain rfl rfl fun a w' H => ?_
       refine Eng.vr (v := .bool (((l.getD k default).kind) == 5)) (by show _ = Value.bool q21; rw [Bq21]) ?_
       have e0 : a.eval (.tmp 13) = .int .i64 ((l.getD k default).kind) := ((H.kept 13 (by kernel_rfl)).trans h13_21)
       have e1 : a.eval (.const (.int .i64 5)) = .int .i64 5 := (rfl : a.eval (.const (.int .i64 5)) = .int .i64 5)
       simp only [execOp, resolve, List.map_toArray, List.map_cons, List.map_nil, e0, e1]
       go_simp
       all_goals first | rfl | (simp; done) | (rw [Bool.eq_iff_iff]; simp; done) | omega | (split <;> first | (simp_all; done) | (split <;> simp_all; done)) | skip
      ·exact Eng.plain rfl rfl fun a w' H => Eng.vr rfl (Eng.run_assign rfl (H.dep 0 21 (by kernel_rfl) rfl))
     intro act27 w27 T
     have h0_27 := (T.rest 0 (by kernel_rfl)).trans h0_21
     have h2_27 := (T.rest 2 (by kernel_rfl)).trans h2_21
     have h3_27 := (T.rest 3 (by kernel_rfl)).trans h3_21
     have h6_27 := (T.rest 6 (by kernel_rfl)).trans h6_21
     have h7_27 := (T.rest 7 (by kernel_rfl)).trans h7_21
     have h8_27 := (T.rest 8 (by kernel_rfl)).trans h8_21
     have h19_27 : act27.eval (.tmp 19) = .bool q21 := T.done 1 19 rfl rfl
     have d27 := T.defers.trans d21
     have s27 := T.size.trans s21
     have bl27 := bl21.trans (T.below.mono bl21.size)
     clear T
     refine Eng.tail_nil ?_
     first | show Code.wp Tryz.prog _ _ _ _ | skip
     refine wp_cond_split h19_27 (fun hq => ?_) (fun hq => ?_)
     ·
      have c19 := Bq21.symm.trans hq
      clear hq
      have h35 : (l.getD k default).kind = 3 ∨ (l.getD k default).kind = 5 := Or.inr (by have h := c19; simpa using h)
      refine Eng.regionS (Eng.still [fun u_ => u_ = .int .i64 ((Evt.depths (List.take k l)).1), fun u_ => u_ = .int .i64 (IntKind.i64.wrap (((Evt.depths (List.take k l)).1) - 1)), fun u_ => u_ = .int .i64 (IntKind.i64.wrap (((Evt.depths (List.take k l)).1) - 1))]) (fun _ => .plain) 3 0 29 s27 rfl (by kernel_rfl) (Eng.still_stable _) (Or.inr (Eng.still_any _)) ?_ ?_
      ·refine .cons (fun _ => ?_) (.cons (fun _ => ?_) (.cons (fun _ => ?_) (.nil)))
       ·exact Eng.plain rfl rfl fun a w' H => Eng.vr rfl (Eng.run_move rfl ((H.kept 3 (by kernel_rfl)).trans h3_27))
       ·refine Eng.plain rfl rfl fun a w' H => ?_
        refine Eng.vr (v := .int .i64 (IntKind.i64.wrap (((Evt.depths (List.take k l)).1) - 1))) rfl ?_
        have e0 : a.eval (.tmp 22) = .int .i64 ((Evt.depths (List.take k l)).1) := (H.dep 0 22 (by kernel_rfl) rfl)
        have e1 : a.eval (.const (.int .i64 1)) = .int .i64 1 := (rfl : a.eval (.const (.int .i64 1)) = .int .i64 1)
        simp only [execOp, resolve, List.map_toArray, List.map_cons, List.map_nil, e0, e1]
        go_simp
        all_goals first | rfl | (simp; done) | (rw [Bool.eq_iff_iff]; simp; done) | omega | (split <;> first | (simp_all; done) | (split <;> simp_all; done)) | skip
       ·exact Eng.plain rfl rfl fun a w' H => Eng.vr rfl (Eng.run_assign rfl (H.dep 1 23 (by kernel_rfl) rfl))
      intro act29 w29 T
      have h0_29 := (T.rest 0 (by kernel_rfl)).trans h0_27
      have h2_29 := (T.rest 2 (by kernel_rfl)).trans h2_27
      have h6_29 := (T.rest 6 (by kernel_rfl)).trans h6_27
      have h7_29 := (T.rest 7 (by kernel_rfl)).trans h7_27
      have h8_29 := (T.rest 8 (by kernel_rfl)).trans h8_27
      have h3_29 : act29.eval (.tmp 3) = .int .i64 (IntKind.i64.wrap (((Evt.depths (List.take k l)).1) - 1)) := T.done 2 3 rfl rfl
      have d29 := T.defers.trans d27
      have s29 := T.size.trans s27
      have bl29 := bl27.trans (T.below.mono bl27.size)
      clear T
      refine Eng.tail_nil ?_
      first | show Code.wp Tryz.prog _ _ _ _ | skip
      refine Eng.regionS (Eng.still [fun u_ => u_ = .int .i64 ((Evt.depths (List.take k l)).2), fun u_ => u_ = .int .i64 (IntKind.i64.wrap (((Evt.depths (List.take k l)).1) - 1)), fun u_ => u_ = .int .i64 (mx ((Evt.depths (List.take k l)).2) (IntKind.i64.wrap (((Evt.depths (List.take k l)).1) - 1))), fun u_ => u_ = .int .i64 (mx ((Evt.depths (List.take k l)).2) (IntKind.i64.wrap (((Evt.depths (List.take k l)).1) - 1)))]) (fun _ => .plain) 4 0 29 s29 rfl (by kernel_rfl) (Eng.still_stable _) (Or.inr (Eng.still_any _)) ?_ ?_
      ·refine .cons (fun _ => ?_) (.cons (fun _ => ?_) (.cons (fun _ => ?_) (.cons (fun _ => ?_) (.nil))))
       ·exact Eng.plain rfl rfl fun a w' H => Eng.vr rfl (Eng.run_move rfl ((H.kept 2 (by kernel_rfl)).trans h2_29))
       ·exact Eng.plain rfl rfl fun a w' H => Eng.vr rfl (Eng.run_move rfl ((H.kept 3 (by kernel_rfl)).trans h3_29))
       ·refine Eng.plain rfl rfl fun a w' H => ?_
        refine Eng.vr (v := .int .i64 (mx ((Evt.depths (List.take k l)).2) (IntKind.i64.wrap (((Evt.depths (List.take k l)).1) - 1)))) rfl ?_
        have e0 : a.eval (.tmp 24) = .int .i64 ((Evt.depths (List.take k l)).2) := (H.dep 0 24 (by kernel_rfl) rfl)
        have e1 : a.eval (.tmp 25) = .int .i64 (IntKind.i64.wrap (((Evt.depths (List.take k l)).1) - 1)) := (H.dep 1 25 (by kernel_rfl) rfl)
        simp only [execOp, resolve, List.map_toArray, List.map_cons, List.map_nil, e0, e1]
        go_simp
        all_goals first | rfl | (simp; done) | (rw [Bool.eq_iff_iff]; simp; done) | omega | (split <;> first | (simp_all; done) | (split <;> simp_all; done)) | skip
       ·exact Eng.plain rfl rfl fun a w' H => Eng.vr rfl (Eng.run_assign rfl (H.dep 2 26 (by kernel_rfl) rfl))
      intro act30 w30 T
      have h0_30 := (T.rest 0 (by kernel_rfl)).trans h0_29
      have h3_30 := (T.rest 3 (by kernel_rfl)).trans h3_29
      have h6_30 := (T.rest 6 (by kernel_rfl)).trans h6_29
      have h7_30 := (T.rest 7 (by kernel_rfl)).trans h7_29
      have h8_30 := (T.rest 8 (by kernel_rfl)).trans h8_29
      have h2_30 : act30.eval (.tmp 2) = .int .i64 (mx ((Evt.depths (List.take k l)).2) (IntKind.i64.wrap (((Evt.depths (List.take k l)).1) - 1))) := T.done 3 2 rfl rfl
      have d30 := T.defers.trans d29
      have s30 := T.size.trans s29
      have bl30 := bl29.trans (T.below.mono bl29.size)
      clear T
      refine Eng.tail_nil ?_
      first | show Code.wp Tryz.prog _ _ _ _ | skip
      refine Eng.regionS (Eng.still [fun u_ => u_ = .int .i64 (IntKind.i64.wrap ((k : Nat) + 1)), fun u_ => u_ = .int .i64 (IntKind.i64.wrap ((k : Nat) + 1))]) (fun _ => .plain) 2 0 29 s30 rfl (by kernel_rfl) (Eng.still_stable _) (Or.inr (Eng.still_any _)) ?_ ?_
      ·refine .cons (fun _ => ?_) (.cons (fun _ => ?_) (.nil))
       ·refine Eng.plain rfl rfl fun a w' H => ?_
        refine Eng.vr (v := .int .i64 (IntKind.i64.wrap ((k : Nat) + 1))) rfl ?_
        have e0 : a.eval (.tmp 8) = .int .i64 (k : Nat) := ((H.kept 8 (by kernel_rfl)).trans h8_30)
        have e1 : a.eval (.const (.int .i64 1)) = .int .i64 1 := (rfl : a.eval (.const (.int .i64 1)) = .int .i64 1)
        simp only [execOp, resolve, List.map_toArray, List.map_cons, List.map_nil, e0, e1]
        go_simp
        all_goals first | rfl | (simp; done) | (rw [Bool.eq_iff_iff]; simp; done) | omega | (split <;> first | (simp_all; done) | (split <;> simp_all; done)) | skip
       ·exact Eng.plain rfl rfl fun a w' H => Eng.vr rfl (Eng.run_move rfl (H.dep 0 27 (by kernel_rfl) rfl))
      intro act31 w31 T
      have h0_31 := (T.rest 0 (by kernel_rfl)).trans h0_30
      have h2_31 := (T.rest 2 (by kernel_rfl)).trans h2_30
      have h3_31 := (T.rest 3 (by kernel_rfl)).trans h3_30
      have h6_31 := (T.rest 6 (by kernel_rfl)).trans h6_30
      have h7_31 := (T.rest 7 (by kernel_rfl)).trans h7_30
      have h8_31 : act31.eval (.tmp 8) = .int .i64 (IntKind.i64.wrap ((k : Nat) + 1)) := T.done 1 8 rfl rfl
      have d31 := T.defers.trans d30
      have s31 := T.size.trans s30
      have bl31 := bl30.trans (T.below.mono bl30.size)
      clear T
      refine Eng.tail_nil ?_
      exact ⟨_, by omega, k + 1, rfl, by omega, d31, s31, bl31, h0_31, (h2_31.trans (by first | rfl | (congr 1; rw [Eng.i64_id (by omega) (by omega)]; omega) | (rw [Evt.depths_take hk0]; unfold Evt.dstep; first | (rw [if_pos h24]; done) | (rw [if_neg h24, if_pos h35]; done) | (rw [if_neg h24, if_neg h35]; done)) | (simp; done))), (h3_31.trans (by first | rfl | (congr 1; rw [Eng.i64_id (by omega) (by omega)]; omega) | (rw [Evt.depths_take hk0]; unfold Evt.dstep; first | (rw [if_pos h24]; done) | (rw [if_neg h24, if_pos h35]; done) | (rw [if_neg h24, if_neg h35]; done)) | (simp; done))), h6_31, h7_31, (h8_31.trans (by first | rfl | (congr 1; rw [Eng.i64_id (by omega) (by omega)]; omega) | (rw [Evt.depths_take hk0]; unfold Evt.dstep; first | (rw [if_pos h24]; done) | (rw [if_neg h24, if_pos h35]; done) | (rw [if_neg h24, if_neg h35]; done)) | (simp; done)))⟩
     ·
      have c19 := Bq21.symm.trans hq
      clear hq
      have h35_2 : ¬ (l.getD k default).kind = 5 := by have h := c19; simpa using h
      have h35 : ¬ ((l.getD k default).kind = 3 ∨ (l.getD k default).kind = 5) := fun h => h.elim h35_1 h35_2
      refine wp_skip ?_
      first | show Code.wp Tryz.prog _ _ _ _ | skip
      refine Eng.regionS (Eng.still [fun u_ => u_ = .int .i64 ((Evt.depths (List.take k l)).2), fun u_ => u_ = .int .i64 ((Evt.depths (List.take k l)).1), fun u_ => u_ = .int .i64 (mx ((Evt.depths (List.take k l)).2) ((Evt.depths (List.take k l)).1)), fun u_ => u_ = .int .i64 (mx ((Evt.depths (List.take k l)).2) ((Evt.depths (List.take k l)).1))]) (fun _ => .plain) 4 0 29 s27 rfl (by kernel_rfl) (Eng.still_stable _) (Or.inr (Eng.still_any _)) ?_ ?_
      ·refine .cons (fun _ => ?_) (.cons (fun _ => ?_) (.cons (fun _ => ?_) (.cons (fun _ => ?_) (.nil))))
       ·exact Eng.plain rfl rfl fun a w' H => Eng.vr rfl (Eng.run_move rfl ((H.kept 2 (by kernel_rfl)).trans h2_27))
       ·exact Eng.plain rfl rfl fun a w' H => Eng.vr rfl (Eng.run_move rfl ((H.kept 3 (by kernel_rfl)).trans h3_27))
       ·refine Eng.plain rfl rfl fun a w' H => ?_
        refine Eng.vr (v := .int .i64 (mx ((Evt.depths (List.take k l)).2) ((Evt.depths (List.take k l)).1))) rfl ?_
        have e0 : a.eval (.tmp 24) = .int .i64 ((Evt.depths (List.take k l)).2) := (H.dep 0 24 (by kernel_rfl) rfl)
        have e1 : a.eval (.tmp 25) = .int .i64 ((Evt.depths (List.take k l)).1) := (H.dep 1 25 (by kernel_rfl) rfl)
        simp only [execOp, resolve, List.map_toArray, List.map_cons, List.map_nil, e0, e1]
        go_simp
        all_goals first | rfl | (simp; done) | (rw [Bool.eq_iff_iff]; simp; done) | omega | (split <;> first | (simp_all; done) | (split <;> simp_all; done)) | skip
       ·exact Eng.plain rfl rfl fun a w' H => Eng.vr rfl (Eng.run_assign rfl (H.dep 2 26 (by kernel_rfl) rfl))
      intro act33 w33 T
      have h0_33 := (T.rest 0 (by kernel_rfl)).trans h0_27
      have h3_33 := (T.rest 3 (by kernel_rfl)).trans h3_27
      have h6_33 := (T.rest 6 (by kernel_rfl)).trans h6_27
      have h7_33 := (T.rest 7 (by kernel_rfl)).trans h7_27
      have h8_33 := (T.rest 8 (by kernel_rfl)).trans h8_27
      have h2_33 : act33.eval (.tmp 2) = .int .i64 (mx ((Evt.depths (List.take k l)).2) ((Evt.depths (List.take k l)).1)) := T.done 3 2 rfl rfl
      have d33 := T.defers.trans d27
      have s33 := T.size.trans s27
      have bl33 := bl27.trans (T.below.mono bl27.size)
      clear T
      refine Eng.tail_nil ?_
      first | show Code.wp Tryz.prog _ _ _ _ | skip
      refine Eng.regionS (Eng.still [fun u_ => u_ = .int .i64 (IntKind.i64.wrap ((k : Nat) + 1)), fun u_ => u_ = .int .i64 (IntKind.i64.wrap ((k : Nat) + 1))]) (fun _ => .plain) 2 0 29 s33 rfl (by kernel_rfl) (Eng.still_stable _) (Or.inr (Eng.still_any _)) ?_ ?_
      ·refine .cons (fun _ => ?_) (.cons (fun _ => ?_) (.nil))
       ·refine Eng.plain rfl rfl fun a w' H => ?_
        refine Eng.vr (v := .int .i64 (IntKind.i64.wrap ((k : Nat) + 1))) rfl ?_
        have e0 : a.eval (.tmp 8) = .int .i64 (k : Nat) := ((H.kept 8 (by kernel_rfl)).trans h8_33)
        have e1 : a.eval (.const (.int .i64 1)) = .int .i64 1 := (rfl : a.eval (.const (.int .i64 1)) = .int .i64 1)
        simp only [execOp, resolve, List.map_toArray, List.map_cons, List.map_nil, e0, e1]
        go_simp
        all_goals first | rfl | (simp; done) | (rw [Bool.eq_iff_iff]; simp; done) | omega | (split <;> first | (simp_all; done) | (split <;> simp_all; done)) | skip
       ·exact Eng.plain rfl rfl fun a w' H => Eng.vr rfl (Eng.run_move rfl (H.dep 0 27 (by kernel_rfl) rfl))
      intro act34 w34 T
      have h0_34 := (T.rest 0 (by kernel_rfl)).trans h0_33
      have h2_34 := (T.rest 2 (by kernel_rfl)).trans h2_33
      have h3_34 := (T.rest 3 (by kernel_rfl)).trans h3_33
      have h6_34 := (T.rest 6 (by kernel_rfl)).trans h6_33
      have h7_34 := (T.rest 7 (by kernel_rfl)).trans h7_33
      have h8_34 : act34.eval (.tmp 8) = .int .i64 (IntKind.i64.wrap ((k : Nat) + 1)) := T.done 1 8 rfl rfl
      have d34 := T.defers.trans d33
      have s34 := T.size.trans s33
      have bl34 := bl33.trans (T.below.mono bl33.size)
      clear T
      refine Eng.tail_nil ?_
      exact ⟨_, by omega, k + 1, rfl, by omega, d34, s34, bl34, h0_34, (h2_34.trans (by first | rfl | (congr 1; rw [Eng.i64_id (by omega) (by omega)]; omega) | (rw [Evt.depths_take hk0]; unfold Evt.dstep; first | (rw [if_pos h24]; done) | (rw [if_neg h24, if_pos h35]; done) | (rw [if_neg h24, if_neg h35]; done)) | (simp; done))), (h3_34.trans (by first | rfl | (congr 1; rw [Eng.i64_id (by omega) (by omega)]; omega) | (rw [Evt.depths_take hk0]; unfold Evt.dstep; first | (rw [if_pos h24]; done) | (rw [if_neg h24, if_pos h35]; done) | (rw [if_neg h24, if_neg h35]; done)) | (simp; done))), h6_34, h7_34, (h8_34.trans (by first | rfl | (congr 1; rw [Eng.i64_id (by omega) (by omega)]; omega) | (rw [Evt.depths_take hk0]; unfold Evt.dstep; first | (rw [if_pos h24]; done) | (rw [if_neg h24, if_pos h35]; done) | (rw [if_neg h24, if_neg h35]; done)) | (simp; done)))⟩
 ·
  have c9 := Bq9.symm.trans hq
  clear hq
  have c9 := of_decide_eq_false c9
  have hke : k = l.length := by omega
  refine wp_exit ?_
  first | show Code.wp Tryz.prog _ _ _ _ | skip
  first | show Code.wp Tryz.prog _ _ _ _ | skip
  refine wp_seq ?_
  refine Eng.regionS (Eng.still [fun u_ => u_ = .int .i64 ((Evt.depths (List.take k l)).2), fun u_ => u_ = .int .i64 ((Evt.depths (List.take k l)).2)]) (fun _ => .plain) 2 0 29 s5 rfl (by kernel_rfl) (Eng.still_stable _) (Or.inr (Eng.still_any _)) ?_ ?_
  ·refine .cons (fun _ => ?_) (.cons (fun _ => ?_) (.nil))
   ·exact Eng.plain rfl rfl fun a w' H => Eng.vr rfl (Eng.run_move rfl ((H.kept 2 (by kernel_rfl)).trans h2_5))
   ·exact Eng.plain rfl rfl fun a w' H => Eng.vr rfl (Eng.run_assign rfl (H.dep 0 28 (by kernel_rfl) rfl))
  intro act36 w36 T
  have h2_36 : act36.eval (.tmp 2) = .int .i64 ((Evt.depths (List.take k l)).2) := T.done 1 2 rfl rfl
  have d36 := T.defers.trans d5
  have bl36 := bl5.trans (T.below.mono bl5.size)
  clear T
  refine Eng.tail_nil ?_
  first | show Code.wp Tryz.prog _ _ _ _ | skip
  refine wp_ret ?_
  repeat (first | refine Eng.in_ret ?_ | refine Eng.then_ret ?_)
  exact Eng.ret1 rfl d36 (h2_36.trans (by rw [hke, List.take_length])) ⟨rfl, bl36⟩
end Go.Proofs.YtgnmjaacnmkgnaaGreatDoor.X
end
section
namespace Go.Proofs.YtgnmjaacnmkgnaaGreatDoor.X
open Go.RowKit Go.Shelf Go.Proofs Go.Proofs.YtgnmjaacnmkgnaaGreatDoorW.PrintWords Go.Proofs.YtgnmjaacnmkgnaaGreatDoorW.PrintLast Go.Proofs.YtgnmjaacnmkgnaaGreatDoorW.PrintMore
set_option linter.unusedVariables false
set_option linter.unusedSimpArgs false
attribute [local go_sem] max2_int min2_int max_two min_two
set_option maxHeartbeats 4000000 in
set_option maxRecDepth 100000 in
theorem Evt.Right_calls (v : Value) (l : List Evt.Ev) (w : World) (hT : Tabs.Holds w) (hl : Eng.Reads w v l.length 5 (Evt.cells l)) (hsz : ∀ k, k < l.length → (l.getD k default).text.size ≤ 9223372036854775807) (hlen : l.length ≤ 100000) : Calls Tryz.prog 12 #[v] w fun e w' => e = .returned (.bool (Evt.rightG Evt.rightE l)) ∧ Below w.heap.size w w' := by
 have hm := Eng.Reads.len_le hl
 refine Eng.enter Tryz.func12 rfl fun act0 d0 s0 v0 => ?_
 have s0 : act0.tmps.size = 35 := s0
 have h0_0 : act0.eval (.tmp 0) = v := v0 0 (by simp)
 clear v0
 have bl0 : Below w.heap.size w w := Below.refl _ _
 refine wp_seq ?_
 refine Eng.regionS (Eng.still [fun u_ => u_ = .bool false]) (fun _ => .plain) 1 0 35 s0 rfl (by kernel_rfl) (Eng.still_stable _) (Or.inr (Eng.still_any _)) ?_ ?_
 ·refine .cons (fun _ => ?_) (.nil)
  ·exact Eng.plain rfl rfl fun a w' H => Eng.vr rfl (Eng.run_assign rfl (rfl : a.eval (.const (.bool false)) = .bool false))
 intro act1 w1 T
 have h0_1 := (T.rest 0 (by kernel_rfl)).trans h0_0
 have Fl_1 := Eng.Reads.below hl T.below
 have d1 := T.defers.trans d0
 have s1 := T.size.trans s0
 have bl1 := bl0.trans (T.below.mono bl0.size)
 clear T
 refine Eng.tail_nil ?_
 first | show Code.wp Tryz.prog _ _ _ _ | skip
 refine wp_seq ?_
 refine Eng.regionT (n := 3) rfl ?_
 refine Eng.tail_val (w1 := w1) (v := .agg #[.slice none 0 0]) rfl rfl rfl ?_ s1 rfl ?_
 ·simp only [execOp, resolve, List.map_toArray, List.map_cons, List.map_nil]
  go_simp
  all_goals first | rfl | (simp; done) | (rw [Bool.eq_iff_iff]; simp; done) | omega | skip
 intro act2 d2 s2 hv hr
 have h0_2 := (hr 0 rfl).trans h0_1
 have h6_2 : act2.eval (.tmp 6) = .agg #[.slice none 0 0] := hv
 have d2 := d2.trans d1
 clear hv hr
 refine Eng.tail_ex rfl rfl rfl (Eng.box_ex (cs := #[.slice none 0 0]) rfl h6_2 (by rfl)) s2 rfl fun v_3 w3 act3 R d3 s3 hv hr => ?_
 obtain ⟨g7_3, ev_3, rg_3, lg7_3, kg7_3, b_3⟩ := R
 have h0_3 := (hr 0 rfl).trans h0_2
 have h7_3 : act3.eval (.tmp 7) = v_3 := hv
 have d3 := d3.trans d2
 clear hv hr
 have og7_3 : w.heap.size ≤ g7_3 := Nat.le_trans bl1.size rg_3
 have Fl_3 := Eng.Reads.below Fl_1 b_3
 have bl3 := bl1.trans (b_3.mono bl1.size)
 rw [ev_3] at h7_3
 refine Eng.tail_val rfl rfl rfl (Eng.run_assign rfl h7_3) s3 rfl fun act4 d4 s4 hv hr => ?_
 have h0_4 := (hr 0 rfl).trans h0_3
 have h3_4 : act4.eval (.tmp 3) = .pointer (some ⟨g7_3, 0, none⟩) := hv
 have d4 := d4.trans d3
 clear hv hr
 refine Eng.tail_nil ?_
 first | show Code.wp Tryz.prog _ _ _ _ | skip
 refine wp_seq ?_
 refine wp_seq ?_
 refine Eng.regionS (Eng.still [fun u_ => u_ = v, fun u_ => u_ = .int .i64 ((l.length : Nat) : Int), fun u_ => u_ = .int .i64 0]) (fun _ => .plain) 3 0 35 s4 rfl (by kernel_rfl) (Eng.still_stable _) (Or.inr (Eng.still_any _)) ?_ ?_
 ·refine .cons (fun _ => ?_) (.cons (fun _ => ?_) (.cons (fun _ => ?_) (.nil)))
  ·exact Eng.plain rfl rfl fun a w' H => Eng.vr rfl (Eng.run_move rfl ((H.kept 0 (by kernel_rfl)).trans h0_4))
  ·exact Eng.plain rfl rfl fun a w' H => Eng.vr (v := .int .i64 ((l.length : Nat) : Int)) rfl (Eng.run_len_sl rfl Tryz.underlying24 (show a.eval (.tmp 8) = v from (H.dep 0 8 (by kernel_rfl) rfl)) (Eng.Reads.below Fl_3 H.below))
  ·exact Eng.plain rfl rfl fun a w' H => Eng.vr rfl (Eng.run_move rfl (rfl : a.eval (.const (.int .i64 0)) = .int .i64 0))
 intro act5 w5 T
 have h0_5 := (T.rest 0 (by kernel_rfl)).trans h0_4
 have h3_5 := (T.rest 3 (by kernel_rfl)).trans h3_4
 have kg7_3_5 := (T.below.block _ lg7_3).trans kg7_3
 have lg7_3_5 := Nat.lt_of_lt_of_le lg7_3 T.below.size
 have h8_5 : act5.eval (.tmp 8) = v := T.done 0 8 rfl rfl
 have h9_5 : act5.eval (.tmp 9) = .int .i64 ((l.length : Nat) : Int) := T.done 1 9 rfl rfl
 have h10_5 : act5.eval (.tmp 10) = .int .i64 0 := T.done 2 10 rfl rfl
 have d5 := T.defers.trans d4
 have s5 := T.size.trans s4
 have bl5 := bl3.trans (T.below.mono bl3.size)
 clear T
 refine Eng.tail_nil ?_
 first | show Code.wp Tryz.prog _ _ _ _ | skip
 refine wp_block ?_
 refine Eng.loopN (fun n a w' => ∃ (k : Nat) (o : Value) (st : List (Int × Int)), l.length - k = n ∧ (k ≤ l.length) ∧ (Evt.rightR Evt.rightE [] l = Evt.rightR Evt.rightE st (List.drop k l)) ∧ (List.length st ≤ k) ∧ (∀ t ∈ st, 0 ≤ t.1) ∧ (w'.ownsRow w.heap.size 71 2 o (List.length st) (Evt.opens st)) ∧ a.defers = [] ∧ a.tmps.size = 35 ∧ Below w.heap.size w w' ∧ a.eval (.tmp 0) = v ∧ a.eval (.tmp 3) = .pointer (some ⟨g7_3, 0, none⟩) ∧ a.eval (.tmp 8) = v ∧ a.eval (.tmp 9) = .int .i64 ((l.length : Nat) : Int) ∧ a.eval (.tmp 10) = .int .i64 (k : Nat) ∧ w'.heap[g7_3]? = some (.cells (#[o]) 49 (0, 0)) ∧ g7_3 < w'.heap.size) (n0 := l.length - 0) ?_ ?_
 ·exact ⟨0, .slice none 0 0, [], rfl, by omega, rfl, by simp, by simp, World.ownsRow_nil _ _ _ _, d5, s5, bl5, h0_5, h3_5, h8_5, h9_5, (h10_5.trans (by first | rfl | (congr 1; rw [Eng.i64_id (by omega) (by omega)]; omega) | (simp; done))), (kg7_3_5.trans (by first | rfl | (simp; done))), lg7_3_5⟩
 rintro n act6 w6 ⟨k, o, st, rfl, hc0_6, hc1_6, hc2_6, hc3_6, hc4_6, d6, s6, bl6, h0_6, h3_6, h8_6, h9_6, h10_6, kg7_3_6, lg7_3_6⟩
 have Fl_6 := Eng.Reads.below hl bl6
 have hk1 := hc0_6
 have hinv := hc1_6
 have hlen := hc2_6
 have hpos := hc3_6
 have hgood0 : True := trivial
 have Fro_6 := Eng.Reads.of_own hc4_6
 refine wp_seq ?_
 obtain ⟨q11, Bq11⟩ : ∃ b : Bool, b = (decide ((k : Nat) < ((l.length : Nat) : Int))) := ⟨_, rfl⟩
 refine Eng.regionS (Eng.still [fun u_ => u_ = .bool q11]) (fun _ => .plain) 1 0 35 s6 rfl (by kernel_rfl) (Eng.still_stable _) (Or.inr (Eng.still_any _)) ?_ ?_
 ·refine .cons (fun _ => ?_) (.nil)
  ·refine Eng.plain rfl rfl fun a w' H => ?_
   refine Eng.vr (v := .bool (decide ((k : Nat) < ((l.length : Nat) : Int)))) (by show _ = Value.bool q11; rw [Bq11]) ?_
   have e0 : a.eval (.tmp 10) = .int .i64 (k : Nat) := ((H.kept 10 (by kernel_rfl)).trans h10_6)
   have e1 : a.eval (.tmp 9) = .int .i64 ((l.length : Nat) : Int) := ((H.kept 9 (by kernel_rfl)).trans h9_6)
   simp only [execOp, resolve, List.map_toArray, List.map_cons, List.map_nil, e0, e1]
   go_simp
   all_goals first | rfl | (simp; done) | (rw [Bool.eq_iff_iff]; simp; done) | omega | (split <;> first | (simp_all; done) | (split <;> simp_all; done)) | skip
 intro act7 w7 T
 have h0_7 := (T.rest 0 (by kernel_rfl)).trans h0_6
 have h3_7 := (T.rest 3 (by kernel_rfl)).trans h3_6
 have h8_7 := (T.rest 8 (by kernel_rfl)).trans h8_6
 have h9_7 := (T.rest 9 (by kernel_rfl)).trans h9_6
 have h10_7 := (T.rest 10 (by kernel_rfl)).trans h10_6
 have kg7_3_7 := (T.below.block _ lg7_3_6).trans kg7_3_6
 have lg7_3_7 := Nat.lt_of_lt_of_le lg7_3_6 T.below.size
 have Fl_7 := Eng.Reads.below Fl_6 T.below
 have Fro_7 := Eng.Reads.below Fro_6 T.below
 have Oro_7 := Eng.own_below hc4_6 T.below
 have h11_7 : act7.eval (.tmp 11) = .bool q11 := T.done 0 11 rfl rfl
 have d7 := T.defers.trans d6
 have s7 := T.size.trans s6
 have bl7 := bl6.trans (T.below.mono bl6.size)
 clear T
 refine Eng.tail_nil ?_
 first | show Code.wp Tryz.prog _ _ _ _ | skip
 refine wp_seq ?_
 refine wp_cond_split h11_7 (fun hq => ?_) (fun hq => ?_)
 ·
  have c11 := Bq11.symm.trans hq
  clear hq
  have c11 := of_decide_eq_true c11
  have hk0 : k < l.length := by omega
  refine wp_skip ?_
  first | show Code.wp Tryz.prog _ _ _ _ | skip
  refine wp_seq ?_
  refine wp_block ?_
  refine wp_seq ?_
  refine Eng.regionS (Eng.still [fun u_ => u_ = Eng.elemPtr v (k * 5), fun u_ => u_ = .agg #[.int .i64 ((l.getD k default).kind), .string ((l.getD k default).anchor), .string ((l.getD k default).tag), .string ((l.getD k default).text), .bool ((l.getD k default).plain)], fun u_ => True, fun u_ => True]) (fun i => ([.plain, .plain, .alloc 29 #[.int .i64 0, .string ⟨#[]⟩, .string ⟨#[]⟩, .string ⟨#[]⟩, .bool false], .store 2 #[.int .i64 ((l.getD k default).kind), .string ((l.getD k default).anchor), .string ((l.getD k default).tag), .string ((l.getD k default).text), .bool ((l.getD k default).plain)]] : List Eng.Kind).getD i .plain) 4 0 35 s7 rfl (by kernel_rfl) (Eng.still_stable _) (Or.inr (Eng.still_any _)) ?_ ?_
  ·refine .cons (fun _ => ?_) (.cons (fun _ => ?_) (.cons (fun _ => ?_) (.cons (fun _ => ?_) (.nil))))
   ·exact Eng.plain rfl rfl fun a w' H => Eng.vr (v := Eng.elemPtr v (k * 5)) rfl (Eng.run_index_sl rfl Tryz.underlying24 (by kernel_rfl) (show a.eval (.tmp 8) = v from ((H.kept 8 (by kernel_rfl)).trans h8_7)) ((show a.eval (.tmp 10) = .int .i64 (k : Nat) from ((H.kept 10 (by kernel_rfl)).trans h10_7)).trans (congrArg (Value.int _) (show (k : Nat) = ((k : Nat) : Int) from by omega))) (Eng.Reads.below Fl_7 H.below) (by omega) rfl)
   ·exact Eng.plain rfl rfl fun a w' H => Eng.vr (v := .agg #[.int .i64 ((l.getD k default).kind), .string ((l.getD k default).anchor), .string ((l.getD k default).tag), .string ((l.getD k default).text), .bool ((l.getD k default).plain)]) rfl (Eng.run_load_els [.int .i64 ((l.getD k default).kind), .string ((l.getD k default).anchor), .string ((l.getD k default).tag), .string ((l.getD k default).text), .bool ((l.getD k default).plain)] rfl (show a.eval (.tmp 12) = Eng.elemPtr v (k * 5) from (H.dep 0 12 (by kernel_rfl) rfl)) (Eng.Reads.below Fl_7 H.below) (Evt.cells_at l k (by omega)) rfl Tryz.underlying29 rfl (by kernel_rfl))
   ·refine Eng.made rfl (by simp) rfl (fun a w' hd ho => ?_) (fun _ _ => trivial)
    simp only [execOp]
    go_simp
   ·refine Eng.stored [.int .i64 ((l.getD k default).kind), .string ((l.getD k default).anchor), .string ((l.getD k default).tag), .string ((l.getD k default).text), .bool ((l.getD k default).plain)] rfl rfl rfl (j := 2) (d := 5) (by kernel_rfl) rfl rfl (Eng.store_uniq (by kernel_rfl)) rfl rfl fun a w' g e hc hd ho => ?_
    have e0 : a.eval _ = .agg #[.int .i64 ((l.getD k default).kind), .string ((l.getD k default).anchor), .string ((l.getD k default).tag), .string ((l.getD k default).text), .bool ((l.getD k default).plain)] := (hd 1 13 (by kernel_rfl) rfl)
    have z0 := (Eng.cells hc 0).trans rfl
    have z1 := (Eng.cells hc 1).trans rfl
    have z2 := (Eng.cells hc 2).trans rfl
    have z3 := (Eng.cells hc 3).trans rfl
    have z4 := (Eng.cells hc 4).trans rfl
    have f0 := Eng.unfrozen hc 0
    have f1 := Eng.unfrozen hc 1
    have f2 := Eng.unfrozen hc 2
    have f3 := Eng.unfrozen hc 3
    have f4 := Eng.unfrozen hc 4
    simp only [execOp, e, e0]
    go_simp
    rfl
  intro act9 w9 T
  have h0_9 := (T.rest 0 (by kernel_rfl)).trans h0_7
  have h3_9 := (T.rest 3 (by kernel_rfl)).trans h3_7
  have h8_9 := (T.rest 8 (by kernel_rfl)).trans h8_7
  have h9_9 := (T.rest 9 (by kernel_rfl)).trans h9_7
  have h10_9 := (T.rest 10 (by kernel_rfl)).trans h10_7
  have kg7_3_9 := (T.below.block _ lg7_3_7).trans kg7_3_7
  have lg7_3_9 := Nat.lt_of_lt_of_le lg7_3_7 T.below.size
  have Oro_9 := Eng.own_below Oro_7 T.below
  obtain ⟨g5_9, h5_9, rg5_9, lg5_9_9, kg5_9_9⟩ := T.st 2 5 3 _ _ _ rfl rfl rfl rfl rfl
  have d9 := T.defers.trans d7
  have s9 := T.size.trans s7
  have bl9 := bl7.trans (T.below.mono bl7.size)
  clear T
  refine Eng.tail_nil ?_
  first | show Code.wp Tryz.prog _ _ _ _ | skip
  refine wp_seq ?_
  refine (wpIn_wide (n := 1)).1 ?_
  refine EngI.regionT (n := 9) rfl ?_
  refine EngI.tail_val EngI.free_wide rfl rfl rfl rfl (Eng.run_load_all rfl h5_9 kg5_9_9 Tryz.underlying29 rfl (by kernel_rfl)) s9 rfl fun act10 d10 s10 hv hr => ?_
  have h0_10 := (hr 0 rfl).trans h0_9
  have h3_10 := (hr 3 rfl).trans h3_9
  have h5_10 := (hr 5 rfl).trans h5_9
  have h8_10 := (hr 8 rfl).trans h8_9
  have h9_10 := (hr 9 rfl).trans h9_9
  have h10_10 := (hr 10 rfl).trans h10_9
  have h14_10 : act10.eval (.tmp 14) = .agg #[.int .i64 ((l.getD k default).kind), .string ((l.getD k default).anchor), .string ((l.getD k default).tag), .string ((l.getD k default).text), .bool ((l.getD k default).plain)] := hv
  have d10 := d10.trans d9
  clear hv hr
  obtain ⟨q15, Bq15⟩ : ∃ b : Bool, b = (Evt.rightE (l.getD k default)) := ⟨_, rfl⟩
  refine EngI.tail_call EngI.free_wide Tryz.func25 (by kernel_rfl) (by kernel_rfl) rfl rfl rfl rfl #[.agg #[.int .i64 ((l.getD k default).kind), .string ((l.getD k default).anchor), .string ((l.getD k default).tag), .string ((l.getD k default).text), .bool ((l.getD k default).plain)]] (by have e0 : act10.eval (.tmp 14) = .agg #[.int .i64 ((l.getD k default).kind), .string ((l.getD k default).anchor), .string ((l.getD k default).tag), .string ((l.getD k default).text), .bool ((l.getD k default).plain)] := h14_10; simp only [List.map_toArray, List.map_cons, List.map_nil, e0]) s10 rfl (R := fun v w_ => v = .bool (Evt.rightE (l.getD k default)) ∧ Below w9.heap.size w9 w_) ((Evt.right_calls (l.getD k default) _ (Tabs.below (Tabs.below hT bl9) (Below.refl _ _)) (hsz k hk0)).mono ?_) fun v_11 w11 act11 R d11 s11 hv hr => ?_
  ·rintro e w_ ⟨rfl, hb⟩; exact ⟨_, rfl, rfl, hb⟩
  obtain ⟨ev_11, b_11⟩ := R
  have h0_11 := (hr 0 rfl).trans h0_10
  have h3_11 := (hr 3 rfl).trans h3_10
  have h5_11 := (hr 5 rfl).trans h5_10
  have h8_11 := (hr 8 rfl).trans h8_10
  have h9_11 := (hr 9 rfl).trans h9_10
  have h10_11 := (hr 10 rfl).trans h10_10
  have h15_11 : act11.eval (.tmp 15) = .bool q15 := (hv.trans ev_11).trans (congrArg Value.bool Bq15.symm)
  have d11 := d11.trans d10
  clear hv hr
  have kg7_3_11 := (b_11.block _ lg7_3_9).trans kg7_3_9
  have kg5_9_11 := (b_11.block _ lg5_9_9).trans kg5_9_9
  have Oro_11 := Eng.own_below Oro_9 b_11
  have bl11 := bl9.trans (b_11.mono bl9.size)
  refine EngI.tail_val EngI.free_wide rfl rfl rfl rfl (Eng.run_not rfl h15_11) s11 rfl fun act12 d12 s12 hv hr => ?_
  have h0_12 := (hr 0 rfl).trans h0_11
  have h3_12 := (hr 3 rfl).trans h3_11
  have h5_12 := (hr 5 rfl).trans h5_11
  have h8_12 := (hr 8 rfl).trans h8_11
  have h9_12 := (hr 9 rfl).trans h9_11
  have h10_12 := (hr 10 rfl).trans h10_11
  have h16_12 : act12.eval (.tmp 16) = .bool (!q15) := hv
  have d12 := d12.trans d11
  clear hv hr
  refine EngI.tail_val EngI.free_wide rfl rfl rfl rfl (Eng.run_move rfl h16_12) s12 rfl fun act13 d13 s13 hv hr => ?_
  have h0_13 := (hr 0 rfl).trans h0_12
  have h3_13 := (hr 3 rfl).trans h3_12
  have h5_13 := (hr 5 rfl).trans h5_12
  have h8_13 := (hr 8 rfl).trans h8_12
  have h9_13 := (hr 9 rfl).trans h9_12
  have h10_13 := (hr 10 rfl).trans h10_12
  have h16_13 := (hr 16 rfl).trans h16_12
  have h17_13 : act13.eval (.tmp 17) = .bool (!q15) := hv
  have d13 := d13.trans d12
  clear hv hr
  rcases Bool.eq_false_or_eq_true (!q15) with hq | hq
  ·
   have kn14 := hq
   have c17 := hq
   clear hq
   have h16_kn14 := h16_13.trans (congrArg Value.bool kn14)
   have h17_kn14 := h17_13.trans (congrArg Value.bool kn14)
   refine EngG.tail_off EngI.free_wide rfl (EngG.wanted_off (want := false) rfl rfl rfl (by rw [s13]; decide) h17_kn14) rfl s13 rfl fun act15 d15 s15 hr => ?_
   have h17_15 : act15.eval (.tmp 17) = .bool true := (hr 17 rfl).trans h17_kn14
   have d15 := d15.trans d13
   clear hr
   refine EngG.tail_off EngI.free_wide rfl (EngG.wanted_off (want := false) rfl rfl rfl (by rw [s15]; decide) h17_15) rfl s15 rfl fun act16 d16 s16 hr => ?_
   have h17_16 := (hr 17 rfl).trans h17_15
   have d16 := d16.trans d15
   clear hr
   refine EngG.tail_off EngI.free_wide rfl (EngG.wanted_off (want := false) rfl rfl rfl (by rw [s16]; decide) h17_16) rfl s16 rfl fun act17 d17 s17 hr => ?_
   have h17_17 := (hr 17 rfl).trans h17_16
   have d17 := d17.trans d16
   clear hr
   refine EngG.tail_off EngI.free_wide rfl (EngG.wanted_off (want := false) rfl rfl rfl (by rw [s17]; decide) h17_17) rfl s17 rfl fun act18 d18 s18 hr => ?_
   have h17_18 := (hr 17 rfl).trans h17_17
   have d18 := d18.trans d17
   clear hr
   refine EngI.tail_val EngI.free_wide rfl rfl rfl rfl (Eng.run_pick rfl h17_18 (v := .bool true) (by exact (rfl : act18.eval (.const (.bool true)) = .bool true))) s18 rfl fun act19 d19 s19 hv hr => ?_
   have h22_19 : act19.eval (.tmp 22) = .bool true := hv
   have d19 := d19.trans d18
   clear hv hr
   refine EngI.tail_nil ?_
   first | show Code.wp Tryz.prog _ _ _ _ | skip
   refine wp_cond_true h22_19 ?_
   refine wp_seq ?_
   refine Eng.regionS (Eng.still [fun u_ => u_ = .bool false]) (fun _ => .plain) 1 0 35 s19 rfl (by kernel_rfl) (Eng.still_stable _) (Or.inr (Eng.still_any _)) ?_ ?_
   ·refine .cons (fun _ => ?_) (.nil)
    ·exact Eng.plain rfl rfl fun a w' H => Eng.vr rfl (Eng.run_assign rfl (rfl : a.eval (.const (.bool false)) = .bool false))
   intro act20 w20 T
   have h2_20 : act20.eval (.tmp 2) = .bool false := T.done 0 2 rfl rfl
   have d20 := T.defers.trans d19
   have bl20 := bl11.trans (T.below.mono bl11.size)
   clear T
   refine Eng.tail_nil ?_
   first | show Code.wp Tryz.prog _ _ _ _ | skip
   refine wp_ret ?_
   repeat (first | refine Eng.in_ret ?_ | refine Eng.then_ret ?_)
   have hno : Evt.rightE (l.getD k default) = false := by have h := c17; rw [Bq15] at h; revert h; cases Evt.rightE (l.getD k default) <;> simp
   have fin : Evt.rightG Evt.rightE l = false := by unfold Evt.rightG; rw [hinv, Evt.rightR_bad hk0 hno, Bool.false_and]
   exact Eng.ret1 rfl d20 h2_20 ⟨by rw [fin], bl20⟩
  ·
   have kn21 := hq
   have c17 := hq
   clear hq
   have h16_kn21 := h16_13.trans (congrArg Value.bool kn21)
   have h17_kn21 := h17_13.trans (congrArg Value.bool kn21)
   refine EngG.tail_val EngI.free_wide rfl (EngG.wanted_on (want := false) rfl rfl rfl (by rw [s13]; decide) h17_kn21) rfl rfl (Eng.run_move rfl h3_13) s13 rfl fun act22 d22 s22 hv hr => ?_
   have h0_22 := (hr 0 rfl).trans h0_13
   have h3_22 := (hr 3 rfl).trans h3_13
   have h5_22 := (hr 5 rfl).trans h5_13
   have h8_22 := (hr 8 rfl).trans h8_13
   have h9_22 := (hr 9 rfl).trans h9_13
   have h10_22 := (hr 10 rfl).trans h10_13
   have h17_22 : act22.eval (.tmp 17) = .bool false := (hr 17 rfl).trans h17_kn21
   have h18_22 : act22.eval (.tmp 18) = .pointer (some ⟨g7_3, 0, none⟩) := hv
   have d22 := d22.trans d13
   clear hv hr
   refine EngG.tail_val EngI.free_wide rfl (EngG.wanted_on (want := false) rfl rfl rfl (by rw [s22]; decide) h17_22) rfl rfl (Eng.run_load_all rfl h5_22 kg5_9_11 Tryz.underlying29 rfl (by kernel_rfl)) s22 rfl fun act23 d23 s23 hv hr => ?_
   have h0_23 := (hr 0 rfl).trans h0_22
   have h3_23 := (hr 3 rfl).trans h3_22
   have h8_23 := (hr 8 rfl).trans h8_22
   have h9_23 := (hr 9 rfl).trans h9_22
   have h10_23 := (hr 10 rfl).trans h10_22
   have h17_23 := (hr 17 rfl).trans h17_22
   have h18_23 := (hr 18 rfl).trans h18_22
   have h19_23 : act23.eval (.tmp 19) = .agg #[.int .i64 ((l.getD k default).kind), .string ((l.getD k default).anchor), .string ((l.getD k default).tag), .string ((l.getD k default).text), .bool ((l.getD k default).plain)] := hv
   have d23 := d23.trans d22
   clear hv hr
   refine EngG.tail_call EngI.free_wide Tryz.func26 (by kernel_rfl) (by kernel_rfl) rfl (EngG.wanted_on (want := false) rfl rfl rfl (by rw [s23]; decide) h17_23) rfl rfl #[.pointer (some ⟨g7_3, 0, none⟩), .agg #[.int .i64 ((l.getD k default).kind), .string ((l.getD k default).anchor), .string ((l.getD k default).tag), .string ((l.getD k default).text), .bool ((l.getD k default).plain)]] (by have e0 : act23.eval (.tmp 18) = .pointer (some ⟨g7_3, 0, none⟩) := h18_23; have e1 : act23.eval (.tmp 19) = .agg #[.int .i64 ((l.getD k default).kind), .string ((l.getD k default).anchor), .string ((l.getD k default).tag), .string ((l.getD k default).text), .bool ((l.getD k default).plain)] := h19_23; simp only [List.map_toArray, List.map_cons, List.map_nil, e0, e1]) s23 rfl (R := fun v w' => v = .bool (Evt.takeF st ((l.getD k default).kind)).isSome ∧ Below w.heap.size w w' ∧ ∀ st', Evt.takeF st ((l.getD k default).kind) = some st' → ∃ o', Evt.Is w.heap.size w11 g7_3 o st' w' o') ((Evt.take_calls g7_3 o (l.getD k default) st w _ bl11 og7_3 kg7_3_11 Oro_11 (by omega) hpos).mono ?_) fun v_24 w24 act24 R d24 s24 hv hr => ?_
   ·rintro e w1 ⟨rfl, h1, h2⟩; exact ⟨_, rfl, rfl, h1, h2⟩
   have h0_24 := (hr 0 rfl).trans h0_23
   have h3_24 := (hr 3 rfl).trans h3_23
   have h8_24 := (hr 8 rfl).trans h8_23
   have h9_24 := (hr 9 rfl).trans h9_23
   have h10_24 := (hr 10 rfl).trans h10_23
   have h17_24 := (hr 17 rfl).trans h17_23
   have h20_24 : act24.eval (.tmp 20) = v_24 := hv
   have d24 := d24.trans d23
   clear hv hr
   obtain ⟨ev_24, bl24, hP24⟩ := R
   obtain ⟨q20, Bq20⟩ : ∃ b : Bool, b = (Evt.takeF st ((l.getD k default).kind)).isSome := ⟨_, rfl⟩
   rw [ev_24, ← Bq20] at h20_24
   refine EngG.tail_val EngI.free_wide rfl (EngG.wanted_on (want := false) rfl rfl rfl (by rw [s24]; decide) h17_24) rfl rfl (Eng.run_not rfl h20_24) s24 rfl fun act25 d25 s25 hv hr => ?_
   have h0_25 := (hr 0 rfl).trans h0_24
   have h3_25 := (hr 3 rfl).trans h3_24
   have h8_25 := (hr 8 rfl).trans h8_24
   have h9_25 := (hr 9 rfl).trans h9_24
   have h10_25 := (hr 10 rfl).trans h10_24
   have h17_25 := (hr 17 rfl).trans h17_24
   have h21_25 : act25.eval (.tmp 21) = .bool (!q20) := hv
   have d25 := d25.trans d24
   clear hv hr
   refine EngI.tail_val EngI.free_wide rfl rfl rfl rfl (Eng.run_pick rfl h17_25 (v := .bool (!q20)) (by exact h21_25)) s25 rfl fun act26 d26 s26 hv hr => ?_
   have h0_26 := (hr 0 rfl).trans h0_25
   have h3_26 := (hr 3 rfl).trans h3_25
   have h8_26 := (hr 8 rfl).trans h8_25
   have h9_26 := (hr 9 rfl).trans h9_25
   have h10_26 := (hr 10 rfl).trans h10_25
   have h22_26 : act26.eval (.tmp 22) = .bool (!q20) := hv
   have d26 := d26.trans d25
   clear hv hr
   refine EngI.tail_nil ?_
   first | show Code.wp Tryz.prog _ _ _ _ | skip
   refine wp_cond_split h22_26 (fun hq => ?_) (fun hq => ?_)
   ·
    have c22 := hq
    clear hq
    refine wp_seq ?_
    refine Eng.regionS (Eng.still [fun u_ => u_ = .bool false]) (fun _ => .plain) 1 0 35 s26 rfl (by kernel_rfl) (Eng.still_stable _) (Or.inr (Eng.still_any _)) ?_ ?_
    ·refine .cons (fun _ => ?_) (.nil)
     ·exact Eng.plain rfl rfl fun a w' H => Eng.vr rfl (Eng.run_assign rfl (rfl : a.eval (.const (.bool false)) = .bool false))
    intro act28 w28 T
    have h2_28 : act28.eval (.tmp 2) = .bool false := T.done 0 2 rfl rfl
    have d28 := T.defers.trans d26
    have bl28 := bl24.trans (T.below.mono bl24.size)
    clear T
    refine Eng.tail_nil ?_
    first | show Code.wp Tryz.prog _ _ _ _ | skip
    refine wp_ret ?_
    repeat (first | refine Eng.in_ret ?_ | refine Eng.then_ret ?_)
    have hn : Evt.takeF st (l.getD k default).kind = none := by rw [← Option.not_isSome_iff_eq_none, ← Bq20]; revert c22; cases q20 <;> simp
    have fin : Evt.rightG Evt.rightE l = false := by unfold Evt.rightG; rw [hinv, Evt.rightR_none hk0 hn, Bool.false_and]
    exact Eng.ret1 rfl d28 h2_28 ⟨by rw [fin], bl28⟩
   ·
    have c22 := hq
    clear hq
    obtain ⟨st2, hst2⟩ := Option.isSome_iff_exists.1 (show (Evt.takeF st ((l.getD k default).kind)).isSome = true from by rw [← Bq20]; revert c22; cases q20 <;> simp)
    obtain ⟨o2, I2⟩ := hP24 st2 hst2
    have hgood := Evt.take_good hst2 hpos
    have kg7_3_30 := I2.box
    have lg7_3_30 := (Array.getElem?_eq_some_iff.1 kg7_3_30).1
    have O2 := I2.own
    have F2 := Eng.Reads.of_own O2
    have hok : Evt.rightE (l.getD k default) = true := by have h := c17; rw [Bq15] at h; revert h; cases Evt.rightE (l.getD k default) <;> simp
    refine wp_skip ?_
    first | show Code.wp Tryz.prog _ _ _ _ | skip
    refine Eng.regionS (Eng.still [fun u_ => u_ = .int .i64 (IntKind.i64.wrap ((k : Nat) + 1)), fun u_ => u_ = .int .i64 (IntKind.i64.wrap ((k : Nat) + 1))]) (fun _ => .plain) 2 0 35 s26 rfl (by kernel_rfl) (Eng.still_stable _) (Or.inr (Eng.still_any _)) ?_ ?_
    ·refine .cons (fun _ => ?_) (.cons (fun _ => ?_) (.nil))
     ·refine Eng.plain rfl rfl fun a w' H => ?_
      refine Eng.vr (v := .int .i64 (IntKind.i64.wrap ((k : Nat) + 1))) rfl ?_
      have e0 : a.eval (.tmp 10) = .int .i64 (k : Nat) := ((H.kept 10 (by kernel_rfl)).trans h10_26)
      have e1 : a.eval (.const (.int .i64 1)) = .int .i64 1 := (rfl : a.eval (.const (.int .i64 1)) = .int .i64 1)
      simp only [execOp, resolve, List.map_toArray, List.map_cons, List.map_nil, e0, e1]
      go_simp
      all_goals first | rfl | (simp; done) | (rw [Bool.eq_iff_iff]; simp; done) | omega | (split <;> first | (simp_all; done) | (split <;> simp_all; done)) | skip
     ·exact Eng.plain rfl rfl fun a w' H => Eng.vr rfl (Eng.run_move rfl (H.dep 0 23 (by kernel_rfl) rfl))
    intro act31 w31 T
    have h0_31 := (T.rest 0 (by kernel_rfl)).trans h0_26
    have h3_31 := (T.rest 3 (by kernel_rfl)).trans h3_26
    have h8_31 := (T.rest 8 (by kernel_rfl)).trans h8_26
    have h9_31 := (T.rest 9 (by kernel_rfl)).trans h9_26
    have kg7_3_31 := (T.below.block _ lg7_3_30).trans kg7_3_30
    have lg7_3_31 := Nat.lt_of_lt_of_le lg7_3_30 T.below.size
    have Oro_31 := Eng.own_below O2 T.below
    have h10_31 : act31.eval (.tmp 10) = .int .i64 (IntKind.i64.wrap ((k : Nat) + 1)) := T.done 1 10 rfl rfl
    have d31 := T.defers.trans d26
    have s31 := T.size.trans s26
    have bl31 := bl24.trans (T.below.mono bl24.size)
    clear T
    refine Eng.tail_nil ?_
    exact ⟨_, by omega, k + 1, o2, st2, rfl, by omega, hinv.trans (Evt.rightR_go hk0 hok hst2), by omega, hgood.1, Oro_31, d31, s31, bl31, h0_31, h3_31, h8_31, h9_31, (h10_31.trans (by first | rfl | (congr 1; rw [Eng.i64_id (by omega) (by omega)]; omega) | (simp; done))), (kg7_3_31.trans (by first | rfl | (simp; done))), lg7_3_31⟩
 ·
  have c11 := Bq11.symm.trans hq
  clear hq
  have c11 := of_decide_eq_false c11
  have hke : k = l.length := by omega
  refine wp_exit ?_
  first | show Code.wp Tryz.prog _ _ _ _ | skip
  first | show Code.wp Tryz.prog _ _ _ _ | skip
  refine wp_seq ?_
  obtain ⟨q29, Bq29⟩ : ∃ b : Bool, b = (((st.length : Nat) : Int) == 0) := ⟨_, rfl⟩
  obtain ⟨q33, Bq33⟩ : ∃ b : Bool, b = (decide (((Evt.depths l).2) ≤ 40)) := ⟨_, rfl⟩
  obtain ⟨q34, Bq34⟩ : ∃ b : Bool, b = (q29 && q33) := ⟨_, rfl⟩
  refine Eng.regionS (Eng.still [fun u_ => u_ = .pointer (some ⟨g7_3, 0, none⟩), fun u_ => u_ = .pointer (some ⟨g7_3, 0, none⟩), fun u_ => u_ = .pointer (some ⟨g7_3, 0, none⟩), fun u_ => u_ = o, fun u_ => u_ = .int .i64 ((st.length : Nat) : Int), fun u_ => u_ = .bool q29, fun u_ => u_ = .bool q29, fun u_ => u_ = bif (q29 == true) then (v) else undef, fun u_ => u_ = bif (q29 == true) then (.int .i64 ((Evt.depths l).2)) else undef, fun u_ => u_ = bif (q29 == true) then (.bool q33) else undef, fun u_ => u_ = .bool q34, fun u_ => u_ = .bool q34]) (fun _ => .plain) 12 0 35 s7 rfl (by kernel_rfl) (Eng.still_stable _) (Or.inr (Eng.still_any _)) ?_ ?_
  ·refine .cons (fun _ => ?_) (.cons (fun _ => ?_) (.cons (fun _ => ?_) (.cons (fun _ => ?_) (.cons (fun _ => ?_) (.cons (fun _ => ?_) (.cons (fun _ => ?_) (.cons (fun _ => ?_) (.cons (fun _ => ?_) (.cons (fun _ => ?_) (.cons (fun _ => ?_) (.cons (fun _ => ?_) (.nil))))))))))))
   ·exact Eng.plain rfl rfl fun a w' H => Eng.vr rfl (Eng.run_move rfl ((H.kept 3 (by kernel_rfl)).trans h3_7))
   ·exact Eng.plain rfl rfl fun a w' H => Eng.vr rfl (Eng.run_nilb rfl (H.dep 0 24 (by kernel_rfl) rfl))
   ·exact Eng.plain rfl rfl fun a w' H => Eng.vr rfl (Eng.run_fieldb rfl Tryz.underlying49 0 (by kernel_rfl) (H.dep 1 25 (by kernel_rfl) rfl))
   ·exact Eng.plain rfl rfl fun a w' H => Eng.vr rfl (Eng.run_loadb rfl (H.dep 2 26 (by kernel_rfl) rfl) ((H.below.block _ lg7_3_7).trans kg7_3_7) rfl (by kernel_rfl))
   ·exact Eng.plain rfl rfl fun a w' H => Eng.vr (v := .int .i64 ((st.length : Nat) : Int)) rfl (Eng.run_len_sl rfl Tryz.underlying47 (show a.eval (.tmp 27) = o from (H.dep 3 27 (by kernel_rfl) rfl)) (Eng.Reads.below Fro_7 H.below))
   ·refine Eng.plain rfl rfl fun a w' H => ?_
    refine Eng.vr (v := .bool (((st.length : Nat) : Int) == 0)) (by show _ = Value.bool q29; rw [Bq29]) ?_
    have e0 : a.eval (.tmp 28) = .int .i64 ((st.length : Nat) : Int) := (H.dep 4 28 (by kernel_rfl) rfl)
    have e1 : a.eval (.const (.int .i64 0)) = .int .i64 0 := (rfl : a.eval (.const (.int .i64 0)) = .int .i64 0)
    simp only [execOp, resolve, List.map_toArray, List.map_cons, List.map_nil, e0, e1]
    go_simp
    all_goals first | rfl | (simp; done) | (rw [Bool.eq_iff_iff]; simp; done) | omega | (split <;> first | (simp_all; done) | (split <;> simp_all; done)) | skip
   ·exact Eng.plain rfl rfl fun a w' H => Eng.vr rfl (Eng.run_move rfl (H.dep 5 29 (by kernel_rfl) rfl))
   ·refine Eng.guarded1 (j := 6) (d := 30) (b := q29) rfl rfl (by kernel_rfl) rfl (fun v w h => h) (fun hG w => Eng.off hG) fun hG a w' H => ?_
    exact Eng.val (w1 := w') (v := v) (Eng.run_move rfl ((H.kept 0 (by kernel_rfl)).trans h0_7)) (Below.refl _ _) (Eng.off' hG rfl)
   ·refine Eng.guarded1 (j := 6) (d := 30) (b := q29) rfl rfl (by kernel_rfl) rfl (fun v w h => h) (fun hG w => Eng.off hG) fun hG a w' H => ?_
    refine Eng.call Tryz.func14 (by kernel_rfl) (by kernel_rfl) rfl #[v] ?_ ?_
    ·have e0 : a.eval (.tmp 31) = v := (Eng.on (H.dep 7 31 (by kernel_rfl) rfl) hG); simp only [List.map_toArray, List.map_cons, List.map_nil, e0]
    refine (Evt.depth_calls v l _ (Eng.Reads.below Fl_7 H.below)).mono ?_
    rintro e w'' ⟨rfl, hb⟩
    exact ⟨_, rfl, (Eng.off' hG rfl), hb⟩
   ·refine Eng.guarded1 (j := 6) (d := 30) (b := q29) rfl rfl (by kernel_rfl) rfl (fun v w h => h) (fun hG w => Eng.off hG) fun hG a w' H => ?_
    refine Eng.vr (v := .bool (decide (((Evt.depths l).2) ≤ 40))) (Eng.off' hG (by rw [Bq33])) ?_
    have e0 : a.eval (.tmp 32) = .int .i64 ((Evt.depths l).2) := (Eng.on (H.dep 8 32 (by kernel_rfl) rfl) hG)
    have e1 : a.eval (.const (.int .i64 40)) = .int .i64 40 := (rfl : a.eval (.const (.int .i64 40)) = .int .i64 40)
    simp only [execOp, resolve, List.map_toArray, List.map_cons, List.map_nil, e0, e1]
    go_simp
    all_goals first | rfl | (simp; done) | (rw [Bool.eq_iff_iff]; simp; done) | omega | (split <;> first | (simp_all; done) | (split <;> simp_all; done)) | skip
   ·exact Eng.plain rfl rfl fun a w' H => Eng.vr (v := .bool (q29 && q33)) (by show _ = Value.bool q34; rw [Bq34]) (Eng.run_and rfl rfl (G := true) (H.dep 6 30 (by kernel_rfl) rfl) (fun hb => (Eng.on (H.dep 9 33 (by kernel_rfl) rfl) (Eng.mk1 hb))))
   ·exact Eng.plain rfl rfl fun a w' H => Eng.vr rfl (Eng.run_assign rfl (H.dep 10 34 (by kernel_rfl) rfl))
  intro act33 w33 T
  have h2_33 : act33.eval (.tmp 2) = .bool q34 := T.done 11 2 rfl rfl
  have d33 := T.defers.trans d7
  have bl33 := bl7.trans (T.below.mono bl7.size)
  clear T
  refine Eng.tail_nil ?_
  first | show Code.wp Tryz.prog _ _ _ _ | skip
  refine wp_ret ?_
  repeat (first | refine Eng.in_ret ?_ | refine Eng.then_ret ?_)
  have fin : q34 = Evt.rightG Evt.rightE l := by
   simp only [Bq34, Bq33, Bq29, Bq11]
   unfold Evt.rightG; rw [hinv, Evt.rightR_end hke]; cases st <;> simp; try omega
  exact Eng.ret1 rfl d33 (h2_33.trans (congrArg Value.bool fin)) ⟨rfl, bl33⟩
end Go.Proofs.YtgnmjaacnmkgnaaGreatDoor.X
end
