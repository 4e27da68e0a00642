/- Words and walks that the row of ComposeNames needs: printed by programs, and plain laws. -/
import Derived.Test.YtgnmjaacnmkgnaaDoorM11
import Derived.Test.YtgnmjaacnmkgnaaDoorM3
namespace Go.Proofs.YtgnmjaacnmkgnaaDoorW.PrintWords
end Go.Proofs.YtgnmjaacnmkgnaaDoorW.PrintWords
namespace Go.Proofs.YtgnmjaacnmkgnaaDoorW.PrintLast
end Go.Proofs.YtgnmjaacnmkgnaaDoorW.PrintLast
namespace Go.Proofs.YtgnmjaacnmkgnaaDoorW.PrintMore
end Go.Proofs.YtgnmjaacnmkgnaaDoorW.PrintMore
section
namespace Go.Proofs.YtgnmjaacnmkgnaaDoor.X
open Go.RowKit Go.Shelf Go.Proofs Go.Proofs.YtgnmjaacnmkgnaaDoorW.PrintWords Go.Proofs.YtgnmjaacnmkgnaaDoorW.PrintLast Go.Proofs.YtgnmjaacnmkgnaaDoorW.PrintMore
set_option linter.unusedVariables false
set_option linter.unusedSimpArgs false
attribute [local go_sem] max2_int min2_int max_two min_two
set_option maxHeartbeats 4000000 in
set_option maxRecDepth 100000 in
theorem Evt.depth_calls (v : Value) (l : List Evt.Ev) (w : World) (hl : Eng.Reads w v l.length 5 (Evt.cells l)) : Calls Tryd.prog 37 #[v] w fun e w' => e = .returned (.int .i64 (Evt.depths l).2) ∧ Below w.heap.size w w' := by
 have hm := Eng.Reads.len_le hl
 refine Eng.enter Tryd.func37 rfl fun act0 d0 s0 v0 => ?_
 have s0 : act0.tmps.size = 29 := s0
 have h0_0 : act0.eval (.tmp 0) = v := v0 0 (by simp)
 clear v0
 have bl0 : Below w.heap.size w w := Below.refl _ _
 refine wp_seq ?_
 refine Eng.rS [.int .i64 0] (fun _ => .plain) 1 0 s0 ?_ ?_
 ·refine .c ?_ (.nil)
  ·exact Eng.pv fun a w' H => Eng.vr rfl (Eng.run_assign rfl (rfl : a.eval (.const (.int .i64 0)) = .int .i64 0))
 intro act1 w1 T
 have h0_1 := T.r1 h0_0
 have Fl_1 := T.f hl
 have h2_1 : act1.eval (.tmp 2) = .int .i64 0 := T.done 0 2 rfl rfl
 have d1 := T.e d0
 have s1 := T.z s0
 have bl1 := T.b bl0
 clear T
 refine Eng.tail_nil ?_
 refine wp_seq ?_
 refine Eng.rS [.int .i64 0] (fun _ => .plain) 1 0 s1 ?_ ?_
 ·refine .c ?_ (.nil)
  ·exact Eng.pv fun a w' H => Eng.vr rfl (Eng.run_assign rfl (rfl : a.eval (.const (.int .i64 0)) = .int .i64 0))
 intro act2 w2 T
 have ⟨h0_2, h2_2⟩ := T.r2 h0_1 h2_1
 have Fl_2 := T.f Fl_1
 have h3_2 : act2.eval (.tmp 3) = .int .i64 0 := T.done 0 3 rfl rfl
 have d2 := T.e d1
 have s2 := T.z s1
 have bl2 := T.b bl1
 clear T
 refine Eng.tail_nil ?_
 refine wp_seq ?_
 refine wp_seq ?_
 refine Eng.rS [v, .int .i64 ((l.length : Nat) : Int), .int .i64 0] (fun _ => .plain) 3 0 s2 ?_ ?_
 ·refine .c ?_ (.c ?_ (.c ?_ (.nil)))
  ·exact Eng.pv fun a w' H => Eng.vr rfl (Eng.run_move rfl (H.q 0 h0_2))
  ·exact Eng.pv fun a w' H => Eng.vr (v := .int .i64 ((l.length : Nat) : Int)) rfl (Eng.run_len_sl rfl Tryd.underlying37 (show a.eval (.tmp 6) = v from (H.d 0 6)) (Eng.Reads.below Fl_2 H.below))
  exact Eng.pv fun a w' H => Eng.vr rfl (Eng.run_move rfl (rfl : a.eval (.const (.int .i64 0)) = .int .i64 0))
 intro act3 w3 T
 have ⟨h0_3, h2_3, h3_3⟩ := T.r3 h0_2 h2_2 h3_2
 have h6_3 : act3.eval (.tmp 6) = v := T.done 0 6 rfl rfl
 have h7_3 : act3.eval (.tmp 7) = .int .i64 ((l.length : Nat) : Int) := T.done 1 7 rfl rfl
 have h8_3 : act3.eval (.tmp 8) = .int .i64 0 := T.done 2 8 rfl rfl
 have d3 := T.e d2
 have s3 := T.z s2
 have bl3 := T.b bl2
 clear T
 refine Eng.tail_nil ?_
 refine wp_block ?_
 refine Eng.loopN (fun n a w' => ∃ (k : Nat), l.length - k = n ∧ (k ≤ l.length) ∧ a.defers = [] ∧ a.tmps.size = 29 ∧ Below w.heap.size w w' ∧ a.eval (.tmp 0) = v ∧ a.eval (.tmp 2) = .int .i64 ((Evt.depths (List.take k l)).2) ∧ a.eval (.tmp 3) = .int .i64 ((Evt.depths (List.take k l)).1) ∧ a.eval (.tmp 6) = v ∧ a.eval (.tmp 7) = .int .i64 ((l.length : Nat) : Int) ∧ a.eval (.tmp 8) = .int .i64 (k : Nat)) (n0 := l.length - 0) ?_ ?_
 ·exact ⟨0, rfl, by omega, d3, s3, bl3, h0_3, (h2_3.trans (by first | rfl | (congr 1; rw [Eng.i64_id (by omega) (by omega)]; omega) | (rw [Evt.depths_take hk0]; unfold Evt.dstep; first | (rw [if_pos h24]; done) | (rw [if_neg h24, if_pos h35]; done) | (rw [if_neg h24, if_neg h35]; done)) | (simp; done))), (h3_3.trans (by first | rfl | (congr 1; rw [Eng.i64_id (by omega) (by omega)]; omega) | (rw [Evt.depths_take hk0]; unfold Evt.dstep; first | (rw [if_pos h24]; done) | (rw [if_neg h24, if_pos h35]; done) | (rw [if_neg h24, if_neg h35]; done)) | (simp; done))), h6_3, h7_3, (h8_3.trans (by first | rfl | (congr 1; rw [Eng.i64_id (by omega) (by omega)]; omega) | (rw [Evt.depths_take hk0]; unfold Evt.dstep; first | (rw [if_pos h24]; done) | (rw [if_neg h24, if_pos h35]; done) | (rw [if_neg h24, if_neg h35]; done)) | (simp; done)))⟩
 rintro n act4 w4 ⟨k, rfl, hc0_4, d4, s4, bl4, h0_4, h2_4, h3_4, h6_4, h7_4, h8_4⟩
 have Fl_4 := Eng.Reads.below hl bl4
 have hk1 := hc0_4
 refine wp_seq ?_
 obtain ⟨q9, Bq9⟩ : ∃ b : Bool, b = (decide ((k : Nat) < ((l.length : Nat) : Int))) := ⟨_, rfl⟩
 refine Eng.rS [.bool q9] (fun _ => .plain) 1 0 s4 ?_ ?_
 ·refine .c ?_ (.nil)
  ·refine Eng.pv fun a w' H => ?_
   refine Eng.vr (v := .bool (decide ((k : Nat) < ((l.length : Nat) : Int)))) (by show _ = Value.bool q9; rw [Bq9]) ?_
   have e0 := (H.q 8 h8_4)
   have e1 := (H.q 7 h7_4)
   simp only [execOp, resolve, List.map_toArray, List.map_cons, List.map_nil, e0, e1]
   go_simp
 intro act5 w5 T
 have ⟨h0_5, h2_5, h3_5, h6_5, h7_5, h8_5⟩ := T.r6 h0_4 h2_4 h3_4 h6_4 h7_4 h8_4
 have Fl_5 := T.f Fl_4
 have h9_5 : act5.eval (.tmp 9) = .bool q9 := T.done 0 9 rfl rfl
 have d5 := T.e d4
 have s5 := T.z s4
 have bl5 := T.b bl4
 clear T
 refine Eng.tail_nil ?_
 refine wp_seq ?_
 refine wp_cond_split h9_5 (fun hq => ?_) (fun hq => ?_)
 ·
  have c9 := Bq9.symm.trans hq
  clear hq
  have c9 := of_decide_eq_true c9
  have hk0 : k < l.length := by omega
  refine wp_skip ?_
  refine wp_seq ?_
  refine wp_block ?_
  refine wp_seq ?_
  refine Eng.regionS (Eng.still [fun u_ => u_ = Eng.elemPtr v (k * 5), fun u_ => u_ = .agg #[.int .i64 ((l.getD k default).kind), .string ((l.getD k default).anchor), .string ((l.getD k default).tag), .string ((l.getD k default).text), .bool ((l.getD k default).plain)], fun u_ => True, fun u_ => True]) (fun i => ([.plain, .plain, .alloc 30 #[.int .i64 0, .string ⟨#[]⟩, .string ⟨#[]⟩, .string ⟨#[]⟩, .bool false], .store 2 #[.int .i64 ((l.getD k default).kind), .string ((l.getD k default).anchor), .string ((l.getD k default).tag), .string ((l.getD k default).text), .bool ((l.getD k default).plain)]] : List Eng.Kind).getD i .plain) 4 0 29 s5 rfl (by kernel_rfl) (Eng.still_stable _) (Or.inr (Eng.still_any _)) ?_ ?_
  ·refine .c ?_ (.c ?_ (.c ?_ (.c ?_ (.nil))))
   ·exact Eng.pv fun a w' H => Eng.vr (v := Eng.elemPtr v (k * 5)) rfl (Eng.run_index_sl rfl Tryd.underlying37 (by kernel_rfl) (show a.eval (.tmp 6) = v from (H.q 6 h6_5)) ((show a.eval (.tmp 8) = .int .i64 (k : Nat) from (H.q 8 h8_5)).trans (congrArg (Value.int _) (show (k : Nat) = ((k : Nat) : Int) from by omega))) (Eng.Reads.below Fl_5 H.below) (by omega) rfl)
   ·exact Eng.pv fun a w' H => Eng.vr (v := .agg #[.int .i64 ((l.getD k default).kind), .string ((l.getD k default).anchor), .string ((l.getD k default).tag), .string ((l.getD k default).text), .bool ((l.getD k default).plain)]) rfl (Eng.run_load_els [.int .i64 ((l.getD k default).kind), .string ((l.getD k default).anchor), .string ((l.getD k default).tag), .string ((l.getD k default).text), .bool ((l.getD k default).plain)] rfl (show a.eval (.tmp 10) = Eng.elemPtr v (k * 5) from (H.d 0 10)) (Eng.Reads.below Fl_5 H.below) (Evt.cells_at l k (by omega)) rfl Tryd.underlying30 rfl (by kernel_rfl))
   ·refine Eng.made rfl (by simp) rfl (fun a w' hd ho => ?_) (fun _ _ => trivial)
    simp only [execOp]
    go_simp
   refine Eng.stored [.int .i64 ((l.getD k default).kind), .string ((l.getD k default).anchor), .string ((l.getD k default).tag), .string ((l.getD k default).text), .bool ((l.getD k default).plain)] rfl rfl rfl (j := 2) (d := 5) (by kernel_rfl) rfl rfl (Eng.store_uniq (by kernel_rfl)) rfl rfl fun a w' g e hc hd ho => ?_
   have e0 : a.eval _ = .agg #[.int .i64 ((l.getD k default).kind), .string ((l.getD k default).anchor), .string ((l.getD k default).tag), .string ((l.getD k default).text), .bool ((l.getD k default).plain)] := (hd 1 11 (by kernel_rfl) rfl)
   have z0 := (Eng.cells hc 0).trans rfl
   have z1 := (Eng.cells hc 1).trans rfl
   have z2 := (Eng.cells hc 2).trans rfl
   have z3 := (Eng.cells hc 3).trans rfl
   have z4 := (Eng.cells hc 4).trans rfl
   have f0 := Eng.unfrozen hc 0
   have f1 := Eng.unfrozen hc 1
   have f2 := Eng.unfrozen hc 2
   have f3 := Eng.unfrozen hc 3
   have f4 := Eng.unfrozen hc 4
   simp only [execOp, e, e0]
   go_simp
   rfl
  intro act7 w7 T
  have ⟨h0_7, h2_7, h3_7, h6_7, h7_7, h8_7⟩ := T.r6 h0_5 h2_5 h3_5 h6_5 h7_5 h8_5
  obtain ⟨g5_7, h5_7, rg5_7, lg5_7_7, kg5_7_7⟩ := T.st 2 5 3 _ _ _ rfl rfl rfl rfl rfl
  have d7 := T.e d5
  have s7 := T.z s5
  have bl7 := T.b bl5
  clear T
  refine Eng.tail_nil ?_
  refine wp_seq ?_
  refine wp_seq ?_
  refine Eng.rS [.pointer (some ⟨g5_7, 0, none⟩), .int .i64 ((l.getD k default).kind)] (fun _ => .plain) 2 0 s7 ?_ ?_
  ·refine .c ?_ (.c ?_ (.nil))
   ·exact Eng.pv fun a w' H => Eng.vr rfl (Eng.run_fieldb rfl Tryd.underlying30 0 (by kernel_rfl) (H.q 5 h5_7))
   exact Eng.pv fun a w' H => Eng.vr rfl (Eng.run_loadb rfl (H.d 0 12) ((H.below.block _ lg5_7_7).trans kg5_7_7) rfl (by kernel_rfl))
  intro act8 w8 T
  have ⟨h0_8, h2_8, h3_8, h6_8, h7_8, h8_8⟩ := T.r6 h0_7 h2_7 h3_7 h6_7 h7_7 h8_7
  have h13_8 : act8.eval (.tmp 13) = .int .i64 ((l.getD k default).kind) := T.done 1 13 rfl rfl
  have d8 := T.e d7
  have s8 := T.z s7
  have bl8 := T.b bl7
  clear T
  refine Eng.tail_nil ?_
  refine wp_block ?_
  refine wp_seq ?_
  refine wp_seq ?_
  obtain ⟨q15, Bq15⟩ : ∃ b : Bool, b = (((l.getD k default).kind) == 2) := ⟨_, rfl⟩
  refine Eng.rS [.bool q15, .bool q15] (fun _ => .plain) 2 0 s8 ?_ ?_
  ·refine .c ?_ (.c ?_ (.nil))
   ·refine Eng.pv fun a w' H => ?_
    refine Eng.vr (v := .bool (((l.getD k default).kind) == 2)) (by show _ = Value.bool q15; rw [Bq15]) ?_
    have e0 := (H.q 13 h13_8)
    have e1 : a.eval (.const (.int .i64 2)) = .int .i64 2 := rfl
    simp only [execOp, resolve, List.map_toArray, List.map_cons, List.map_nil, e0, e1]
    go_simp
   exact Eng.pv fun a w' H => Eng.vr rfl (Eng.run_assign rfl (H.d 0 15))
  intro act9 w9 T
  have ⟨h0_9, h2_9, h3_9, h6_9, h7_9, h8_9, h13_9⟩ := T.r7 h0_8 h2_8 h3_8 h6_8 h7_8 h8_8 h13_8
  have h14_9 : act9.eval (.tmp 14) = .bool q15 := T.done 1 14 rfl rfl
  have d9 := T.e d8
  have s9 := T.z s8
  have bl9 := T.b bl8
  clear T
  refine Eng.tail_nil ?_
  refine wp_cond_split h14_9 (fun hq => ?_) (fun hq => ?_)
  ·
   have kn10 := hq
   have c14 := Bq15.symm.trans hq
   clear hq
   have h24 : (l.getD k default).kind = 2 ∨ (l.getD k default).kind = 4 := Or.inl (by have h := c14; simpa using h)
   refine wp_skip ?_
   refine wp_cond_true (h14_9.trans (by rw [kn10])) ?_
   refine Eng.rS [.int .i64 ((Evt.depths (List.take k l)).1), .int .i64 (IntKind.i64.wrap (((Evt.depths (List.take k l)).1) + 1)), .int .i64 (IntKind.i64.wrap (((Evt.depths (List.take k l)).1) + 1))] (fun _ => .plain) 3 0 s9 ?_ ?_
   ·refine .c ?_ (.c ?_ (.c ?_ (.nil)))
    ·exact Eng.pv fun a w' H => Eng.vr rfl (Eng.run_move rfl (H.q 3 h3_9))
    ·refine Eng.pv fun a w' H => ?_
     refine Eng.vr (v := .int .i64 (IntKind.i64.wrap (((Evt.depths (List.take k l)).1) + 1))) rfl ?_
     have e0 : a.eval (.tmp 17) = .int .i64 ((Evt.depths (List.take k l)).1) := (H.d 0 17)
     have e1 : a.eval (.const (.int .i64 1)) = .int .i64 1 := rfl
     simp only [execOp, resolve, List.map_toArray, List.map_cons, List.map_nil, e0, e1]
     go_simp
    exact Eng.pv fun a w' H => Eng.vr rfl (Eng.run_assign rfl (H.d 1 18))
   intro act11 w11 T
   have ⟨h0_11, h2_11, h6_11, h7_11, h8_11⟩ := T.r5 h0_9 h2_9 h6_9 h7_9 h8_9
   have h3_11 : act11.eval (.tmp 3) = .int .i64 (IntKind.i64.wrap (((Evt.depths (List.take k l)).1) + 1)) := T.done 2 3 rfl rfl
   have d11 := T.e d9
   have s11 := T.z s9
   have bl11 := T.b bl9
   clear T
   refine Eng.tail_nil ?_
   refine Eng.rS [.int .i64 ((Evt.depths (List.take k l)).2), .int .i64 (IntKind.i64.wrap (((Evt.depths (List.take k l)).1) + 1)), .int .i64 (mx ((Evt.depths (List.take k l)).2) (IntKind.i64.wrap (((Evt.depths (List.take k l)).1) + 1))), .int .i64 (mx ((Evt.depths (List.take k l)).2) (IntKind.i64.wrap (((Evt.depths (List.take k l)).1) + 1)))] (fun _ => .plain) 4 0 s11 ?_ ?_
   ·refine .c ?_ (.c ?_ (.c ?_ (.c ?_ (.nil))))
    ·exact Eng.pv fun a w' H => Eng.vr rfl (Eng.run_move rfl (H.q 2 h2_11))
    ·exact Eng.pv fun a w' H => Eng.vr rfl (Eng.run_move rfl (H.q 3 h3_11))
    ·refine Eng.pv fun a w' H => ?_
     refine Eng.vr (v := .int .i64 (mx ((Evt.depths (List.take k l)).2) (IntKind.i64.wrap (((Evt.depths (List.take k l)).1) + 1)))) rfl ?_
     have e0 : a.eval (.tmp 24) = .int .i64 ((Evt.depths (List.take k l)).2) := (H.d 0 24)
     have e1 : a.eval (.tmp 25) = .int .i64 (IntKind.i64.wrap (((Evt.depths (List.take k l)).1) + 1)) := (H.d 1 25)
     simp only [execOp, resolve, List.map_toArray, List.map_cons, List.map_nil, e0, e1]
     go_simp
     all_goals first | rfl | (simp; done) | (rw [Bool.eq_iff_iff]; simp; done) | omega | (split <;> first | (simp_all; done) | (split <;> simp_all; done)) | skip
    exact Eng.pv fun a w' H => Eng.vr rfl (Eng.run_assign rfl (H.d 2 26))
   intro act12 w12 T
   have ⟨h0_12, h3_12, h6_12, h7_12, h8_12⟩ := T.r5 h0_11 h3_11 h6_11 h7_11 h8_11
   have h2_12 : act12.eval (.tmp 2) = .int .i64 (mx ((Evt.depths (List.take k l)).2) (IntKind.i64.wrap (((Evt.depths (List.take k l)).1) + 1))) := T.done 3 2 rfl rfl
   have d12 := T.e d11
   have s12 := T.z s11
   have bl12 := T.b bl11
   clear T
   refine Eng.tail_nil ?_
   refine Eng.rS [.int .i64 (IntKind.i64.wrap ((k : Nat) + 1)), .int .i64 (IntKind.i64.wrap ((k : Nat) + 1))] (fun _ => .plain) 2 0 s12 ?_ ?_
   ·refine .c ?_ (.c ?_ (.nil))
    ·refine Eng.pv fun a w' H => ?_
     refine Eng.vr (v := .int .i64 (IntKind.i64.wrap ((k : Nat) + 1))) rfl ?_
     have e0 := (H.q 8 h8_12)
     have e1 : a.eval (.const (.int .i64 1)) = .int .i64 1 := rfl
     simp only [execOp, resolve, List.map_toArray, List.map_cons, List.map_nil, e0, e1]
     go_simp
    exact Eng.pv fun a w' H => Eng.vr rfl (Eng.run_move rfl (H.d 0 27))
   intro act13 w13 T
   have ⟨h0_13, h2_13, h3_13, h6_13, h7_13⟩ := T.r5 h0_12 h2_12 h3_12 h6_12 h7_12
   have h8_13 : act13.eval (.tmp 8) = .int .i64 (IntKind.i64.wrap ((k : Nat) + 1)) := T.done 1 8 rfl rfl
   have d13 := T.e d12
   have s13 := T.z s12
   have bl13 := T.b bl12
   clear T
   refine Eng.tail_nil ?_
   exact ⟨_, by omega, k + 1, rfl, by omega, d13, s13, bl13, h0_13, (h2_13.trans (by first | rfl | (congr 1; rw [Eng.i64_id (by omega) (by omega)]; omega) | (rw [Evt.depths_take hk0]; unfold Evt.dstep; first | (rw [if_pos h24]; done) | (rw [if_neg h24, if_pos h35]; done) | (rw [if_neg h24, if_neg h35]; done)) | (simp; done))), (h3_13.trans (by first | rfl | (congr 1; rw [Eng.i64_id (by omega) (by omega)]; omega) | (rw [Evt.depths_take hk0]; unfold Evt.dstep; first | (rw [if_pos h24]; done) | (rw [if_neg h24, if_pos h35]; done) | (rw [if_neg h24, if_neg h35]; done)) | (simp; done))), h6_13, h7_13, (h8_13.trans (by first | rfl | (congr 1; rw [Eng.i64_id (by omega) (by omega)]; omega) | (rw [Evt.depths_take hk0]; unfold Evt.dstep; first | (rw [if_pos h24]; done) | (rw [if_neg h24, if_pos h35]; done) | (rw [if_neg h24, if_neg h35]; done)) | (simp; done)))⟩
  have c14 := Bq15.symm.trans hq
  clear hq
  have h24_1 : ¬ (l.getD k default).kind = 2 := by have h := c14; simpa using h
  obtain ⟨q16, Bq16⟩ : ∃ b : Bool, b = (((l.getD k default).kind) == 4) := ⟨_, rfl⟩
  refine Eng.rS [.bool q16, .bool q16] (fun _ => .plain) 2 0 s9 ?_ ?_
  ·refine .c ?_ (.c ?_ (.nil))
   ·refine Eng.pv fun a w' H => ?_
    refine Eng.vr (v := .bool (((l.getD k default).kind) == 4)) (by show _ = Value.bool q16; rw [Bq16]) ?_
    have e0 := (H.q 13 h13_9)
    have e1 : a.eval (.const (.int .i64 4)) = .int .i64 4 := rfl
    simp only [execOp, resolve, List.map_toArray, List.map_cons, List.map_nil, e0, e1]
    go_simp
   exact Eng.pv fun a w' H => Eng.vr rfl (Eng.run_assign rfl (H.d 0 16))
  intro act15 w15 T
  have ⟨h0_15, h2_15, h3_15, h6_15, h7_15, h8_15, h13_15⟩ := T.r7 h0_9 h2_9 h3_9 h6_9 h7_9 h8_9 h13_9
  have h14_15 : act15.eval (.tmp 14) = .bool q16 := T.done 1 14 rfl rfl
  have d15 := T.e d9
  have s15 := T.z s9
  have bl15 := T.b bl9
  clear T
  refine Eng.tail_nil ?_
  refine wp_cond_split h14_15 (fun hq => ?_) (fun hq => ?_)
  ·
   have c14 := Bq16.symm.trans hq
   clear hq
   have h24 : (l.getD k default).kind = 2 ∨ (l.getD k default).kind = 4 := Or.inr (by have h := c14; simpa using h)
   refine Eng.rS [.int .i64 ((Evt.depths (List.take k l)).1), .int .i64 (IntKind.i64.wrap (((Evt.depths (List.take k l)).1) + 1)), .int .i64 (IntKind.i64.wrap (((Evt.depths (List.take k l)).1) + 1))] (fun _ => .plain) 3 0 s15 ?_ ?_
   ·refine .c ?_ (.c ?_ (.c ?_ (.nil)))
    ·exact Eng.pv fun a w' H => Eng.vr rfl (Eng.run_move rfl (H.q 3 h3_15))
    ·refine Eng.pv fun a w' H => ?_
     refine Eng.vr (v := .int .i64 (IntKind.i64.wrap (((Evt.depths (List.take k l)).1) + 1))) rfl ?_
     have e0 : a.eval (.tmp 17) = .int .i64 ((Evt.depths (List.take k l)).1) := (H.d 0 17)
     have e1 : a.eval (.const (.int .i64 1)) = .int .i64 1 := rfl
     simp only [execOp, resolve, List.map_toArray, List.map_cons, List.map_nil, e0, e1]
     go_simp
    exact Eng.pv fun a w' H => Eng.vr rfl (Eng.run_assign rfl (H.d 1 18))
   intro act17 w17 T
   have ⟨h0_17, h2_17, h6_17, h7_17, h8_17⟩ := T.r5 h0_15 h2_15 h6_15 h7_15 h8_15
   have h3_17 : act17.eval (.tmp 3) = .int .i64 (IntKind.i64.wrap (((Evt.depths (List.take k l)).1) + 1)) := T.done 2 3 rfl rfl
   have d17 := T.e d15
   have s17 := T.z s15
   have bl17 := T.b bl15
   clear T
   refine Eng.tail_nil ?_
   refine Eng.rS [.int .i64 ((Evt.depths (List.take k l)).2), .int .i64 (IntKind.i64.wrap (((Evt.depths (List.take k l)).1) + 1)), .int .i64 (mx ((Evt.depths (List.take k l)).2) (IntKind.i64.wrap (((Evt.depths (List.take k l)).1) + 1))), .int .i64 (mx ((Evt.depths (List.take k l)).2) (IntKind.i64.wrap (((Evt.depths (List.take k l)).1) + 1)))] (fun _ => .plain) 4 0 s17 ?_ ?_
   ·refine .c ?_ (.c ?_ (.c ?_ (.c ?_ (.nil))))
    ·exact Eng.pv fun a w' H => Eng.vr rfl (Eng.run_move rfl (H.q 2 h2_17))
    ·exact Eng.pv fun a w' H => Eng.vr rfl (Eng.run_move rfl (H.q 3 h3_17))
    ·refine Eng.pv fun a w' H => ?_
     refine Eng.vr (v := .int .i64 (mx ((Evt.depths (List.take k l)).2) (IntKind.i64.wrap (((Evt.depths (List.take k l)).1) + 1)))) rfl ?_
     have e0 : a.eval (.tmp 24) = .int .i64 ((Evt.depths (List.take k l)).2) := (H.d 0 24)
     have e1 : a.eval (.tmp 25) = .int .i64 (IntKind.i64.wrap (((Evt.depths (List.take k l)).1) + 1)) := (H.d 1 25)
     simp only [execOp, resolve, List.map_toArray, List.map_cons, List.map_nil, e0, e1]
     go_simp
     all_goals first | rfl | (simp; done) | (rw [Bool.eq_iff_iff]; simp; done) | omega | (split <;> first | (simp_all; done) | (split <;> simp_all; done)) | skip
    exact Eng.pv fun a w' H => Eng.vr rfl (Eng.run_assign rfl (H.d 2 26))
   intro act18 w18 T
   have ⟨h0_18, h3_18, h6_18, h7_18, h8_18⟩ := T.r5 h0_17 h3_17 h6_17 h7_17 h8_17
   have h2_18 : act18.eval (.tmp 2) = .int .i64 (mx ((Evt.depths (List.take k l)).2) (IntKind.i64.wrap (((Evt.depths (List.take k l)).1) + 1))) := T.done 3 2 rfl rfl
   have d18 := T.e d17
   have s18 := T.z s17
   have bl18 := T.b bl17
   clear T
   refine Eng.tail_nil ?_
   refine Eng.rS [.int .i64 (IntKind.i64.wrap ((k : Nat) + 1)), .int .i64 (IntKind.i64.wrap ((k : Nat) + 1))] (fun _ => .plain) 2 0 s18 ?_ ?_
   ·refine .c ?_ (.c ?_ (.nil))
    ·refine Eng.pv fun a w' H => ?_
     refine Eng.vr (v := .int .i64 (IntKind.i64.wrap ((k : Nat) + 1))) rfl ?_
     have e0 := (H.q 8 h8_18)
     have e1 : a.eval (.const (.int .i64 1)) = .int .i64 1 := rfl
     simp only [execOp, resolve, List.map_toArray, List.map_cons, List.map_nil, e0, e1]
     go_simp
    exact Eng.pv fun a w' H => Eng.vr rfl (Eng.run_move rfl (H.d 0 27))
   intro act19 w19 T
   have ⟨h0_19, h2_19, h3_19, h6_19, h7_19⟩ := T.r5 h0_18 h2_18 h3_18 h6_18 h7_18
   have h8_19 : act19.eval (.tmp 8) = .int .i64 (IntKind.i64.wrap ((k : Nat) + 1)) := T.done 1 8 rfl rfl
   have d19 := T.e d18
   have s19 := T.z s18
   have bl19 := T.b bl18
   clear T
   refine Eng.tail_nil ?_
   exact ⟨_, by omega, k + 1, rfl, by omega, d19, s19, bl19, h0_19, (h2_19.trans (by first | rfl | (congr 1; rw [Eng.i64_id (by omega) (by omega)]; omega) | (rw [Evt.depths_take hk0]; unfold Evt.dstep; first | (rw [if_pos h24]; done) | (rw [if_neg h24, if_pos h35]; done) | (rw [if_neg h24, if_neg h35]; done)) | (simp; done))), (h3_19.trans (by first | rfl | (congr 1; rw [Eng.i64_id (by omega) (by omega)]; omega) | (rw [Evt.depths_take hk0]; unfold Evt.dstep; first | (rw [if_pos h24]; done) | (rw [if_neg h24, if_pos h35]; done) | (rw [if_neg h24, if_neg h35]; done)) | (simp; done))), h6_19, h7_19, (h8_19.trans (by first | rfl | (congr 1; rw [Eng.i64_id (by omega) (by omega)]; omega) | (rw [Evt.depths_take hk0]; unfold Evt.dstep; first | (rw [if_pos h24]; done) | (rw [if_neg h24, if_pos h35]; done) | (rw [if_neg h24, if_neg h35]; done)) | (simp; done)))⟩
  have c14 := Bq16.symm.trans hq
  clear hq
  have h24_2 : ¬ (l.getD k default).kind = 4 := by have h := c14; simpa using h
  have h24 : ¬ ((l.getD k default).kind = 2 ∨ (l.getD k default).kind = 4) := fun h => h.elim h24_1 h24_2
  refine wp_seq ?_
  refine wp_seq ?_
  obtain ⟨q20, Bq20⟩ : ∃ b : Bool, b = (((l.getD k default).kind) == 3) := ⟨_, rfl⟩
  refine Eng.rS [.bool q20, .bool q20] (fun _ => .plain) 2 0 s15 ?_ ?_
  ·refine .c ?_ (.c ?_ (.nil))
   ·refine Eng.pv fun a w' H => ?_
    refine Eng.vr (v := .bool (((l.getD k default).kind) == 3)) (by show _ = Value.bool q20; rw [Bq20]) ?_
    have e0 := (H.q 13 h13_15)
    have e1 : a.eval (.const (.int .i64 3)) = .int .i64 3 := rfl
    simp only [execOp, resolve, List.map_toArray, List.map_cons, List.map_nil, e0, e1]
    go_simp
   exact Eng.pv fun a w' H => Eng.vr rfl (Eng.run_assign rfl (H.d 0 20))
  intro act21 w21 T
  have ⟨h0_21, h2_21, h3_21, h6_21, h7_21, h8_21, h13_21⟩ := T.r7 h0_15 h2_15 h3_15 h6_15 h7_15 h8_15 h13_15
  have h19_21 : act21.eval (.tmp 19) = .bool q20 := T.done 1 19 rfl rfl
  have d21 := T.e d15
  have s21 := T.z s15
  have bl21 := T.b bl15
  clear T
  refine Eng.tail_nil ?_
  refine wp_cond_split h19_21 (fun hq => ?_) (fun hq => ?_)
  ·
   have kn22 := hq
   have c19 := Bq20.symm.trans hq
   clear hq
   have h35 : (l.getD k default).kind = 3 ∨ (l.getD k default).kind = 5 := Or.inl (by have h := c19; simpa using h)
   refine wp_skip ?_
   refine wp_cond_true (h19_21.trans (by rw [kn22])) ?_
   refine Eng.rS [.int .i64 ((Evt.depths (List.take k l)).1), .int .i64 (IntKind.i64.wrap (((Evt.depths (List.take k l)).1) - 1)), .int .i64 (IntKind.i64.wrap (((Evt.depths (List.take k l)).1) - 1))] (fun _ => .plain) 3 0 s21 ?_ ?_
   ·refine .c ?_ (.c ?_ (.c ?_ (.nil)))
    ·exact Eng.pv fun a w' H => Eng.vr rfl (Eng.run_move rfl (H.q 3 h3_21))
    ·refine Eng.pv fun a w' H => ?_
     refine Eng.vr (v := .int .i64 (IntKind.i64.wrap (((Evt.depths (List.take k l)).1) - 1))) rfl ?_
     have e0 : a.eval (.tmp 22) = .int .i64 ((Evt.depths (List.take k l)).1) := (H.d 0 22)
     have e1 : a.eval (.const (.int .i64 1)) = .int .i64 1 := rfl
     simp only [execOp, resolve, List.map_toArray, List.map_cons, List.map_nil, e0, e1]
     go_simp
    exact Eng.pv fun a w' H => Eng.vr rfl (Eng.run_assign rfl (H.d 1 23))
   intro act23 w23 T
   have ⟨h0_23, h2_23, h6_23, h7_23, h8_23⟩ := T.r5 h0_21 h2_21 h6_21 h7_21 h8_21
   have h3_23 : act23.eval (.tmp 3) = .int .i64 (IntKind.i64.wrap (((Evt.depths (List.take k l)).1) - 1)) := T.done 2 3 rfl rfl
   have d23 := T.e d21
   have s23 := T.z s21
   have bl23 := T.b bl21
   clear T
   refine Eng.tail_nil ?_
   refine Eng.rS [.int .i64 ((Evt.depths (List.take k l)).2), .int .i64 (IntKind.i64.wrap (((Evt.depths (List.take k l)).1) - 1)), .int .i64 (mx ((Evt.depths (List.take k l)).2) (IntKind.i64.wrap (((Evt.depths (List.take k l)).1) - 1))), .int .i64 (mx ((Evt.depths (List.take k l)).2) (IntKind.i64.wrap (((Evt.depths (List.take k l)).1) - 1)))] (fun _ => .plain) 4 0 s23 ?_ ?_
   ·refine .c ?_ (.c ?_ (.c ?_ (.c ?_ (.nil))))
    ·exact Eng.pv fun a w' H => Eng.vr rfl (Eng.run_move rfl (H.q 2 h2_23))
    ·exact Eng.pv fun a w' H => Eng.vr rfl (Eng.run_move rfl (H.q 3 h3_23))
    ·refine Eng.pv fun a w' H => ?_
     refine Eng.vr (v := .int .i64 (mx ((Evt.depths (List.take k l)).2) (IntKind.i64.wrap (((Evt.depths (List.take k l)).1) - 1)))) rfl ?_
     have e0 : a.eval (.tmp 24) = .int .i64 ((Evt.depths (List.take k l)).2) := (H.d 0 24)
     have e1 : a.eval (.tmp 25) = .int .i64 (IntKind.i64.wrap (((Evt.depths (List.take k l)).1) - 1)) := (H.d 1 25)
     simp only [execOp, resolve, List.map_toArray, List.map_cons, List.map_nil, e0, e1]
     go_simp
     all_goals first | rfl | (simp; done) | (rw [Bool.eq_iff_iff]; simp; done) | omega | (split <;> first | (simp_all; done) | (split <;> simp_all; done)) | skip
    exact Eng.pv fun a w' H => Eng.vr rfl (Eng.run_assign rfl (H.d 2 26))
   intro act24 w24 T
   have ⟨h0_24, h3_24, h6_24, h7_24, h8_24⟩ := T.r5 h0_23 h3_23 h6_23 h7_23 h8_23
   have h2_24 : act24.eval (.tmp 2) = .int .i64 (mx ((Evt.depths (List.take k l)).2) (IntKind.i64.wrap (((Evt.depths (List.take k l)).1) - 1))) := T.done 3 2 rfl rfl
   have d24 := T.e d23
   have s24 := T.z s23
   have bl24 := T.b bl23
   clear T
   refine Eng.tail_nil ?_
   refine Eng.rS [.int .i64 (IntKind.i64.wrap ((k : Nat) + 1)), .int .i64 (IntKind.i64.wrap ((k : Nat) + 1))] (fun _ => .plain) 2 0 s24 ?_ ?_
   ·refine .c ?_ (.c ?_ (.nil))
    ·refine Eng.pv fun a w' H => ?_
     refine Eng.vr (v := .int .i64 (IntKind.i64.wrap ((k : Nat) + 1))) rfl ?_
     have e0 := (H.q 8 h8_24)
     have e1 : a.eval (.const (.int .i64 1)) = .int .i64 1 := rfl
     simp only [execOp, resolve, List.map_toArray, List.map_cons, List.map_nil, e0, e1]
     go_simp
    exact Eng.pv fun a w' H => Eng.vr rfl (Eng.run_move rfl (H.d 0 27))
   intro act25 w25 T
   have ⟨h0_25, h2_25, h3_25, h6_25, h7_25⟩ := T.r5 h0_24 h2_24 h3_24 h6_24 h7_24
   have h8_25 : act25.eval (.tmp 8) = .int .i64 (IntKind.i64.wrap ((k : Nat) + 1)) := T.done 1 8 rfl rfl
   have d25 := T.e d24
   have s25 := T.z s24
   have bl25 := T.b bl24
   clear T
   refine Eng.tail_nil ?_
   exact ⟨_, by omega, k + 1, rfl, by omega, d25, s25, bl25, h0_25, (h2_25.trans (by first | rfl | (congr 1; rw [Eng.i64_id (by omega) (by omega)]; omega) | (rw [Evt.depths_take hk0]; unfold Evt.dstep; first | (rw [if_pos h24]; done) | (rw [if_neg h24, if_pos h35]; done) | (rw [if_neg h24, if_neg h35]; done)) | (simp; done))), (h3_25.trans (by first | rfl | (congr 1; rw [Eng.i64_id (by omega) (by omega)]; omega) | (rw [Evt.depths_take hk0]; unfold Evt.dstep; first | (rw [if_pos h24]; done) | (rw [if_neg h24, if_pos h35]; done) | (rw [if_neg h24, if_neg h35]; done)) | (simp; done))), h6_25, h7_25, (h8_25.trans (by first | rfl | (congr 1; rw [Eng.i64_id (by omega) (by omega)]; omega) | (rw [Evt.depths_take hk0]; unfold Evt.dstep; first | (rw [if_pos h24]; done) | (rw [if_neg h24, if_pos h35]; done) | (rw [if_neg h24, if_neg h35]; done)) | (simp; done)))⟩
  have c19 := Bq20.symm.trans hq
  clear hq
  have h35_1 : ¬ (l.getD k default).kind = 3 := by have h := c19; simpa using h
  obtain ⟨q21, Bq21⟩ : ∃ b : Bool, b = (((l.getD k default).kind) == 5) := ⟨_, rfl⟩
  refine Eng.rS [.bool q21, .bool q21] (fun _ => .plain) 2 0 s21 ?_ ?_
  ·refine .c ?_ (.c ?_ (.nil))
   ·refine Eng.pv fun a w' H => ?_
    refine Eng.vr (v := .bool (((l.getD k default).kind) == 5)) (by show _ = Value.bool q21; rw [Bq21]) ?_
    have e0 := (H.q 13 h13_21)
    have e1 : a.eval (.const (.int .i64 5)) = .int .i64 5 := rfl
    simp only [execOp, resolve, List.map_toArray, List.map_cons, List.map_nil, e0, e1]
    go_simp
   exact Eng.pv fun a w' H => Eng.vr rfl (Eng.run_assign rfl (H.d 0 21))
  intro act27 w27 T
  have ⟨h0_27, h2_27, h3_27, h6_27, h7_27, h8_27⟩ := T.r6 h0_21 h2_21 h3_21 h6_21 h7_21 h8_21
  have h19_27 : act27.eval (.tmp 19) = .bool q21 := T.done 1 19 rfl rfl
  have d27 := T.e d21
  have s27 := T.z s21
  have bl27 := T.b bl21
  clear T
  refine Eng.tail_nil ?_
  refine wp_cond_split h19_27 (fun hq => ?_) (fun hq => ?_)
  ·
   have c19 := Bq21.symm.trans hq
   clear hq
   have h35 : (l.getD k default).kind = 3 ∨ (l.getD k default).kind = 5 := Or.inr (by have h := c19; simpa using h)
   refine Eng.rS [.int .i64 ((Evt.depths (List.take k l)).1), .int .i64 (IntKind.i64.wrap (((Evt.depths (List.take k l)).1) - 1)), .int .i64 (IntKind.i64.wrap (((Evt.depths (List.take k l)).1) - 1))] (fun _ => .plain) 3 0 s27 ?_ ?_
   ·refine .c ?_ (.c ?_ (.c ?_ (.nil)))
    ·exact Eng.pv fun a w' H => Eng.vr rfl (Eng.run_move rfl (H.q 3 h3_27))
    ·refine Eng.pv fun a w' H => ?_
     refine Eng.vr (v := .int .i64 (IntKind.i64.wrap (((Evt.depths (List.take k l)).1) - 1))) rfl ?_
     have e0 : a.eval (.tmp 22) = .int .i64 ((Evt.depths (List.take k l)).1) := (H.d 0 22)
     have e1 : a.eval (.const (.int .i64 1)) = .int .i64 1 := rfl
     simp only [execOp, resolve, List.map_toArray, List.map_cons, List.map_nil, e0, e1]
     go_simp
    exact Eng.pv fun a w' H => Eng.vr rfl (Eng.run_assign rfl (H.d 1 23))
   intro act29 w29 T
   have ⟨h0_29, h2_29, h6_29, h7_29, h8_29⟩ := T.r5 h0_27 h2_27 h6_27 h7_27 h8_27
   have h3_29 : act29.eval (.tmp 3) = .int .i64 (IntKind.i64.wrap (((Evt.depths (List.take k l)).1) - 1)) := T.done 2 3 rfl rfl
   have d29 := T.e d27
   have s29 := T.z s27
   have bl29 := T.b bl27
   clear T
   refine Eng.tail_nil ?_
   refine Eng.rS [.int .i64 ((Evt.depths (List.take k l)).2), .int .i64 (IntKind.i64.wrap (((Evt.depths (List.take k l)).1) - 1)), .int .i64 (mx ((Evt.depths (List.take k l)).2) (IntKind.i64.wrap (((Evt.depths (List.take k l)).1) - 1))), .int .i64 (mx ((Evt.depths (List.take k l)).2) (IntKind.i64.wrap (((Evt.depths (List.take k l)).1) - 1)))] (fun _ => .plain) 4 0 s29 ?_ ?_
   ·refine .c ?_ (.c ?_ (.c ?_ (.c ?_ (.nil))))
    ·exact Eng.pv fun a w' H => Eng.vr rfl (Eng.run_move rfl (H.q 2 h2_29))
    ·exact Eng.pv fun a w' H => Eng.vr rfl (Eng.run_move rfl (H.q 3 h3_29))
    ·refine Eng.pv fun a w' H => ?_
     refine Eng.vr (v := .int .i64 (mx ((Evt.depths (List.take k l)).2) (IntKind.i64.wrap (((Evt.depths (List.take k l)).1) - 1)))) rfl ?_
     have e0 : a.eval (.tmp 24) = .int .i64 ((Evt.depths (List.take k l)).2) := (H.d 0 24)
     have e1 : a.eval (.tmp 25) = .int .i64 (IntKind.i64.wrap (((Evt.depths (List.take k l)).1) - 1)) := (H.d 1 25)
     simp only [execOp, resolve, List.map_toArray, List.map_cons, List.map_nil, e0, e1]
     go_simp
     all_goals first | rfl | (simp; done) | (rw [Bool.eq_iff_iff]; simp; done) | omega | (split <;> first | (simp_all; done) | (split <;> simp_all; done)) | skip
    exact Eng.pv fun a w' H => Eng.vr rfl (Eng.run_assign rfl (H.d 2 26))
   intro act30 w30 T
   have ⟨h0_30, h3_30, h6_30, h7_30, h8_30⟩ := T.r5 h0_29 h3_29 h6_29 h7_29 h8_29
   have h2_30 : act30.eval (.tmp 2) = .int .i64 (mx ((Evt.depths (List.take k l)).2) (IntKind.i64.wrap (((Evt.depths (List.take k l)).1) - 1))) := T.done 3 2 rfl rfl
   have d30 := T.e d29
   have s30 := T.z s29
   have bl30 := T.b bl29
   clear T
   refine Eng.tail_nil ?_
   refine Eng.rS [.int .i64 (IntKind.i64.wrap ((k : Nat) + 1)), .int .i64 (IntKind.i64.wrap ((k : Nat) + 1))] (fun _ => .plain) 2 0 s30 ?_ ?_
   ·refine .c ?_ (.c ?_ (.nil))
    ·refine Eng.pv fun a w' H => ?_
     refine Eng.vr (v := .int .i64 (IntKind.i64.wrap ((k : Nat) + 1))) rfl ?_
     have e0 := (H.q 8 h8_30)
     have e1 : a.eval (.const (.int .i64 1)) = .int .i64 1 := rfl
     simp only [execOp, resolve, List.map_toArray, List.map_cons, List.map_nil, e0, e1]
     go_simp
    exact Eng.pv fun a w' H => Eng.vr rfl (Eng.run_move rfl (H.d 0 27))
   intro act31 w31 T
   have ⟨h0_31, h2_31, h3_31, h6_31, h7_31⟩ := T.r5 h0_30 h2_30 h3_30 h6_30 h7_30
   have h8_31 : act31.eval (.tmp 8) = .int .i64 (IntKind.i64.wrap ((k : Nat) + 1)) := T.done 1 8 rfl rfl
   have d31 := T.e d30
   have s31 := T.z s30
   have bl31 := T.b bl30
   clear T
   refine Eng.tail_nil ?_
   exact ⟨_, by omega, k + 1, rfl, by omega, d31, s31, bl31, h0_31, (h2_31.trans (by first | rfl | (congr 1; rw [Eng.i64_id (by omega) (by omega)]; omega) | (rw [Evt.depths_take hk0]; unfold Evt.dstep; first | (rw [if_pos h24]; done) | (rw [if_neg h24, if_pos h35]; done) | (rw [if_neg h24, if_neg h35]; done)) | (simp; done))), (h3_31.trans (by first | rfl | (congr 1; rw [Eng.i64_id (by omega) (by omega)]; omega) | (rw [Evt.depths_take hk0]; unfold Evt.dstep; first | (rw [if_pos h24]; done) | (rw [if_neg h24, if_pos h35]; done) | (rw [if_neg h24, if_neg h35]; done)) | (simp; done))), h6_31, h7_31, (h8_31.trans (by first | rfl | (congr 1; rw [Eng.i64_id (by omega) (by omega)]; omega) | (rw [Evt.depths_take hk0]; unfold Evt.dstep; first | (rw [if_pos h24]; done) | (rw [if_neg h24, if_pos h35]; done) | (rw [if_neg h24, if_neg h35]; done)) | (simp; done)))⟩
  have c19 := Bq21.symm.trans hq
  clear hq
  have h35_2 : ¬ (l.getD k default).kind = 5 := by have h := c19; simpa using h
  have h35 : ¬ ((l.getD k default).kind = 3 ∨ (l.getD k default).kind = 5) := fun h => h.elim h35_1 h35_2
  refine wp_skip ?_
  refine Eng.rS [.int .i64 ((Evt.depths (List.take k l)).2), .int .i64 ((Evt.depths (List.take k l)).1), .int .i64 (mx ((Evt.depths (List.take k l)).2) ((Evt.depths (List.take k l)).1)), .int .i64 (mx ((Evt.depths (List.take k l)).2) ((Evt.depths (List.take k l)).1))] (fun _ => .plain) 4 0 s27 ?_ ?_
  ·refine .c ?_ (.c ?_ (.c ?_ (.c ?_ (.nil))))
   ·exact Eng.pv fun a w' H => Eng.vr rfl (Eng.run_move rfl (H.q 2 h2_27))
   ·exact Eng.pv fun a w' H => Eng.vr rfl (Eng.run_move rfl (H.q 3 h3_27))
   ·refine Eng.pv fun a w' H => ?_
    refine Eng.vr (v := .int .i64 (mx ((Evt.depths (List.take k l)).2) ((Evt.depths (List.take k l)).1))) rfl ?_
    have e0 : a.eval (.tmp 24) = .int .i64 ((Evt.depths (List.take k l)).2) := (H.d 0 24)
    have e1 : a.eval (.tmp 25) = .int .i64 ((Evt.depths (List.take k l)).1) := (H.d 1 25)
    simp only [execOp, resolve, List.map_toArray, List.map_cons, List.map_nil, e0, e1]
    go_simp
    all_goals first | rfl | (simp; done) | (rw [Bool.eq_iff_iff]; simp; done) | omega | (split <;> first | (simp_all; done) | (split <;> simp_all; done)) | skip
   exact Eng.pv fun a w' H => Eng.vr rfl (Eng.run_assign rfl (H.d 2 26))
  intro act33 w33 T
  have ⟨h0_33, h3_33, h6_33, h7_33, h8_33⟩ := T.r5 h0_27 h3_27 h6_27 h7_27 h8_27
  have h2_33 : act33.eval (.tmp 2) = .int .i64 (mx ((Evt.depths (List.take k l)).2) ((Evt.depths (List.take k l)).1)) := T.done 3 2 rfl rfl
  have d33 := T.e d27
  have s33 := T.z s27
  have bl33 := T.b bl27
  clear T
  refine Eng.tail_nil ?_
  refine Eng.rS [.int .i64 (IntKind.i64.wrap ((k : Nat) + 1)), .int .i64 (IntKind.i64.wrap ((k : Nat) + 1))] (fun _ => .plain) 2 0 s33 ?_ ?_
  ·refine .c ?_ (.c ?_ (.nil))
   ·refine Eng.pv fun a w' H => ?_
    refine Eng.vr (v := .int .i64 (IntKind.i64.wrap ((k : Nat) + 1))) rfl ?_
    have e0 := (H.q 8 h8_33)
    have e1 : a.eval (.const (.int .i64 1)) = .int .i64 1 := rfl
    simp only [execOp, resolve, List.map_toArray, List.map_cons, List.map_nil, e0, e1]
    go_simp
   exact Eng.pv fun a w' H => Eng.vr rfl (Eng.run_move rfl (H.d 0 27))
  intro act34 w34 T
  have ⟨h0_34, h2_34, h3_34, h6_34, h7_34⟩ := T.r5 h0_33 h2_33 h3_33 h6_33 h7_33
  have h8_34 : act34.eval (.tmp 8) = .int .i64 (IntKind.i64.wrap ((k : Nat) + 1)) := T.done 1 8 rfl rfl
  have d34 := T.e d33
  have s34 := T.z s33
  have bl34 := T.b bl33
  clear T
  refine Eng.tail_nil ?_
  exact ⟨_, by omega, k + 1, rfl, by omega, d34, s34, bl34, h0_34, (h2_34.trans (by first | rfl | (congr 1; rw [Eng.i64_id (by omega) (by omega)]; omega) | (rw [Evt.depths_take hk0]; unfold Evt.dstep; first | (rw [if_pos h24]; done) | (rw [if_neg h24, if_pos h35]; done) | (rw [if_neg h24, if_neg h35]; done)) | (simp; done))), (h3_34.trans (by first | rfl | (congr 1; rw [Eng.i64_id (by omega) (by omega)]; omega) | (rw [Evt.depths_take hk0]; unfold Evt.dstep; first | (rw [if_pos h24]; done) | (rw [if_neg h24, if_pos h35]; done) | (rw [if_neg h24, if_neg h35]; done)) | (simp; done))), h6_34, h7_34, (h8_34.trans (by first | rfl | (congr 1; rw [Eng.i64_id (by omega) (by omega)]; omega) | (rw [Evt.depths_take hk0]; unfold Evt.dstep; first | (rw [if_pos h24]; done) | (rw [if_neg h24, if_pos h35]; done) | (rw [if_neg h24, if_neg h35]; done)) | (simp; done)))⟩
 have c9 := Bq9.symm.trans hq
 clear hq
 have c9 := of_decide_eq_false c9
 have hke : k = l.length := by omega
 refine wp_exit ?_
 refine wp_seq ?_
 refine Eng.rS [.int .i64 ((Evt.depths (List.take k l)).2), .int .i64 ((Evt.depths (List.take k l)).2)] (fun _ => .plain) 2 0 s5 ?_ ?_
 ·refine .c ?_ (.c ?_ (.nil))
  ·exact Eng.pv fun a w' H => Eng.vr rfl (Eng.run_move rfl (H.q 2 h2_5))
  exact Eng.pv fun a w' H => Eng.vr rfl (Eng.run_assign rfl (H.d 0 28))
 intro act36 w36 T
 have h2_36 : act36.eval (.tmp 2) = .int .i64 ((Evt.depths (List.take k l)).2) := T.done 1 2 rfl rfl
 have d36 := T.e d5
 have bl36 := T.b bl5
 clear T
 refine Eng.tail_nil ?_
 refine wp_ret ?_
 repeat (first | refine Eng.in_ret ?_ | refine Eng.then_ret ?_)
 exact Eng.ret1 rfl d36 (h2_36.trans (by rw [hke, List.take_length])) ⟨rfl, bl36⟩
end Go.Proofs.YtgnmjaacnmkgnaaDoor.X
end
section
namespace Go.Proofs.YtgnmjaacnmkgnaaDoor.X
open Go.RowKit Go.Shelf Go.Proofs Go.Proofs.YtgnmjaacnmkgnaaDoorW.PrintWords Go.Proofs.YtgnmjaacnmkgnaaDoorW.PrintLast Go.Proofs.YtgnmjaacnmkgnaaDoorW.PrintMore
set_option linter.unusedVariables false
set_option linter.unusedSimpArgs false
attribute [local go_sem] max2_int min2_int max_two min_two
set_option maxHeartbeats 4000000 in
set_option maxRecDepth 100000 in
theorem Evt.Right_calls (v : Value) (l : List Evt.Ev) (w : World) (hT : Tabs.Holds w) (hl : Eng.Reads w v l.length 5 (Evt.cells l)) (hsz : ∀ k, k < l.length → (l.getD k default).text.size ≤ 9223372036854775807) (hlen : l.length ≤ 100000) : Calls Tryd.prog 17 #[v] w fun e w' => e = .returned (.bool (Evt.rightG Evt.rightE l)) ∧ Below w.heap.size w w' := by
 have hm := Eng.Reads.len_le hl
 refine Eng.enter Tryd.func17 rfl fun act0 d0 s0 v0 => ?_
 have s0 : act0.tmps.size = 35 := s0
 have h0_0 : act0.eval (.tmp 0) = v := v0 0 (by simp)
 clear v0
 have bl0 : Below w.heap.size w w := Below.refl _ _
 refine wp_seq ?_
 refine Eng.rS [.bool false] (fun _ => .plain) 1 0 s0 ?_ ?_
 ·refine .c ?_ (.nil)
  ·exact Eng.pv fun a w' H => Eng.vr rfl (Eng.run_assign rfl (rfl : a.eval (.const (.bool false)) = .bool false))
 intro act1 w1 T
 have h0_1 := T.r1 h0_0
 have Fl_1 := T.f hl
 have d1 := T.e d0
 have s1 := T.z s0
 have bl1 := T.b bl0
 clear T
 refine Eng.tail_nil ?_
 refine wp_seq ?_
 refine Eng.regionT (n := 3) rfl ?_
 refine Eng.tail_val (w1 := w1) (v := .agg #[.slice none 0 0]) rfl rfl rfl ?_ s1 rfl ?_
 ·simp only [execOp, resolve]
  go_simp
 intro act2 d2 s2 h6_2 hr
 have h0_2 := Eng.k1 hr h0_1
 have d2 := d2.trans d1
 clear hr
 refine Eng.tail_ex rfl rfl rfl (Eng.box_ex (cs := #[.slice none 0 0]) rfl h6_2 (by rfl)) s2 rfl fun v_3 w3 act3 R d3 s3 h7_3 hr => ?_
 obtain ⟨g7_3, ev_3, rg_3, lg7_3, kg7_3, b_3⟩ := R
 have h0_3 := Eng.k1 hr h0_2
 have d3 := d3.trans d2
 clear hr
 have og7_3 : w.heap.size ≤ g7_3 := Nat.le_trans bl1.size rg_3
 have Fl_3 := Eng.Reads.below Fl_1 b_3
 have bl3 := bl1.trans (b_3.mono bl1.size)
 rw [ev_3] at h7_3
 refine Eng.tail_val rfl rfl rfl (Eng.run_assign rfl h7_3) s3 rfl fun act4 d4 s4 h3_4 hr => ?_
 have h0_4 := Eng.k1 hr h0_3
 have d4 := d4.trans d3
 clear hr
 refine Eng.tail_nil ?_
 refine wp_seq ?_
 refine wp_seq ?_
 refine Eng.rS [v, .int .i64 ((l.length : Nat) : Int), .int .i64 0] (fun _ => .plain) 3 0 s4 ?_ ?_
 ·refine .c ?_ (.c ?_ (.c ?_ (.nil)))
  ·exact Eng.pv fun a w' H => Eng.vr rfl (Eng.run_move rfl (H.q 0 h0_4))
  ·exact Eng.pv fun a w' H => Eng.vr (v := .int .i64 ((l.length : Nat) : Int)) rfl (Eng.run_len_sl rfl Tryd.underlying37 (show a.eval (.tmp 8) = v from (H.d 0 8)) (Eng.Reads.below Fl_3 H.below))
  exact Eng.pv fun a w' H => Eng.vr rfl (Eng.run_move rfl (rfl : a.eval (.const (.int .i64 0)) = .int .i64 0))
 intro act5 w5 T
 have ⟨h0_5, h3_5⟩ := T.r2 h0_4 h3_4
 have kg7_3_5 := T.x lg7_3 kg7_3
 have lg7_3_5 := T.l lg7_3
 have h8_5 : act5.eval (.tmp 8) = v := T.done 0 8 rfl rfl
 have h9_5 : act5.eval (.tmp 9) = .int .i64 ((l.length : Nat) : Int) := T.done 1 9 rfl rfl
 have h10_5 : act5.eval (.tmp 10) = .int .i64 0 := T.done 2 10 rfl rfl
 have d5 := T.e d4
 have s5 := T.z s4
 have bl5 := T.b bl3
 clear T
 refine Eng.tail_nil ?_
 refine wp_block ?_
 refine Eng.loopN (fun n a w' => ∃ (k : Nat) (o : Value) (st : List (Int × Int)), l.length - k = n ∧ (k ≤ l.length) ∧ (Evt.rightR Evt.rightE [] l = Evt.rightR Evt.rightE st (List.drop k l)) ∧ (List.length st ≤ k) ∧ (∀ t ∈ st, 0 ≤ t.1) ∧ (w'.ownsRow w.heap.size 93 2 o (List.length st) (Evt.opens st)) ∧ a.defers = [] ∧ a.tmps.size = 35 ∧ Below w.heap.size w w' ∧ a.eval (.tmp 0) = v ∧ a.eval (.tmp 3) = .pointer (some ⟨g7_3, 0, none⟩) ∧ a.eval (.tmp 8) = v ∧ a.eval (.tmp 9) = .int .i64 ((l.length : Nat) : Int) ∧ a.eval (.tmp 10) = .int .i64 (k : Nat) ∧ w'.heap[g7_3]? = some (.cells (#[o]) 77 (0, 0)) ∧ g7_3 < w'.heap.size) (n0 := l.length - 0) ?_ ?_
 ·exact ⟨0, .slice none 0 0, [], rfl, by omega, rfl, by simp, by simp, World.ownsRow_nil _ _ _ _, d5, s5, bl5, h0_5, h3_5, h8_5, h9_5, (h10_5.trans (by first | rfl | (congr 1; rw [Eng.i64_id (by omega) (by omega)]; omega) | (simp; done))), (kg7_3_5.trans (by first | rfl | (simp; done))), lg7_3_5⟩
 rintro n act6 w6 ⟨k, o, st, rfl, hc0_6, hc1_6, hc2_6, hc3_6, hc4_6, d6, s6, bl6, h0_6, h3_6, h8_6, h9_6, h10_6, kg7_3_6, lg7_3_6⟩
 have Fl_6 := Eng.Reads.below hl bl6
 have hk1 := hc0_6
 have hinv := hc1_6
 have hlen := hc2_6
 have hpos := hc3_6
 have hgood0 : True := trivial
 have Fro_6 := Eng.Reads.of_own hc4_6
 refine wp_seq ?_
 obtain ⟨q11, Bq11⟩ : ∃ b : Bool, b = (decide ((k : Nat) < ((l.length : Nat) : Int))) := ⟨_, rfl⟩
 refine Eng.rS [.bool q11] (fun _ => .plain) 1 0 s6 ?_ ?_
 ·refine .c ?_ (.nil)
  ·refine Eng.pv fun a w' H => ?_
   refine Eng.vr (v := .bool (decide ((k : Nat) < ((l.length : Nat) : Int)))) (by show _ = Value.bool q11; rw [Bq11]) ?_
   have e0 := (H.q 10 h10_6)
   have e1 := (H.q 9 h9_6)
   simp only [execOp, resolve, e0, e1]
   go_simp
 intro act7 w7 T
 have ⟨h0_7, h3_7, h8_7, h9_7, h10_7⟩ := T.r5 h0_6 h3_6 h8_6 h9_6 h10_6
 have kg7_3_7 := T.x lg7_3_6 kg7_3_6
 have lg7_3_7 := T.l lg7_3_6
 have Fl_7 := T.f Fl_6
 have Fro_7 := T.f Fro_6
 have Oro_7 := T.g hc4_6
 have h11_7 : act7.eval (.tmp 11) = .bool q11 := T.done 0 11 rfl rfl
 have d7 := T.e d6
 have s7 := T.z s6
 have bl7 := T.b bl6
 clear T
 refine Eng.tail_nil ?_
 refine wp_seq ?_
 refine wp_cond_split h11_7 (fun hq => ?_) (fun hq => ?_)
 ·
  have c11 := Bq11.symm.trans hq
  clear hq
  have c11 := of_decide_eq_true c11
  have hk0 : k < l.length := by omega
  refine wp_skip ?_
  refine wp_seq ?_
  refine wp_block ?_
  refine wp_seq ?_
  refine Eng.regionS (Eng.still [fun u_ => u_ = Eng.elemPtr v (k * 5), fun u_ => u_ = .agg #[.int .i64 ((l.getD k default).kind), .string ((l.getD k default).anchor), .string ((l.getD k default).tag), .string ((l.getD k default).text), .bool ((l.getD k default).plain)], fun u_ => True, fun u_ => True]) (fun i => ([.plain, .plain, .alloc 30 #[.int .i64 0, .string ⟨#[]⟩, .string ⟨#[]⟩, .string ⟨#[]⟩, .bool false], .store 2 #[.int .i64 ((l.getD k default).kind), .string ((l.getD k default).anchor), .string ((l.getD k default).tag), .string ((l.getD k default).text), .bool ((l.getD k default).plain)]] : List Eng.Kind).getD i .plain) 4 0 35 s7 rfl (by kernel_rfl) (Eng.still_stable _) (Or.inr (Eng.still_any _)) ?_ ?_
  ·refine .c ?_ (.c ?_ (.c ?_ (.c ?_ (.nil))))
   ·exact Eng.pv fun a w' H => Eng.vr (v := Eng.elemPtr v (k * 5)) rfl (Eng.run_index_sl rfl Tryd.underlying37 (by kernel_rfl) (show a.eval (.tmp 8) = v from (H.q 8 h8_7)) ((show a.eval (.tmp 10) = .int .i64 (k : Nat) from (H.q 10 h10_7)).trans (congrArg (Value.int _) (show (k : Nat) = ((k : Nat) : Int) from by omega))) (Eng.Reads.below Fl_7 H.below) (by omega) rfl)
   ·exact Eng.pv fun a w' H => Eng.vr (v := .agg #[.int .i64 ((l.getD k default).kind), .string ((l.getD k default).anchor), .string ((l.getD k default).tag), .string ((l.getD k default).text), .bool ((l.getD k default).plain)]) rfl (Eng.run_load_els [.int .i64 ((l.getD k default).kind), .string ((l.getD k default).anchor), .string ((l.getD k default).tag), .string ((l.getD k default).text), .bool ((l.getD k default).plain)] rfl (show a.eval (.tmp 12) = Eng.elemPtr v (k * 5) from (H.d 0 12)) (Eng.Reads.below Fl_7 H.below) (Evt.cells_at l k (by omega)) rfl Tryd.underlying30 rfl (by kernel_rfl))
   ·refine Eng.made rfl (by simp) rfl (fun a w' hd ho => ?_) (fun _ _ => trivial)
    simp only [execOp]
    go_simp
   refine Eng.stored [.int .i64 ((l.getD k default).kind), .string ((l.getD k default).anchor), .string ((l.getD k default).tag), .string ((l.getD k default).text), .bool ((l.getD k default).plain)] rfl rfl rfl (j := 2) (d := 5) (by kernel_rfl) rfl rfl (Eng.store_uniq (by kernel_rfl)) rfl rfl fun a w' g e hc hd ho => ?_
   have e0 : a.eval _ = .agg #[.int .i64 ((l.getD k default).kind), .string ((l.getD k default).anchor), .string ((l.getD k default).tag), .string ((l.getD k default).text), .bool ((l.getD k default).plain)] := (hd 1 13 (by kernel_rfl) rfl)
   have z0 := (Eng.cells hc 0).trans rfl
   have z1 := (Eng.cells hc 1).trans rfl
   have z2 := (Eng.cells hc 2).trans rfl
   have z3 := (Eng.cells hc 3).trans rfl
   have z4 := (Eng.cells hc 4).trans rfl
   have f0 := Eng.unfrozen hc 0
   have f1 := Eng.unfrozen hc 1
   have f2 := Eng.unfrozen hc 2
   have f3 := Eng.unfrozen hc 3
   have f4 := Eng.unfrozen hc 4
   simp only [execOp, e, e0]
   go_simp
   rfl
  intro act9 w9 T
  have ⟨h0_9, h3_9, h8_9, h9_9, h10_9⟩ := T.r5 h0_7 h3_7 h8_7 h9_7 h10_7
  have kg7_3_9 := T.x lg7_3_7 kg7_3_7
  have lg7_3_9 := T.l lg7_3_7
  have Oro_9 := T.g Oro_7
  obtain ⟨g5_9, h5_9, rg5_9, lg5_9_9, kg5_9_9⟩ := T.st 2 5 3 _ _ _ rfl rfl rfl rfl rfl
  have d9 := T.e d7
  have s9 := T.z s7
  have bl9 := T.b bl7
  clear T
  refine Eng.tail_nil ?_
  refine wp_seq ?_
  refine (wpIn_wide (n := 1)).1 ?_
  refine EngI.regionT (n := 9) rfl ?_
  refine EngI.tv rfl (Eng.run_load_all rfl h5_9 kg5_9_9 Tryd.underlying30 rfl (by kernel_rfl)) s9 fun act10 d10 s10 h14_10 hr => ?_
  have ⟨h0_10, h3_10, h5_10, h8_10, h9_10, h10_10⟩ := Eng.k6 hr h0_9 h3_9 h5_9 h8_9 h9_9 h10_9
  have d10 := d10.trans d9
  clear hr
  obtain ⟨q15, Bq15⟩ : ∃ b : Bool, b = (Evt.rightE (l.getD k default)) := ⟨_, rfl⟩
  refine EngI.tail_call EngI.free_wide Tryd.func35 (by kernel_rfl) (by kernel_rfl) rfl rfl rfl rfl #[.agg #[.int .i64 ((l.getD k default).kind), .string ((l.getD k default).anchor), .string ((l.getD k default).tag), .string ((l.getD k default).text), .bool ((l.getD k default).plain)]] (by have e0 : act10.eval (.tmp 14) = .agg #[.int .i64 ((l.getD k default).kind), .string ((l.getD k default).anchor), .string ((l.getD k default).tag), .string ((l.getD k default).text), .bool ((l.getD k default).plain)] := h14_10; simp only [List.map_toArray, List.map_cons, List.map_nil, e0]) s10 rfl (R := fun v w_ => v = .bool (Evt.rightE (l.getD k default)) ∧ Below w9.heap.size w9 w_) ((Evt.right_calls (l.getD k default) _ (Tabs.below (Tabs.below hT bl9) (Below.refl _ _)) (hsz k hk0)).mono ?_) fun v_11 w11 act11 R d11 s11 hv hr => ?_
  ·rintro e w_ ⟨rfl, hb⟩; exact ⟨_, rfl, rfl, hb⟩
  obtain ⟨ev_11, b_11⟩ := R
  have ⟨h0_11, h3_11, h5_11, h8_11, h9_11, h10_11⟩ := Eng.k6 hr h0_10 h3_10 h5_10 h8_10 h9_10 h10_10
  have h15_11 : act11.eval (.tmp 15) = .bool q15 := (hv.trans ev_11).trans (congrArg Value.bool Bq15.symm)
  have d11 := d11.trans d10
  clear hv hr
  have kg7_3_11 := (b_11.block _ lg7_3_9).trans kg7_3_9
  have kg5_9_11 := (b_11.block _ lg5_9_9).trans kg5_9_9
  have Oro_11 := Eng.own_below Oro_9 b_11
  have bl11 := bl9.trans (b_11.mono bl9.size)
  refine EngI.tv rfl (Eng.run_not rfl h15_11) s11 fun act12 d12 s12 h16_12 hr => ?_
  have ⟨h0_12, h3_12, h5_12, h8_12, h9_12, h10_12⟩ := Eng.k6 hr h0_11 h3_11 h5_11 h8_11 h9_11 h10_11
  have d12 := d12.trans d11
  clear hr
  refine EngI.tv rfl (Eng.run_move rfl h16_12) s12 fun act13 d13 s13 h17_13 hr => ?_
  have ⟨h0_13, h3_13, h5_13, h8_13, h9_13, h10_13, h16_13⟩ := Eng.k7 hr h0_12 h3_12 h5_12 h8_12 h9_12 h10_12 h16_12
  have d13 := d13.trans d12
  clear hr
  rcases Bool.eq_false_or_eq_true (!q15) with hq | hq
  ·
   have kn14 := hq
   have c17 := hq
   clear hq
   have h16_kn14 := h16_13.trans (congrArg Value.bool kn14)
   have h17_kn14 := h17_13.trans (congrArg Value.bool kn14)
   refine EngG.tail_off EngI.free_wide rfl (EngG.wanted_off (want := false) rfl rfl rfl (by rw [s13]; decide) h17_kn14) rfl s13 rfl fun act15 d15 s15 hr => ?_
   have h17_15 : act15.eval (.tmp 17) = .bool true := (hr 17 rfl).trans h17_kn14
   have d15 := d15.trans d13
   clear hr
   refine EngG.tail_off EngI.free_wide rfl (EngG.wanted_off (want := false) rfl rfl rfl (by rw [s15]; decide) h17_15) rfl s15 rfl fun act16 d16 s16 hr => ?_
   have h17_16 := Eng.k1 hr h17_15
   have d16 := d16.trans d15
   clear hr
   refine EngG.tail_off EngI.free_wide rfl (EngG.wanted_off (want := false) rfl rfl rfl (by rw [s16]; decide) h17_16) rfl s16 rfl fun act17 d17 s17 hr => ?_
   have h17_17 := Eng.k1 hr h17_16
   have d17 := d17.trans d16
   clear hr
   refine EngG.tail_off EngI.free_wide rfl (EngG.wanted_off (want := false) rfl rfl rfl (by rw [s17]; decide) h17_17) rfl s17 rfl fun act18 d18 s18 hr => ?_
   have h17_18 := Eng.k1 hr h17_17
   have d18 := d18.trans d17
   clear hr
   refine EngI.tv rfl (Eng.run_pick rfl h17_18 (v := .bool true) (by exact (rfl : act18.eval (.const (.bool true)) = .bool true))) s18 fun act19 d19 s19 h22_19 hr => ?_
   have d19 := d19.trans d18
   clear hr
   refine EngI.tail_nil ?_
   refine wp_cond_true h22_19 ?_
   refine wp_seq ?_
   refine Eng.rS [.bool false] (fun _ => .plain) 1 0 s19 ?_ ?_
   ·refine .c ?_ (.nil)
    ·exact Eng.pv fun a w' H => Eng.vr rfl (Eng.run_assign rfl (rfl : a.eval (.const (.bool false)) = .bool false))
   intro act20 w20 T
   have h2_20 : act20.eval (.tmp 2) = .bool false := T.done 0 2 rfl rfl
   have d20 := T.e d19
   have bl20 := T.b bl11
   clear T
   refine Eng.tail_nil ?_
   refine wp_ret ?_
   repeat (first | refine Eng.in_ret ?_ | refine Eng.then_ret ?_)
   have hno : Evt.rightE (l.getD k default) = false := by have h := c17; rw [Bq15] at h; revert h; cases Evt.rightE (l.getD k default) <;> simp
   have fin : Evt.rightG Evt.rightE l = false := by unfold Evt.rightG; rw [hinv, Evt.rightR_bad hk0 hno, Bool.false_and]
   exact Eng.ret1 rfl d20 h2_20 ⟨by rw [fin], bl20⟩
  have kn21 := hq
  have c17 := hq
  clear hq
  have h16_kn21 := h16_13.trans (congrArg Value.bool kn21)
  have h17_kn21 := h17_13.trans (congrArg Value.bool kn21)
  refine EngG.tail_val EngI.free_wide rfl (EngG.wanted_on (want := false) rfl rfl rfl (by rw [s13]; decide) h17_kn21) rfl rfl (Eng.run_move rfl h3_13) s13 rfl fun act22 d22 s22 h18_22 hr => ?_
  have ⟨h0_22, h3_22, h5_22, h8_22, h9_22, h10_22⟩ := Eng.k6 hr h0_13 h3_13 h5_13 h8_13 h9_13 h10_13
  have h17_22 : act22.eval (.tmp 17) = .bool false := (hr 17 rfl).trans h17_kn21
  have d22 := d22.trans d13
  clear hr
  refine EngG.tail_val EngI.free_wide rfl (EngG.wanted_on (want := false) rfl rfl rfl (by rw [s22]; decide) h17_22) rfl rfl (Eng.run_load_all rfl h5_22 kg5_9_11 Tryd.underlying30 rfl (by kernel_rfl)) s22 rfl fun act23 d23 s23 h19_23 hr => ?_
  have ⟨h0_23, h3_23, h8_23, h9_23, h10_23, h17_23, h18_23⟩ := Eng.k7 hr h0_22 h3_22 h8_22 h9_22 h10_22 h17_22 h18_22
  have d23 := d23.trans d22
  clear hr
  refine EngG.tail_call EngI.free_wide Tryd.func36 (by kernel_rfl) (by kernel_rfl) rfl (EngG.wanted_on (want := false) rfl rfl rfl (by rw [s23]; decide) h17_23) rfl rfl #[.pointer (some ⟨g7_3, 0, none⟩), .agg #[.int .i64 ((l.getD k default).kind), .string ((l.getD k default).anchor), .string ((l.getD k default).tag), .string ((l.getD k default).text), .bool ((l.getD k default).plain)]] (by have e0 : act23.eval (.tmp 18) = .pointer (some ⟨g7_3, 0, none⟩) := h18_23; have e1 : act23.eval (.tmp 19) = .agg #[.int .i64 ((l.getD k default).kind), .string ((l.getD k default).anchor), .string ((l.getD k default).tag), .string ((l.getD k default).text), .bool ((l.getD k default).plain)] := h19_23; simp only [List.map_toArray, List.map_cons, List.map_nil, e0, e1]) s23 rfl (R := fun v w' => v = .bool (Evt.takeF st ((l.getD k default).kind)).isSome ∧ Below w.heap.size w w' ∧ ∀ st', Evt.takeF st ((l.getD k default).kind) = some st' → ∃ o', Evt.Is w.heap.size w11 g7_3 o st' w' o') ((Evt.take_calls g7_3 o (l.getD k default) st w _ bl11 og7_3 kg7_3_11 Oro_11 (by omega) hpos).mono ?_) fun v_24 w24 act24 R d24 s24 h20_24 hr => ?_
  ·rintro e w1 ⟨rfl, h1, h2⟩; exact ⟨_, rfl, rfl, h1, h2⟩
  have ⟨h0_24, h3_24, h8_24, h9_24, h10_24, h17_24⟩ := Eng.k6 hr h0_23 h3_23 h8_23 h9_23 h10_23 h17_23
  have d24 := d24.trans d23
  clear hr
  obtain ⟨ev_24, bl24, hP24⟩ := R
  obtain ⟨q20, Bq20⟩ : ∃ b : Bool, b = (Evt.takeF st ((l.getD k default).kind)).isSome := ⟨_, rfl⟩
  rw [ev_24, ← Bq20] at h20_24
  refine EngG.tail_val EngI.free_wide rfl (EngG.wanted_on (want := false) rfl rfl rfl (by rw [s24]; decide) h17_24) rfl rfl (Eng.run_not rfl h20_24) s24 rfl fun act25 d25 s25 h21_25 hr => ?_
  have ⟨h0_25, h3_25, h8_25, h9_25, h10_25, h17_25⟩ := Eng.k6 hr h0_24 h3_24 h8_24 h9_24 h10_24 h17_24
  have d25 := d25.trans d24
  clear hr
  refine EngI.tv rfl (Eng.run_pick rfl h17_25 (v := .bool (!q20)) (by exact h21_25)) s25 fun act26 d26 s26 h22_26 hr => ?_
  have ⟨h0_26, h3_26, h8_26, h9_26, h10_26⟩ := Eng.k5 hr h0_25 h3_25 h8_25 h9_25 h10_25
  have d26 := d26.trans d25
  clear hr
  refine EngI.tail_nil ?_
  refine wp_cond_split h22_26 (fun hq => ?_) (fun hq => ?_)
  ·
   have c22 := hq
   clear hq
   refine wp_seq ?_
   refine Eng.rS [.bool false] (fun _ => .plain) 1 0 s26 ?_ ?_
   ·refine .c ?_ (.nil)
    ·exact Eng.pv fun a w' H => Eng.vr rfl (Eng.run_assign rfl (rfl : a.eval (.const (.bool false)) = .bool false))
   intro act28 w28 T
   have h2_28 : act28.eval (.tmp 2) = .bool false := T.done 0 2 rfl rfl
   have d28 := T.e d26
   have bl28 := T.b bl24
   clear T
   refine Eng.tail_nil ?_
   refine wp_ret ?_
   repeat (first | refine Eng.in_ret ?_ | refine Eng.then_ret ?_)
   have hn : Evt.takeF st (l.getD k default).kind = none := by rw [← Option.not_isSome_iff_eq_none, ← Bq20]; revert c22; cases q20 <;> simp
   have fin : Evt.rightG Evt.rightE l = false := by unfold Evt.rightG; rw [hinv, Evt.rightR_none hk0 hn, Bool.false_and]
   exact Eng.ret1 rfl d28 h2_28 ⟨by rw [fin], bl28⟩
  have c22 := hq
  clear hq
  obtain ⟨st2, hst2⟩ := Option.isSome_iff_exists.1 (show (Evt.takeF st ((l.getD k default).kind)).isSome = true from by rw [← Bq20]; revert c22; cases q20 <;> simp)
  obtain ⟨o2, I2⟩ := hP24 st2 hst2
  have hgood := Evt.take_good hst2 hpos
  have kg7_3_30 := I2.box
  have lg7_3_30 := (Array.getElem?_eq_some_iff.1 kg7_3_30).1
  have O2 := I2.own
  have F2 := Eng.Reads.of_own O2
  have hok : Evt.rightE (l.getD k default) = true := by have h := c17; rw [Bq15] at h; revert h; cases Evt.rightE (l.getD k default) <;> simp
  refine wp_skip ?_
  refine Eng.rS [.int .i64 (IntKind.i64.wrap ((k : Nat) + 1)), .int .i64 (IntKind.i64.wrap ((k : Nat) + 1))] (fun _ => .plain) 2 0 s26 ?_ ?_
  ·refine .c ?_ (.c ?_ (.nil))
   ·refine Eng.pv fun a w' H => ?_
    refine Eng.vr (v := .int .i64 (IntKind.i64.wrap ((k : Nat) + 1))) rfl ?_
    have e0 := (H.q 10 h10_26)
    have e1 : a.eval (.const (.int .i64 1)) = .int .i64 1 := rfl
    simp only [execOp, resolve, e0, e1]
    go_simp
   exact Eng.pv fun a w' H => Eng.vr rfl (Eng.run_move rfl (H.d 0 23))
  intro act31 w31 T
  have ⟨h0_31, h3_31, h8_31, h9_31⟩ := T.r4 h0_26 h3_26 h8_26 h9_26
  have kg7_3_31 := T.x lg7_3_30 kg7_3_30
  have lg7_3_31 := T.l lg7_3_30
  have Oro_31 := T.g O2
  have h10_31 : act31.eval (.tmp 10) = .int .i64 (IntKind.i64.wrap ((k : Nat) + 1)) := T.done 1 10 rfl rfl
  have d31 := T.e d26
  have s31 := T.z s26
  have bl31 := T.b bl24
  clear T
  refine Eng.tail_nil ?_
  exact ⟨_, by omega, k + 1, o2, st2, rfl, by omega, hinv.trans (Evt.rightR_go hk0 hok hst2), by omega, hgood.1, Oro_31, d31, s31, bl31, h0_31, h3_31, h8_31, h9_31, (h10_31.trans (by first | rfl | (congr 1; rw [Eng.i64_id (by omega) (by omega)]; omega) | (simp; done))), (kg7_3_31.trans (by first | rfl | (simp; done))), lg7_3_31⟩
 have c11 := Bq11.symm.trans hq
 clear hq
 have c11 := of_decide_eq_false c11
 have hke : k = l.length := by omega
 refine wp_exit ?_
 refine wp_seq ?_
 obtain ⟨q29, Bq29⟩ : ∃ b : Bool, b = (((st.length : Nat) : Int) == 0) := ⟨_, rfl⟩
 obtain ⟨q33, Bq33⟩ : ∃ b : Bool, b = (decide (((Evt.depths l).2) ≤ 40)) := ⟨_, rfl⟩
 obtain ⟨q34, Bq34⟩ : ∃ b : Bool, b = (q29 && q33) := ⟨_, rfl⟩
 refine Eng.rS [.pointer (some ⟨g7_3, 0, none⟩), .pointer (some ⟨g7_3, 0, none⟩), .pointer (some ⟨g7_3, 0, none⟩), o, .int .i64 ((st.length : Nat) : Int), .bool q29, .bool q29, bif (q29 == true) then (v) else undef, bif (q29 == true) then (.int .i64 ((Evt.depths l).2)) else undef, bif (q29 == true) then (.bool q33) else undef, .bool q34, .bool q34] (fun _ => .plain) 12 0 s7 ?_ ?_
 ·refine .c ?_ (.c ?_ (.c ?_ (.c ?_ (.c ?_ (.c ?_ (.c ?_ (.c ?_ (.c ?_ (.c ?_ (.c ?_ (.c ?_ (.nil))))))))))))
  ·exact Eng.pv fun a w' H => Eng.vr rfl (Eng.run_move rfl (H.q 3 h3_7))
  ·exact Eng.pv fun a w' H => Eng.vr rfl (Eng.run_nilb rfl (H.d 0 24))
  ·exact Eng.pv fun a w' H => Eng.vr rfl (Eng.run_fieldb rfl Tryd.underlying77 0 (by kernel_rfl) (H.d 1 25))
  ·exact Eng.pv fun a w' H => Eng.vr rfl (Eng.run_loadb rfl (H.d 2 26) ((H.below.block _ lg7_3_7).trans kg7_3_7) rfl (by kernel_rfl))
  ·exact Eng.pv fun a w' H => Eng.vr (v := .int .i64 ((st.length : Nat) : Int)) rfl (Eng.run_len_sl rfl Tryd.underlying75 (show a.eval (.tmp 27) = o from (H.d 3 27)) (Eng.Reads.below Fro_7 H.below))
  ·refine Eng.pv fun a w' H => ?_
   refine Eng.vr (v := .bool (((st.length : Nat) : Int) == 0)) (by show _ = Value.bool q29; rw [Bq29]) ?_
   have e0 : a.eval (.tmp 28) = .int .i64 ((st.length : Nat) : Int) := (H.d 4 28)
   have e1 : a.eval (.const (.int .i64 0)) = .int .i64 0 := rfl
   simp only [execOp, resolve, e0, e1]
   go_simp
  ·exact Eng.pv fun a w' H => Eng.vr rfl (Eng.run_move rfl (H.d 5 29))
  ·refine Eng.guarded1 (j := 6) (d := 30) (b := q29) rfl rfl (by kernel_rfl) rfl (fun v w h => h) (fun hG w => Eng.off hG) fun hG a w' H => ?_
   exact Eng.val (w1 := w') (v := v) (Eng.run_move rfl (H.q 0 h0_7)) (Below.refl _ _) (Eng.off' hG rfl)
  ·refine Eng.guarded1 (j := 6) (d := 30) (b := q29) rfl rfl (by kernel_rfl) rfl (fun v w h => h) (fun hG w => Eng.off hG) fun hG a w' H => ?_
   refine Eng.call Tryd.func37 (by kernel_rfl) (by kernel_rfl) rfl #[v] ?_ ?_
   ·have e0 : a.eval (.tmp 31) = v := (Eng.on (H.d 7 31) hG); simp only [List.map_toArray, List.map_cons, List.map_nil, e0]
   refine (Evt.depth_calls v l _ (Eng.Reads.below Fl_7 H.below)).mono ?_
   rintro e w'' ⟨rfl, hb⟩
   exact ⟨_, rfl, (Eng.off' hG rfl), hb⟩
  ·refine Eng.guarded1 (j := 6) (d := 30) (b := q29) rfl rfl (by kernel_rfl) rfl (fun v w h => h) (fun hG w => Eng.off hG) fun hG a w' H => ?_
   refine Eng.vr (v := .bool (decide (((Evt.depths l).2) ≤ 40))) (Eng.off' hG (by rw [Bq33])) ?_
   have e0 : a.eval (.tmp 32) = .int .i64 ((Evt.depths l).2) := (Eng.on (H.d 8 32) hG)
   have e1 : a.eval (.const (.int .i64 40)) = .int .i64 40 := rfl
   simp only [execOp, resolve, e0, e1]
   go_simp
  ·exact Eng.pv fun a w' H => Eng.vr (v := .bool (q29 && q33)) (by show _ = Value.bool q34; rw [Bq34]) (Eng.run_and rfl rfl (G := true) (H.d 6 30) (fun hb => (Eng.on (H.d 9 33) (Eng.mk1 hb))))
  exact Eng.pv fun a w' H => Eng.vr rfl (Eng.run_assign rfl (H.d 10 34))
 intro act33 w33 T
 have h2_33 : act33.eval (.tmp 2) = .bool q34 := T.done 11 2 rfl rfl
 have d33 := T.e d7
 have bl33 := T.b bl7
 clear T
 refine Eng.tail_nil ?_
 refine wp_ret ?_
 repeat (first | refine Eng.in_ret ?_ | refine Eng.then_ret ?_)
 have fin : q34 = Evt.rightG Evt.rightE l := by
  simp only [Bq34, Bq33, Bq29, Bq11]
  unfold Evt.rightG; rw [hinv, Evt.rightR_end hke]; cases st <;> simp; try omega
 exact Eng.ret1 rfl d33 (h2_33.trans (congrArg Value.bool fin)) ⟨rfl, bl33⟩
end Go.Proofs.YtgnmjaacnmkgnaaDoor.X
end
section
namespace Go.Proofs.YtgnmjaacnmkgnaaDoor.X
open Go.RowKit Go.Shelf Go.Proofs Go.Maps Go.WideMaps
set_option linter.unusedVariables false
set_option linter.unusedSimpArgs false
namespace Evt
theorem rightR_step {st : List (Int × Int)} {l : List Ev} {k : Nat} (hk : k < l.length) (h : rightR rightE st (l.drop k) = true) : ∃ st', takeF st (l.getD k default).kind = some st' ∧ rightR rightE st' (l.drop (k + 1)) = true := by
  rw [Rwt.drop_one hk, rightR, Bool.and_eq_true] at h
  cases hq : takeF st (l.getD k default).kind with
  | none => rw [hq] at h; exact absurd h.2 (by simp)
  | some st' => rw [hq] at h; exact ⟨st', rfl, h.2⟩
end Evt
namespace Dc
open Evt (takeF pop more Ev)
variable {w W W' : World} {dg : Nat} {gv ov mv : Value} {st st' : List (Int × Int)} {d : Dc} {fin : List (List Nd × Value)} {k : Nat} {live : Bool} {x : Ev} {l : List Ev}
theorem HS.start : HS w W dg gv ov mv [] ⟨[], [], []⟩ [] 0 false := ⟨Good.nil _, fun h => absurd rfl h, fun h => absurd rfl h, fun h => (by cases h), fun f hf => absurd hf List.not_mem_nil⟩
theorem twall_step (hk : k < l.length) (h : TwAll d (l.drop k)) : ((l.getD k default).kind = 1 → TwOK d.nodes) ∧ TwAll (stepF d (l.getD k default)).1 (l.drop (k + 1)) := by
  rw [Rwt.drop_one hk] at h; exact h
theorem runF_step {out : List (List Nd)} (hk : k < l.length) (he : (stepF d (l.getD k default)).2.2 = 0) : runF d out (l.drop k) = runF (stepF d (l.getD k default)).1 (if (stepF d (l.getD k default)).2.1 = true then out ++ [(stepF d (l.getD k default)).1.nodes] else out) (l.drop (k + 1)) := by
  rw [Rwt.drop_one hk, runF, if_pos he]
theorem runF_err {out : List (List Nd)} (hk : k < l.length) (he : ¬ (stepF d (l.getD k default)).2.2 = 0) : runF d out (l.drop k) = ([], (stepF d (l.getD k default)).2.2) := by
  rw [Rwt.drop_one hk, runF, if_neg he]
theorem runF_end {out : List (List Nd)} (hk : k = l.length) : runF d out (l.drop k) = (out, 0) := by
  rw [hk, List.drop_length]; rfl
theorem over_kind (h : (stepF d x).2.1 = true) : x.kind = 1 := by
  apply Classical.byContradiction
  intro h1
  unfold stepF at h
  rw [if_neg h1] at h
  split at h
  · cases h
  · split at h
    · cases h
    · split at h <;> cases h
theorem over_st (H : HS w W dg gv ov mv st d fin k live) (ht : takeF st x.kind = some st') : (stepF d x).2.1 = true → st' = [] := by
  intro h
  have h1 := over_kind h
  rw [h1] at ht
  have hne : st ≠ [] := by rintro rfl; exact absurd (take_empty ht) (by decide)
  exact rel_end ht (H.rel hne)
theorem HS.over (H : HS w W dg gv ov mv [] d fin k true) : HS w W dg gv ov mv [] d (fin ++ [(d.nodes, gv)]) k false := by
  refine ⟨H.good, fun h => absurd rfl h, fun h => absurd rfl h, fun h => (by cases h), fun f hf => ?_⟩
  rcases List.mem_append.1 hf with hf | hf
  · exact H.fins f hf
  · rw [List.mem_singleton.1 hf]
    obtain ⟨h, mb, h1, h2, h3, h4⟩ := H.doc rfl
    exact ⟨h, d.opn, d.names, ov, mb, h2, h3, fun _ _ => id⟩
theorem rep_grown {B B' : Nat} {h : List NV} {opn : List Int} {names : List (List UInt8 × Int)} {mb n : Nat} {v : Value} {xs : List Value} (R : Rep B W h opn names gv ov mb) (O : W.ownsRow B' 48 1 v n xs) (G : W.grownBy W' v.ownBlock) : Rep B W' h opn names gv ov mb :=
  R.keep fun b hb => G.block b (R.lt hb).2 fun e => by
    obtain ⟨_, _, cs, hc⟩ := Eng.ownB O e
    exact R.ne hc rfl rfl hb
theorem HS.grown {B' n : Nat} {v : Value} {xs : List Value} (H : HS w W dg gv ov mv st d fin k live) (O : W.ownsRow B' 48 1 v n xs) (G : W.grownBy W' v.ownBlock) : HS w W' dg gv ov mv st d fin k live := by
  have hf : ∀ {f Bc}, Fin w W f Bc → Fin w W' f Bc := by
    rintro f Bc ⟨a, b, c, d, e, h1, h2, h3⟩
    exact ⟨a, b, c, d, e, h1, rep_grown h2 O G, h3⟩
  refine ⟨H.good, H.rel, H.liv, fun hl => ?_, fun f h => hf (H.fins f h)⟩
  obtain ⟨h, mb, h1, h2, h3, h4⟩ := H.doc hl
  exact ⟨h, mb, h1, h2, rep_grown h3 O G, fun f hh => hf (h4 f hh)⟩
theorem pend_below {er : Int} (P : er = 0 → HS w W dg gv ov mv st d fin k live) (hb : Below W.heap.size W W') : er = 0 → HS w W' dg gv ov mv st d fin k live := fun e => (P e).below hb
theorem own_keep {B n : Nat} {v : Value} {xs : List Value} {cs : Array Value} (O : W.ownsRow B 48 1 v n xs) (K : Keep W W' dg) (hk : W.heap[dg]? = some (.cells cs 64 (0, 0))) : W'.ownsRow B 48 1 v n xs := by
  refine ⟨O.1, ?_⟩
  rcases O.2 with h2 | ⟨g, cap, cur, rfl, hg, hh, r⟩
  · exact .inl h2
  · exact .inr ⟨g, cap, cur, rfl, hg, K g cur 48 hh rfl rfl (fun e => by subst e; rw [hk] at hh; cases hh), r⟩
theorem graphsF_no (h : Evt.rightG Evt.rightE l = false) : graphsF l = ([], 5) := by unfold graphsF; rw [h]; rfl
theorem graphsF_is (h : Evt.rightG Evt.rightE l = true) : graphsF l = runF ⟨[], [], []⟩ [] l := by unfold graphsF; rw [if_pos h]
theorem rightG_R (h : Evt.rightG Evt.rightE l = true) : Evt.rightR Evt.rightE [] l = true := by unfold Evt.rightG at h; rw [Bool.and_eq_true] at h; exact h.1
theorem fin_snoc {fin : List (List Nd × Value)} {f : List Nd × Value} {B : Nat} {v : Value} (O : W.ownsRow B 48 1 v (fin.length + 1) (fin.map (·.2) ++ [f.2])) : W.ownsRow B 48 1 v (fin ++ [f]).length ((fin ++ [f]).map (·.2)) := by
  rw [List.length_append, List.map_append]; exact O
theorem fin_nil : W.ownsRow w.heap.size 48 1 (.slice none 0 0) ([] : List (List Nd × Value)).length (([] : List (List Nd × Value)).map (·.2)) := World.ownsRow_nil _ _ _ _
end Dc
end Go.Proofs.YtgnmjaacnmkgnaaDoor.X
end
