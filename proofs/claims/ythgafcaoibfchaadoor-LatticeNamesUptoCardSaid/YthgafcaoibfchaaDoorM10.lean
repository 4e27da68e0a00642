/- Words and walks that the row of LatticeNamesUpto needs: printed by programs, and plain laws. -/
import Derived.Test.YthgafcaoibfchaaDoorM9
import Derived.Test.YthgafcaoibfchaaDoorM1
import Derived.Test.YthgafcaoibfchaaDoorM7
section
namespace Go.Proofs.YthgafcaoibfchaaDoor.X
open Go.RowKit Go.Shelf Go.Proofs Go.Proofs.YthgafcaoibfchaaDoorW.PrintWords Go.Proofs.YthgafcaoibfchaaDoorW.PrintLast Go.Proofs.YthgafcaoibfchaaDoorW.PrintMore
set_option linter.unusedVariables false
set_option linter.unusedSimpArgs false
attribute [local go_sem] max2_int min2_int max_two min_two
set_option maxHeartbeats 4000000 in
set_option maxRecDepth 100000 in
theorem Lat.of_calls (l : List Bool) (w : World) (hl : l.length = 64) : Calls Tryd.prog 67 #[.agg ((List.map Value.bool l).toArray)] w fun e w' => e = .returned (.int .u64 (Lat.ofL l)) ∧ Below w.heap.size w w' := by
  refine Eng.enter Tryd.func67 rfl fun act0 d0 s0 v0 => ?_
  have s0 : act0.tmps.size = 17 := s0
  have h0_0 : act0.eval (.tmp 0) = .agg ((List.map Value.bool l).toArray) := v0 0 (by simp)
  clear v0
  have bl0 : Below w.heap.size w w := Below.refl _ _
  refine wp_seq ?_
  refine Eng.regionS (Eng.still [fun v => True, fun v => v = .int .u64 0]) (fun i => ([.alloc 101 ((List.map Value.bool l).toArray), .plain] : List Eng.Kind).getD i .plain) 2 0 17 s0 rfl (by kernel_rfl) (Eng.still_stable _) (Or.inr (Eng.still_any _)) ?_ ?_
  · refine Eng.Steps.cons (fun _ => ?_) (Eng.Steps.cons (fun _ => ?_) (Eng.Steps.nil))
    · refine Eng.made rfl (by simp) rfl (fun a w' hd ho => ?_) (fun _ _ => trivial)
      exact Eng.run_box rfl ((ho 0 (by kernel_rfl)).trans h0_0)
    · refine Eng.plain rfl rfl fun a w' H => ?_
      exact Eng.val (w1 := w') (v := .int .u64 0) (Eng.run_assign rfl (rfl : a.eval (.const (.int .u64 0)) = .int .u64 0)) (Below.refl _ _) rfl
  intro act1 w1 T
  have h0_1 : act1.eval (.tmp 0) = .agg ((List.map Value.bool l).toArray) := (T.rest 0 (by kernel_rfl)).trans h0_0
  obtain ⟨g1_1, h1_1, rg1_1, lg1_1_1, kg1_1_1⟩ := T.al 0 1 _ _ rfl rfl rfl (by kernel_rfl)
  have og1_1 : w.heap.size ≤ g1_1 := Nat.le_trans bl0.size rg1_1
  have h2_1 : act1.eval (.tmp 2) = .int .u64 0 := T.done 1 2 rfl rfl
  have d1 := T.defers.trans d0
  have s1 := T.size.trans s0
  have bl1 := bl0.trans (T.below.mono bl0.size)
  clear T
  refine Eng.tail_nil ?_
  show Code.wp Tryd.prog _ _ _ _
  refine wp_seq ?_
  refine Eng.regionS (Eng.still [fun v => v = .int .u64 0]) (fun i => ([.plain] : List Eng.Kind).getD i .plain) 1 0 17 s1 rfl (by kernel_rfl) (Eng.still_stable _) (Or.inr (Eng.still_any _)) ?_ ?_
  · refine Eng.Steps.cons (fun _ => ?_) (Eng.Steps.nil)
    · refine Eng.plain rfl rfl fun a w' H => ?_
      exact Eng.val (w1 := w') (v := .int .u64 0) (Eng.run_assign rfl (rfl : a.eval (.const (.int .u64 0)) = .int .u64 0)) (Below.refl _ _) rfl
  intro act2 w2 T
  have h0_2 : act2.eval (.tmp 0) = .agg ((List.map Value.bool l).toArray) := (T.rest 0 (by kernel_rfl)).trans h0_1
  have h1_2 : act2.eval (.tmp 1) = .pointer (some ⟨g1_1, 0, none⟩) := (T.rest 1 (by kernel_rfl)).trans h1_1
  have h2_2 : act2.eval (.tmp 2) = .int .u64 0 := (T.rest 2 (by kernel_rfl)).trans h2_1
  have kg1_1_2 := (T.below.block _ lg1_1_1).trans kg1_1_1
  have lg1_1_2 := Nat.lt_of_lt_of_le lg1_1_1 T.below.size
  have h3_2 : act2.eval (.tmp 3) = .int .u64 0 := T.done 0 3 rfl rfl
  have d2 := T.defers.trans d1
  have s2 := T.size.trans s1
  have bl2 := bl1.trans (T.below.mono bl1.size)
  clear T
  refine Eng.tail_nil ?_
  show Code.wp Tryd.prog _ _ _ _
  refine wp_seq ?_
  refine wp_seq ?_
  refine Eng.regionS (Eng.still [fun v => v = .int .i64 63]) (fun i => ([.plain] : List Eng.Kind).getD i .plain) 1 0 17 s2 rfl (by kernel_rfl) (Eng.still_stable _) (Or.inr (Eng.still_any _)) ?_ ?_
  · refine Eng.Steps.cons (fun _ => ?_) (Eng.Steps.nil)
    · refine Eng.plain rfl rfl fun a w' H => ?_
      exact Eng.val (w1 := w') (v := .int .i64 63) (Eng.run_assign rfl (rfl : a.eval (.const (.int .i64 63)) = .int .i64 63)) (Below.refl _ _) rfl
  intro act3 w3 T
  have h0_3 : act3.eval (.tmp 0) = .agg ((List.map Value.bool l).toArray) := (T.rest 0 (by kernel_rfl)).trans h0_2
  have h1_3 : act3.eval (.tmp 1) = .pointer (some ⟨g1_1, 0, none⟩) := (T.rest 1 (by kernel_rfl)).trans h1_2
  have h2_3 : act3.eval (.tmp 2) = .int .u64 0 := (T.rest 2 (by kernel_rfl)).trans h2_2
  have h3_3 : act3.eval (.tmp 3) = .int .u64 0 := (T.rest 3 (by kernel_rfl)).trans h3_2
  have kg1_1_3 := (T.below.block _ lg1_1_2).trans kg1_1_2
  have lg1_1_3 := Nat.lt_of_lt_of_le lg1_1_2 T.below.size
  have h4_3 : act3.eval (.tmp 4) = .int .i64 63 := T.done 0 4 rfl rfl
  have d3 := T.defers.trans d2
  have s3 := T.size.trans s2
  have bl3 := bl2.trans (T.below.mono bl2.size)
  clear T
  refine Eng.tail_nil ?_
  show Code.wp Tryd.prog _ _ _ _
  refine wp_block ?_
  refine Eng.loopN (fun n a w' => ∃ (k : Nat), k = n ∧ k ≤ 64 ∧ a.defers = [] ∧ a.tmps.size = 17 ∧ Below w.heap.size w w' ∧ a.eval (.tmp 0) = .agg ((List.map Value.bool l).toArray) ∧ a.eval (.tmp 1) = .pointer (some ⟨g1_1, 0, none⟩) ∧ a.eval (.tmp 2) = .int .u64 0 ∧ a.eval (.tmp 3) = .int .u64 (Lat.ofL (l.drop k)) ∧ a.eval (.tmp 4) = .int .i64 ((k : Int) - 1) ∧ w'.heap[g1_1]? = some (.cells ((List.map Value.bool l).toArray) 101 (0, 0)) ∧ g1_1 < w'.heap.size) (n0 := 64) ?_ ?_
  · exact ⟨64, rfl, by omega, d3, s3, bl3, h0_3, h1_3, h2_3, (h3_3.trans (by first | rfl | (rw [List.drop_eq_nil_of_le (by omega)]; rfl) | (congr 1; rw [Eng.i64_id (by omega) (by omega)]; omega) | (rw [Lat.ofL_drop hl hk0 hk1, if_pos c13]) | (rw [Lat.ofL_drop hl hk0 hk1, if_neg (by rw [c13]; simp)]) | (simp; done))), (h4_3.trans (by first | rfl | (rw [List.drop_eq_nil_of_le (by omega)]; rfl) | (congr 1; rw [Eng.i64_id (by omega) (by omega)]; omega) | (rw [Lat.ofL_drop hl hk0 hk1, if_pos c13]) | (rw [Lat.ofL_drop hl hk0 hk1, if_neg (by rw [c13]; simp)]) | (simp; done))), kg1_1_3, lg1_1_3⟩
  rintro n act4 w4 ⟨k, rfl, hc0_4, d4, s4, bl4, h0_4, h1_4, h2_4, h3_4, h4_4, kg1_1_4, lg1_1_4⟩
  have hk1 := hc0_4
  refine wp_seq ?_
  refine wp_seq ?_
  obtain ⟨q6, Bq6⟩ : ∃ b : Bool, b = (decide (((k : Int) - 1) ≥ 0)) := ⟨_, rfl⟩
  refine Eng.regionS (Eng.still [fun v => v = .int .i64 ((k : Int) - 1), fun v => v = .bool q6]) (fun i => ([.plain, .plain] : List Eng.Kind).getD i .plain) 2 0 17 s4 rfl (by kernel_rfl) (Eng.still_stable _) (Or.inr (Eng.still_any _)) ?_ ?_
  · refine Eng.Steps.cons (fun _ => ?_) (Eng.Steps.cons (fun _ => ?_) (Eng.Steps.nil))
    · refine Eng.plain rfl rfl fun a w' H => ?_
      exact Eng.val (w1 := w') (v := .int .i64 ((k : Int) - 1)) (Eng.run_move rfl ((H.kept 4 (by kernel_rfl)).trans h4_4)) (Below.refl _ _) rfl
    · refine Eng.plain rfl rfl fun a w' H => ?_
      refine Eng.val (w1 := w') (v := .bool (decide (((k : Int) - 1) ≥ 0))) ?_ (Below.refl _ _) (by show _ = Value.bool q6; rw [Bq6])
      have e0 : a.eval (.tmp 5) = .int .i64 ((k : Int) - 1) := (H.dep 0 5 (by kernel_rfl) rfl)
      have e1 : a.eval (.const (.int .i64 0)) = .int .i64 0 := (rfl : a.eval (.const (.int .i64 0)) = .int .i64 0)
      simp only [execOp, resolve, List.map_toArray, List.map_cons, List.map_nil, e0, e1]
      go_simp
      all_goals first | rfl | (simp; done) | omega
  intro act5 w5 T
  have h0_5 : act5.eval (.tmp 0) = .agg ((List.map Value.bool l).toArray) := (T.rest 0 (by kernel_rfl)).trans h0_4
  have h1_5 : act5.eval (.tmp 1) = .pointer (some ⟨g1_1, 0, none⟩) := (T.rest 1 (by kernel_rfl)).trans h1_4
  have h2_5 : act5.eval (.tmp 2) = .int .u64 0 := (T.rest 2 (by kernel_rfl)).trans h2_4
  have h3_5 : act5.eval (.tmp 3) = .int .u64 (Lat.ofL (l.drop k)) := (T.rest 3 (by kernel_rfl)).trans h3_4
  have h4_5 : act5.eval (.tmp 4) = .int .i64 ((k : Int) - 1) := (T.rest 4 (by kernel_rfl)).trans h4_4
  have kg1_1_5 := (T.below.block _ lg1_1_4).trans kg1_1_4
  have lg1_1_5 := Nat.lt_of_lt_of_le lg1_1_4 T.below.size
  have h6_5 : act5.eval (.tmp 6) = .bool q6 := T.done 1 6 rfl rfl
  have d5 := T.defers.trans d4
  have s5 := T.size.trans s4
  have bl5 := bl4.trans (T.below.mono bl4.size)
  clear T
  refine Eng.tail_nil ?_
  show Code.wp Tryd.prog _ _ _ _
  refine wp_cond_split h6_5 (fun hq => ?_) (fun hq => ?_)
  ·
    have c6 := Bq6.symm.trans hq
    clear hq
    have c6 := of_decide_eq_true c6
    have hk0 : 0 < k := by omega
    refine wp_skip ?_
    show Code.wp Tryd.prog _ _ _ _
    refine wp_seq ?_
    refine wp_block ?_
    refine wp_seq ?_
    refine Eng.regionS (Eng.still [fun v => v = .int .u64 (Lat.ofL (l.drop k)), fun v => v = .int .u64 (IntKind.u64.wrap ((Lat.ofL (l.drop k)) * 2)), fun v => v = .int .u64 (IntKind.u64.wrap ((Lat.ofL (l.drop k)) * 2))]) (fun i => ([.plain, .plain, .plain] : List Eng.Kind).getD i .plain) 3 0 17 s5 rfl (by kernel_rfl) (Eng.still_stable _) (Or.inr (Eng.still_any _)) ?_ ?_
    · refine Eng.Steps.cons (fun _ => ?_) (Eng.Steps.cons (fun _ => ?_) (Eng.Steps.cons (fun _ => ?_) (Eng.Steps.nil)))
      · refine Eng.plain rfl rfl fun a w' H => ?_
        exact Eng.val (w1 := w') (v := .int .u64 (Lat.ofL (l.drop k))) (Eng.run_move rfl ((H.kept 3 (by kernel_rfl)).trans h3_5)) (Below.refl _ _) rfl
      · refine Eng.plain rfl rfl fun a w' H => ?_
        refine Eng.val (w1 := w') (v := .int .u64 (IntKind.u64.wrap ((Lat.ofL (l.drop k)) * 2))) ?_ (Below.refl _ _) rfl
        have e0 : a.eval (.tmp 9) = .int .u64 (Lat.ofL (l.drop k)) := (H.dep 0 9 (by kernel_rfl) rfl)
        have e1 : a.eval (.const (.int .u64 2)) = .int .u64 2 := (rfl : a.eval (.const (.int .u64 2)) = .int .u64 2)
        simp only [execOp, resolve, List.map_toArray, List.map_cons, List.map_nil, e0, e1]
        go_simp
        all_goals first | rfl | (simp; done) | omega
      · refine Eng.plain rfl rfl fun a w' H => ?_
        exact Eng.val (w1 := w') (v := .int .u64 (IntKind.u64.wrap ((Lat.ofL (l.drop k)) * 2))) (Eng.run_assign rfl (H.dep 1 10 (by kernel_rfl) rfl)) (Below.refl _ _) rfl
    intro act6 w6 T
    have h0_6 : act6.eval (.tmp 0) = .agg ((List.map Value.bool l).toArray) := (T.rest 0 (by kernel_rfl)).trans h0_5
    have h1_6 : act6.eval (.tmp 1) = .pointer (some ⟨g1_1, 0, none⟩) := (T.rest 1 (by kernel_rfl)).trans h1_5
    have h2_6 : act6.eval (.tmp 2) = .int .u64 0 := (T.rest 2 (by kernel_rfl)).trans h2_5
    have h4_6 : act6.eval (.tmp 4) = .int .i64 ((k : Int) - 1) := (T.rest 4 (by kernel_rfl)).trans h4_5
    have h6_6 : act6.eval (.tmp 6) = .bool q6 := (T.rest 6 (by kernel_rfl)).trans h6_5
    have kg1_1_6 := (T.below.block _ lg1_1_5).trans kg1_1_5
    have lg1_1_6 := Nat.lt_of_lt_of_le lg1_1_5 T.below.size
    have h3_6 : act6.eval (.tmp 3) = .int .u64 (IntKind.u64.wrap ((Lat.ofL (l.drop k)) * 2)) := T.done 2 3 rfl rfl
    have d6 := T.defers.trans d5
    have s6 := T.size.trans s5
    have bl6 := bl5.trans (T.below.mono bl5.size)
    clear T
    refine Eng.tail_nil ?_
    show Code.wp Tryd.prog _ _ _ _
    refine wp_seq ?_
    refine Eng.regionS (Eng.still [fun v => v = .int .i64 ((k : Int) - 1), fun v => v = .pointer (some ⟨g1_1, k - 1, none⟩), fun v => v = .bool (l.getD (k - 1) false)]) (fun i => ([.plain, .plain, .plain] : List Eng.Kind).getD i .plain) 3 0 17 s6 rfl (by kernel_rfl) (Eng.still_stable _) (Or.inr (Eng.still_any _)) ?_ ?_
    · refine Eng.Steps.cons (fun _ => ?_) (Eng.Steps.cons (fun _ => ?_) (Eng.Steps.cons (fun _ => ?_) (Eng.Steps.nil)))
      · refine Eng.plain rfl rfl fun a w' H => ?_
        exact Eng.val (w1 := w') (v := .int .i64 ((k : Int) - 1)) (Eng.run_move rfl ((H.kept 4 (by kernel_rfl)).trans h4_6)) (Below.refl _ _) rfl
      · refine Eng.plain rfl rfl fun a w' H => ?_
        refine Eng.val (w1 := w') (v := .pointer (some ⟨g1_1, k - 1, none⟩)) ?_ (Below.refl _ _) rfl
        exact Eng.run_indexAddr rfl Tryd.underlying101 (by kernel_rfl) ((H.kept 1 (by kernel_rfl)).trans h1_6) ((H.dep 0 11 (by kernel_rfl) rfl).trans (congrArg (Value.int _) (show (k : Int) - 1 = ((k - 1 : Nat) : Int) from by omega))) (by decide) (by omega)
      · refine Eng.plain rfl rfl fun a w' H => ?_
        have kb := (H.below.block _ lg1_1_6).trans kg1_1_6
        have z0 : w'.cell? ⟨g1_1, k - 1, none⟩ = some (.bool (l.getD (k - 1) false)) := (Eng.cells kb (k - 1)).trans (Lat.bit_at (hl) (by omega))
        refine Eng.val (w1 := w') (v := .bool (l.getD (k - 1) false)) ?_ (Below.refl _ _) rfl
        have e0 : a.eval (.tmp 12) = .pointer (some ⟨g1_1, k - 1, none⟩) := (H.dep 1 12 (by kernel_rfl) rfl)
        simp only [execOp, resolve, List.map_toArray, List.map_cons, List.map_nil, e0]
        go_simp
        all_goals first | rfl | (simp; done) | omega
    intro act7 w7 T
    have h0_7 : act7.eval (.tmp 0) = .agg ((List.map Value.bool l).toArray) := (T.rest 0 (by kernel_rfl)).trans h0_6
    have h1_7 : act7.eval (.tmp 1) = .pointer (some ⟨g1_1, 0, none⟩) := (T.rest 1 (by kernel_rfl)).trans h1_6
    have h2_7 : act7.eval (.tmp 2) = .int .u64 0 := (T.rest 2 (by kernel_rfl)).trans h2_6
    have h3_7 : act7.eval (.tmp 3) = .int .u64 (IntKind.u64.wrap ((Lat.ofL (l.drop k)) * 2)) := (T.rest 3 (by kernel_rfl)).trans h3_6
    have h4_7 : act7.eval (.tmp 4) = .int .i64 ((k : Int) - 1) := (T.rest 4 (by kernel_rfl)).trans h4_6
    have h6_7 : act7.eval (.tmp 6) = .bool q6 := (T.rest 6 (by kernel_rfl)).trans h6_6
    have kg1_1_7 := (T.below.block _ lg1_1_6).trans kg1_1_6
    have lg1_1_7 := Nat.lt_of_lt_of_le lg1_1_6 T.below.size
    have h13_7 : act7.eval (.tmp 13) = .bool (l.getD (k - 1) false) := T.done 2 13 rfl rfl
    have d7 := T.defers.trans d6
    have s7 := T.size.trans s6
    have bl7 := bl6.trans (T.below.mono bl6.size)
    clear T
    refine Eng.tail_nil ?_
    show Code.wp Tryd.prog _ _ _ _
    refine wp_cond_split h13_7 (fun hq => ?_) (fun hq => ?_)
    ·
      have c13 := hq
      clear hq
      refine Eng.regionS (Eng.still [fun v => v = .int .u64 (IntKind.u64.wrap ((Lat.ofL (l.drop k)) * 2)), fun v => v = .int .u64 (IntKind.u64.wrap ((IntKind.u64.wrap ((Lat.ofL (l.drop k)) * 2)) + 1)), fun v => v = .int .u64 (IntKind.u64.wrap ((IntKind.u64.wrap ((Lat.ofL (l.drop k)) * 2)) + 1))]) (fun i => ([.plain, .plain, .plain] : List Eng.Kind).getD i .plain) 3 0 17 s7 rfl (by kernel_rfl) (Eng.still_stable _) (Or.inr (Eng.still_any _)) ?_ ?_
      · refine Eng.Steps.cons (fun _ => ?_) (Eng.Steps.cons (fun _ => ?_) (Eng.Steps.cons (fun _ => ?_) (Eng.Steps.nil)))
        · refine Eng.plain rfl rfl fun a w' H => ?_
          exact Eng.val (w1 := w') (v := .int .u64 (IntKind.u64.wrap ((Lat.ofL (l.drop k)) * 2))) (Eng.run_move rfl ((H.kept 3 (by kernel_rfl)).trans h3_7)) (Below.refl _ _) rfl
        · refine Eng.plain rfl rfl fun a w' H => ?_
          refine Eng.val (w1 := w') (v := .int .u64 (IntKind.u64.wrap ((IntKind.u64.wrap ((Lat.ofL (l.drop k)) * 2)) + 1))) ?_ (Below.refl _ _) rfl
          have e0 : a.eval (.tmp 14) = .int .u64 (IntKind.u64.wrap ((Lat.ofL (l.drop k)) * 2)) := (H.dep 0 14 (by kernel_rfl) rfl)
          have e1 : a.eval (.const (.int .u64 1)) = .int .u64 1 := (rfl : a.eval (.const (.int .u64 1)) = .int .u64 1)
          simp only [execOp, resolve, List.map_toArray, List.map_cons, List.map_nil, e0, e1]
          go_simp
          all_goals first | rfl | (simp; done) | omega
        · refine Eng.plain rfl rfl fun a w' H => ?_
          exact Eng.val (w1 := w') (v := .int .u64 (IntKind.u64.wrap ((IntKind.u64.wrap ((Lat.ofL (l.drop k)) * 2)) + 1))) (Eng.run_assign rfl (H.dep 1 15 (by kernel_rfl) rfl)) (Below.refl _ _) rfl
      intro act8 w8 T
      have h0_8 : act8.eval (.tmp 0) = .agg ((List.map Value.bool l).toArray) := (T.rest 0 (by kernel_rfl)).trans h0_7
      have h1_8 : act8.eval (.tmp 1) = .pointer (some ⟨g1_1, 0, none⟩) := (T.rest 1 (by kernel_rfl)).trans h1_7
      have h2_8 : act8.eval (.tmp 2) = .int .u64 0 := (T.rest 2 (by kernel_rfl)).trans h2_7
      have h4_8 : act8.eval (.tmp 4) = .int .i64 ((k : Int) - 1) := (T.rest 4 (by kernel_rfl)).trans h4_7
      have h6_8 : act8.eval (.tmp 6) = .bool q6 := (T.rest 6 (by kernel_rfl)).trans h6_7
      have h13_8 : act8.eval (.tmp 13) = .bool (l.getD (k - 1) false) := (T.rest 13 (by kernel_rfl)).trans h13_7
      have kg1_1_8 := (T.below.block _ lg1_1_7).trans kg1_1_7
      have lg1_1_8 := Nat.lt_of_lt_of_le lg1_1_7 T.below.size
      have h3_8 : act8.eval (.tmp 3) = .int .u64 (IntKind.u64.wrap ((IntKind.u64.wrap ((Lat.ofL (l.drop k)) * 2)) + 1)) := T.done 2 3 rfl rfl
      have d8 := T.defers.trans d7
      have s8 := T.size.trans s7
      have bl8 := bl7.trans (T.below.mono bl7.size)
      clear T
      refine Eng.tail_nil ?_
      show Code.wp Tryd.prog _ _ _ _
      refine Eng.regionS (Eng.still [fun v => v = .int .i64 ((k : Int) - 1), fun v => v = .int .i64 (IntKind.i64.wrap (((k : Int) - 1) - 1)), fun v => v = .int .i64 (IntKind.i64.wrap (((k : Int) - 1) - 1))]) (fun i => ([.plain, .plain, .plain] : List Eng.Kind).getD i .plain) 3 0 17 s8 rfl (by kernel_rfl) (Eng.still_stable _) (Or.inr (Eng.still_any _)) ?_ ?_
      · refine Eng.Steps.cons (fun _ => ?_) (Eng.Steps.cons (fun _ => ?_) (Eng.Steps.cons (fun _ => ?_) (Eng.Steps.nil)))
        · refine Eng.plain rfl rfl fun a w' H => ?_
          exact Eng.val (w1 := w') (v := .int .i64 ((k : Int) - 1)) (Eng.run_move rfl ((H.kept 4 (by kernel_rfl)).trans h4_8)) (Below.refl _ _) rfl
        · refine Eng.plain rfl rfl fun a w' H => ?_
          refine Eng.val (w1 := w') (v := .int .i64 (IntKind.i64.wrap (((k : Int) - 1) - 1))) ?_ (Below.refl _ _) rfl
          have e0 : a.eval (.tmp 7) = .int .i64 ((k : Int) - 1) := (H.dep 0 7 (by kernel_rfl) rfl)
          have e1 : a.eval (.const (.int .i64 1)) = .int .i64 1 := (rfl : a.eval (.const (.int .i64 1)) = .int .i64 1)
          simp only [execOp, resolve, List.map_toArray, List.map_cons, List.map_nil, e0, e1]
          go_simp
          all_goals first | rfl | (simp; done) | omega
        · refine Eng.plain rfl rfl fun a w' H => ?_
          exact Eng.val (w1 := w') (v := .int .i64 (IntKind.i64.wrap (((k : Int) - 1) - 1))) (Eng.run_assign rfl (H.dep 1 8 (by kernel_rfl) rfl)) (Below.refl _ _) rfl
      intro act9 w9 T
      have h0_9 : act9.eval (.tmp 0) = .agg ((List.map Value.bool l).toArray) := (T.rest 0 (by kernel_rfl)).trans h0_8
      have h1_9 : act9.eval (.tmp 1) = .pointer (some ⟨g1_1, 0, none⟩) := (T.rest 1 (by kernel_rfl)).trans h1_8
      have h2_9 : act9.eval (.tmp 2) = .int .u64 0 := (T.rest 2 (by kernel_rfl)).trans h2_8
      have h3_9 : act9.eval (.tmp 3) = .int .u64 (IntKind.u64.wrap ((IntKind.u64.wrap ((Lat.ofL (l.drop k)) * 2)) + 1)) := (T.rest 3 (by kernel_rfl)).trans h3_8
      have h6_9 : act9.eval (.tmp 6) = .bool q6 := (T.rest 6 (by kernel_rfl)).trans h6_8
      have h13_9 : act9.eval (.tmp 13) = .bool (l.getD (k - 1) false) := (T.rest 13 (by kernel_rfl)).trans h13_8
      have kg1_1_9 := (T.below.block _ lg1_1_8).trans kg1_1_8
      have lg1_1_9 := Nat.lt_of_lt_of_le lg1_1_8 T.below.size
      have h4_9 : act9.eval (.tmp 4) = .int .i64 (IntKind.i64.wrap (((k : Int) - 1) - 1)) := T.done 2 4 rfl rfl
      have d9 := T.defers.trans d8
      have s9 := T.size.trans s8
      have bl9 := bl8.trans (T.below.mono bl8.size)
      clear T
      refine Eng.tail_nil ?_
      exact ⟨_, by omega, k - 1, rfl, by omega, d9, s9, bl9, h0_9, h1_9, h2_9, (h3_9.trans (by first | rfl | (rw [List.drop_eq_nil_of_le (by omega)]; rfl) | (congr 1; rw [Eng.i64_id (by omega) (by omega)]; omega) | (rw [Lat.ofL_drop hl hk0 hk1, if_pos c13]) | (rw [Lat.ofL_drop hl hk0 hk1, if_neg (by rw [c13]; simp)]) | (simp; done))), (h4_9.trans (by first | rfl | (rw [List.drop_eq_nil_of_le (by omega)]; rfl) | (congr 1; rw [Eng.i64_id (by omega) (by omega)]; omega) | (rw [Lat.ofL_drop hl hk0 hk1, if_pos c13]) | (rw [Lat.ofL_drop hl hk0 hk1, if_neg (by rw [c13]; simp)]) | (simp; done))), kg1_1_9, lg1_1_9⟩
    ·
      have c13 := hq
      clear hq
      refine wp_skip ?_
      show Code.wp Tryd.prog _ _ _ _
      refine Eng.regionS (Eng.still [fun v => v = .int .i64 ((k : Int) - 1), fun v => v = .int .i64 (IntKind.i64.wrap (((k : Int) - 1) - 1)), fun v => v = .int .i64 (IntKind.i64.wrap (((k : Int) - 1) - 1))]) (fun i => ([.plain, .plain, .plain] : List Eng.Kind).getD i .plain) 3 0 17 s7 rfl (by kernel_rfl) (Eng.still_stable _) (Or.inr (Eng.still_any _)) ?_ ?_
      · refine Eng.Steps.cons (fun _ => ?_) (Eng.Steps.cons (fun _ => ?_) (Eng.Steps.cons (fun _ => ?_) (Eng.Steps.nil)))
        · refine Eng.plain rfl rfl fun a w' H => ?_
          exact Eng.val (w1 := w') (v := .int .i64 ((k : Int) - 1)) (Eng.run_move rfl ((H.kept 4 (by kernel_rfl)).trans h4_7)) (Below.refl _ _) rfl
        · refine Eng.plain rfl rfl fun a w' H => ?_
          refine Eng.val (w1 := w') (v := .int .i64 (IntKind.i64.wrap (((k : Int) - 1) - 1))) ?_ (Below.refl _ _) rfl
          have e0 : a.eval (.tmp 7) = .int .i64 ((k : Int) - 1) := (H.dep 0 7 (by kernel_rfl) rfl)
          have e1 : a.eval (.const (.int .i64 1)) = .int .i64 1 := (rfl : a.eval (.const (.int .i64 1)) = .int .i64 1)
          simp only [execOp, resolve, List.map_toArray, List.map_cons, List.map_nil, e0, e1]
          go_simp
          all_goals first | rfl | (simp; done) | omega
        · refine Eng.plain rfl rfl fun a w' H => ?_
          exact Eng.val (w1 := w') (v := .int .i64 (IntKind.i64.wrap (((k : Int) - 1) - 1))) (Eng.run_assign rfl (H.dep 1 8 (by kernel_rfl) rfl)) (Below.refl _ _) rfl
      intro act10 w10 T
      have h0_10 : act10.eval (.tmp 0) = .agg ((List.map Value.bool l).toArray) := (T.rest 0 (by kernel_rfl)).trans h0_7
      have h1_10 : act10.eval (.tmp 1) = .pointer (some ⟨g1_1, 0, none⟩) := (T.rest 1 (by kernel_rfl)).trans h1_7
      have h2_10 : act10.eval (.tmp 2) = .int .u64 0 := (T.rest 2 (by kernel_rfl)).trans h2_7
      have h3_10 : act10.eval (.tmp 3) = .int .u64 (IntKind.u64.wrap ((Lat.ofL (l.drop k)) * 2)) := (T.rest 3 (by kernel_rfl)).trans h3_7
      have h6_10 : act10.eval (.tmp 6) = .bool q6 := (T.rest 6 (by kernel_rfl)).trans h6_7
      have h13_10 : act10.eval (.tmp 13) = .bool (l.getD (k - 1) false) := (T.rest 13 (by kernel_rfl)).trans h13_7
      have kg1_1_10 := (T.below.block _ lg1_1_7).trans kg1_1_7
      have lg1_1_10 := Nat.lt_of_lt_of_le lg1_1_7 T.below.size
      have h4_10 : act10.eval (.tmp 4) = .int .i64 (IntKind.i64.wrap (((k : Int) - 1) - 1)) := T.done 2 4 rfl rfl
      have d10 := T.defers.trans d7
      have s10 := T.size.trans s7
      have bl10 := bl7.trans (T.below.mono bl7.size)
      clear T
      refine Eng.tail_nil ?_
      exact ⟨_, by omega, k - 1, rfl, by omega, d10, s10, bl10, h0_10, h1_10, h2_10, (h3_10.trans (by first | rfl | (rw [List.drop_eq_nil_of_le (by omega)]; rfl) | (congr 1; rw [Eng.i64_id (by omega) (by omega)]; omega) | (rw [Lat.ofL_drop hl hk0 hk1, if_pos c13]) | (rw [Lat.ofL_drop hl hk0 hk1, if_neg (by rw [c13]; simp)]) | (simp; done))), (h4_10.trans (by first | rfl | (rw [List.drop_eq_nil_of_le (by omega)]; rfl) | (congr 1; rw [Eng.i64_id (by omega) (by omega)]; omega) | (rw [Lat.ofL_drop hl hk0 hk1, if_pos c13]) | (rw [Lat.ofL_drop hl hk0 hk1, if_neg (by rw [c13]; simp)]) | (simp; done))), kg1_1_10, lg1_1_10⟩
  ·
    have c6 := Bq6.symm.trans hq
    clear hq
    have c6 := of_decide_eq_false c6
    refine wp_exit ?_
    show Code.wp Tryd.prog _ _ _ _
    show Code.wp Tryd.prog _ _ _ _
    refine wp_seq ?_
    refine Eng.regionS (Eng.still [fun v => v = .int .u64 (Lat.ofL (l.drop k)), fun v => v = .int .u64 (Lat.ofL (l.drop k))]) (fun i => ([.plain, .plain] : List Eng.Kind).getD i .plain) 2 0 17 s5 rfl (by kernel_rfl) (Eng.still_stable _) (Or.inr (Eng.still_any _)) ?_ ?_
    · refine Eng.Steps.cons (fun _ => ?_) (Eng.Steps.cons (fun _ => ?_) (Eng.Steps.nil))
      · refine Eng.plain rfl rfl fun a w' H => ?_
        exact Eng.val (w1 := w') (v := .int .u64 (Lat.ofL (l.drop k))) (Eng.run_move rfl ((H.kept 3 (by kernel_rfl)).trans h3_5)) (Below.refl _ _) rfl
      · refine Eng.plain rfl rfl fun a w' H => ?_
        exact Eng.val (w1 := w') (v := .int .u64 (Lat.ofL (l.drop k))) (Eng.run_assign rfl (H.dep 0 16 (by kernel_rfl) rfl)) (Below.refl _ _) rfl
    intro act11 w11 T
    have h0_11 : act11.eval (.tmp 0) = .agg ((List.map Value.bool l).toArray) := (T.rest 0 (by kernel_rfl)).trans h0_5
    have h1_11 : act11.eval (.tmp 1) = .pointer (some ⟨g1_1, 0, none⟩) := (T.rest 1 (by kernel_rfl)).trans h1_5
    have h3_11 : act11.eval (.tmp 3) = .int .u64 (Lat.ofL (l.drop k)) := (T.rest 3 (by kernel_rfl)).trans h3_5
    have h4_11 : act11.eval (.tmp 4) = .int .i64 ((k : Int) - 1) := (T.rest 4 (by kernel_rfl)).trans h4_5
    have h6_11 : act11.eval (.tmp 6) = .bool q6 := (T.rest 6 (by kernel_rfl)).trans h6_5
    have kg1_1_11 := (T.below.block _ lg1_1_5).trans kg1_1_5
    have lg1_1_11 := Nat.lt_of_lt_of_le lg1_1_5 T.below.size
    have h2_11 : act11.eval (.tmp 2) = .int .u64 (Lat.ofL (l.drop k)) := T.done 1 2 rfl rfl
    have d11 := T.defers.trans d5
    have s11 := T.size.trans s5
    have bl11 := bl5.trans (T.below.mono bl5.size)
    clear T
    refine Eng.tail_nil ?_
    show Code.wp Tryd.prog _ _ _ _
    refine wp_ret ?_
    exact Eng.ret1 rfl d11 h2_11 ⟨by rw [show k = 0 by omega, List.drop_zero], bl11⟩
end Go.Proofs.YthgafcaoibfchaaDoor.X
end
section
namespace Go.Proofs.YthgafcaoibfchaaDoor.X
open Go Go.RowKit Go.Shelf Go.Proofs Go.Proofs.YthgafcaoibfchaaDoor.Spl Go.Proofs.YthgafcaoibfchaaDoorW.PrintWords Go.Proofs.YthgafcaoibfchaaDoorW.PrintLast Go.Proofs.YthgafcaoibfchaaDoorW.PrintMore
set_option linter.unusedVariables false
set_option linter.unusedSimpArgs false
namespace Lnm
open Lpr
def byteAt (s : ByteArray) (i : Nat) : Nat := ((bl s).getD i 0).toNat
theorem run_index_str {a : Act} {w : World} {o : Oper} {s : ByteArray} {x ix : Operand} {i : Nat} (hop : o.op = .index 9 x ix) (hx : a.eval x = .string s) (hi : a.eval ix = .int .i64 (i : Int)) (h : i < s.size) : (execOp a.eval o).run Tryd.prog w = .ok (.value (.int .u8 ((byteAt s i : Nat) : Int))) w := by
  have hg : s[i]? = some ((bl s).getD i 0) := by
    rw [getElem?_pos s i h]
    unfold bl
    rw [List.getD_eq_getElem?_getD, List.getElem?_eq_getElem (by simpa using h)]
    simp [ByteArray.getElem_eq_getElem_data]
  have h0 : (0 : Int) ≤ (i : Int) := by omega
  unfold execOp; rw [hop]
  simp only [hx, hi, Instr.index, asIntOf, Sem.run_bind, Sem.run_pure, Result.andThen_ok, run_underlying Tryd.underlying9]
  simp [h0, hg, byteAt, Sem.run_bind, Sem.run_pure]
theorem run_sub1 {a : Act} {w : World} {o : Oper} {s : ByteArray} {x lo hi : Operand} {i : Nat} (hop : o.op = .slice 9 x (some lo) (some hi) none) (hx : a.eval x = .string s) (hlo : a.eval lo = .int .i64 (i : Int)) (hhi : a.eval hi = .int .i64 ((i + 1 : Nat) : Int)) (h : i < s.size) : (execOp a.eval o).run Tryd.prog w = .ok (.value (.string (s.extract i (i + 1)))) w := by
  have h0 : (0 : Int) ≤ (i : Int) := by omega
  have h1 : (0 : Int) ≤ ((i + 1 : Nat) : Int) := by omega
  have h2 : ((i + 1 : Nat) : Int) ≤ (s.size : Int) := by omega
  have h3 : (i : Int) ≤ ((i + 1 : Nat) : Int) := by omega
  unfold execOp; rw [hop]
  simp only [hx, hlo, hhi, Option.map_some, Option.map_none, Instr.sliceAt, Instr.slice, Sem.run_bind, Result.andThen_ok, run_underlying Tryd.underlying9]
  have hb : (Instr.sliceBounds false s.size s.size (some (.int .i64 (i : Int))) (some (.int .i64 ((i + 1 : Nat) : Int))) none).run Tryd.prog w = .ok (i, i + 1, s.size) w := by
    unfold Instr.sliceBounds Instr.sliceBound
    simp only [asIntOf, Sem.run_bind, Sem.run_pure, Result.andThen_ok]
    rw [if_pos ⟨h1, h2⟩]
    simp only [Sem.run_pure, Result.andThen_ok, Int.toNat_natCast]
    rw [if_pos ⟨h0, h3⟩]
    simp [Sem.run_pure]
  have hb' := hb
  rw [show ((i + 1 : Nat) : Int) = (i : Int) + 1 by omega] at hb'
  simp [Sem.run_bind, Sem.run_pure, hb']
theorem run_add_str {P : Program} {a : Act} {w : World} {o : Oper} {s t : ByteArray} {T U : TypeId} {x y : Operand} (hop : o.op = .binOp .add T x y U) (hx : a.eval x = .string s) (hy : a.eval y = .string t) (h : s.size + t.size ≤ 9223372036854775807) : (execOp a.eval o).run P w = .ok (.value (.string (s ++ t))) w := by
  have h1 : ¬ (((s.size + t.size : Nat) : Int) > IntKind.i64.max) := by
    have : IntKind.i64.max = 9223372036854775807 := by decide
    rw [this]; omega
  unfold execOp; rw [hop]
  simp only [hx, hy]
  simp [Sem.run_bind, Sem.run_pure, eqGuard, binOp, Op.stringOp, h1]
  omega
def mkB (l : List UInt8) : ByteArray := ⟨l.toArray⟩
theorem mk_bl (s : ByteArray) : mkB (bl s) = s := bl_back s
theorem bl_mk (l : List UInt8) : bl (mkB l) = l := by unfold bl mkB; simp
theorem mk_app (a b : List UInt8) : mkB (a ++ b) = mkB a ++ mkB b := by
  apply bl_inj
  rw [bl_mk, bl_app, bl_mk, bl_mk]
theorem mk_snoc {s : ByteArray} {i : Nat} (h : i < s.size) (l : List UInt8) : mkB l ++ s.extract i (i + 1) = mkB (l ++ [(bl s).getD i 0]) := by
  apply bl_inj
  rw [bl_app, bl_mk, bl_mk]
  congr 1
  unfold bl
  rw [ByteArray.data_extract, Array.toList_extract, List.getD_eq_getElem?_getD]
  have hl : i < s.data.toList.length := by simpa using h
  rw [List.getElem?_eq_getElem hl]
  simp [List.extract, List.drop_eq_getElem_cons hl, List.take_succ_cons]
theorem odd_eq (c : Nat) : ((((((decide ((c : Int) < 97) || decide ((c : Int) > 122)) && (decide ((c : Int) < 65) || decide ((c : Int) > 90))) && (decide ((c : Int) < 48) || decide ((c : Int) > 57))) && !((c : Int) == 45)) && !((c : Int) == 95))) = !Nam.namedN c := by
  unfold Nam.namedN
  rw [Bool.eq_iff_iff]
  simp only [Bool.and_eq_true, Bool.or_eq_true, decide_eq_true_eq, Bool.not_eq_true', beq_eq_false_iff_ne, Bool.or_eq_false_iff, Bool.and_eq_false_iff, decide_eq_false_iff_not]
  omega
theorem named_succ {s : ByteArray} {k : Nat} (h : ∀ i, i < k → Nam.namedN (byteAt s i) = true) (hk : Nam.namedN (byteAt s k) = true) : ∀ i, i < k + 1 → Nam.namedN (byteAt s i) = true := by
  intro i hi
  rcases Nat.lt_or_ge i k with h1 | h1
  · exact h i h1
  · have : i = k := by omega
    rw [this]; exact hk
theorem name_len {s : ByteArray} (h : s.size < 1 ∨ 40 < s.size) : lexname.g s = false := by
  unfold lexname.g
  rcases h with h | h
  · have : s.toList = [] := by
      rw [ByteArray.toList_eq]
      exact List.eq_nil_of_length_eq_zero (by have := bl_size s; unfold bl at this; omega)
    rw [this]; simp
  · rw [decide_eq_false (by omega)]; simp
theorem name_at {s : ByteArray} {k : Nat} (hk : k < s.size) (h : Nam.namedN (byteAt s k) = false) : lexname.g s = false := by
  unfold lexname.g
  have : (s.data.toList.all Nam.nameByte) = false := by
    rw [List.all_eq_false]
    refine ⟨(bl s).getD k 0, ?_, ?_⟩
    · rw [List.getD_eq_getElem?_getD, List.getElem?_eq_getElem (by rw [bl_size]; exact hk)]
      exact List.getElem_mem _
    · unfold Nam.nameByte
      unfold byteAt at h
      rw [h]; simp
  rw [this]; simp
theorem name_all {s : ByteArray} (h1 : 1 ≤ s.size) (h2 : s.size ≤ 40) (h : ∀ i, i < s.size → Nam.namedN (byteAt s i) = true) : lexname.g s = true := by
  unfold lexname.g
  rw [decide_eq_true h2]
  have e : (s.data.toList.all Nam.nameByte) = true := by
    rw [List.all_eq_true]
    intro b hb
    obtain ⟨i, hi, rfl⟩ := List.getElem_of_mem hb
    have hi' : i < s.size := by have := bl_size s; unfold bl at this; omega
    have := h i hi'
    unfold byteAt bl at this
    rw [List.getD_eq_getElem?_getD, List.getElem?_eq_getElem hi] at this
    exact this
  have hn : (s.toList == ([] : List UInt8)) = false := by
    rw [beq_eq_false_iff_ne, ByteArray.toList_eq]
    intro e
    have := bl_size s
    unfold bl at this
    rw [e] at this
    simp at this
    omega
  rw [e, hn]; rfl
theorem rights_at : ∀ (l : List ByteArray) (pre : List (List UInt8)), rightB pre l = true ↔ (∀ s ∈ l, lexname.g s = true ∧ bl s ∉ pre) ∧ (l.map bl).Nodup
  | [], pre => by simp [rightB]
  | x :: t, pre => by
    rw [rightB]
    simp only [Bool.and_eq_true, Bool.not_eq_true', decide_eq_false_iff_not]
    rw [rights_at t]
    constructor
    · rintro ⟨⟨h1, h2⟩, h3, h4⟩
      refine ⟨fun s hs => ?_, ?_⟩
      · rcases List.mem_cons.1 hs with rfl | hs
        · exact ⟨h1, h2⟩
        · exact ⟨(h3 s hs).1, fun e => (h3 s hs).2 (List.mem_append_left _ e)⟩
      · rw [List.map_cons, List.nodup_cons]
        refine ⟨fun hm => ?_, h4⟩
        obtain ⟨y, hy, e⟩ := List.mem_map.1 hm
        exact (h3 y hy).2 (by rw [e]; simp [bl])
    · rintro ⟨h1, h2⟩
      rw [List.map_cons, List.nodup_cons] at h2
      refine ⟨⟨(h1 x List.mem_cons_self).1, (h1 x List.mem_cons_self).2⟩, fun s hs => ⟨(h1 s (List.mem_cons_of_mem _ hs)).1, fun e => ?_⟩, h2.2⟩
      rcases List.mem_append.1 e with e | e
      · exact (h1 s (List.mem_cons_of_mem _ hs)).2 e
      · have : bl s = bl x := by simpa [bl] using e
        exact h2.1 (List.mem_map.2 ⟨s, hs, this⟩)
def at' (l : List ByteArray) (i : Nat) : ByteArray := l.getD i default
theorem at_mem {l : List ByteArray} {i : Nat} (h : i < l.length) : at' l i ∈ l := by
  unfold at'; rw [List.getD_eq_getElem?_getD, List.getElem?_eq_getElem h]; exact List.getElem_mem h
theorem names_bad {l : List ByteArray} {k : Nat} (hk : k < l.length) (h : lexname.g (l.getD k default) = false) : rightB [] l = false := by
  cases hr : rightB [] l with
  | false => rfl
  | true =>
    have := (((rights_at l []).1 hr).1 _ (at_mem hk)).1
    unfold at' at this
    rw [h] at this; cases this
theorem names_twice {l : List ByteArray} {j k : Nat} (hj : j < k) (hk : k < l.length) (h : ((l.getD j default).toList == (l.getD k default).toList) = true) : rightB [] l = false := by
  cases hr : rightB [] l with
  | false => rfl
  | true =>
    have hn := ((rights_at l []).1 hr).2
    have := List.pairwise_iff_getElem.1 hn j k (by simp; omega) (by simpa using hk) hj
    rw [beq_iff_eq, ByteArray.toList_eq, ByteArray.toList_eq, List.getD_eq_getElem?_getD, List.getD_eq_getElem?_getD, List.getElem?_eq_getElem (show j < l.length by omega), List.getElem?_eq_getElem hk] at h
    exact absurd (by simpa [bl] using h) this
theorem names_all {l : List ByteArray} (h : ∀ k, k < l.length → lexname.g (l.getD k default) = true ∧ ∀ j, j < k → ((l.getD j default).toList == (l.getD k default).toList) = false) : rightB [] l = true := by
  refine (rights_at l []).2 ⟨fun s hs => ?_, ?_⟩
  · obtain ⟨i, hi, rfl⟩ := List.getElem_of_mem hs
    have := (h i hi).1
    rw [List.getD_eq_getElem?_getD, List.getElem?_eq_getElem hi] at this
    exact ⟨this, by simp⟩
  · refine List.pairwise_iff_getElem.2 fun j k hj hk hlt e => ?_
    have hk' : k < l.length := by simpa using hk
    have := (h k hk').2 j hlt
    rw [beq_eq_false_iff_ne, ByteArray.toList_eq, ByteArray.toList_eq, List.getD_eq_getElem?_getD, List.getD_eq_getElem?_getD, List.getElem?_eq_getElem (show j < l.length by omega), List.getElem?_eq_getElem hk'] at this
    exact this (by simpa [bl] using e)
theorem pair_succ {l : List ByteArray} {k : Nat} (h : ∀ i, i < k → lexname.g (l.getD i default) = true ∧ ∀ j, j < i → ((l.getD j default).toList == (l.getD i default).toList) = false) (h1 : lexname.g (l.getD k default) = true) (h2 : ∀ j, j < k → ((l.getD j default).toList == (l.getD k default).toList) = false) :
    ∀ i, i < k + 1 → lexname.g (l.getD i default) = true ∧ ∀ j, j < i → ((l.getD j default).toList == (l.getD i default).toList) = false := by
  intro i hi
  rcases Nat.lt_or_ge i k with h3 | h3
  · exact h i h3
  · have : i = k := by omega
    rw [this]; exact ⟨h1, h2⟩
theorem one_succ {l : List ByteArray} {j k : Nat} (h : ∀ i, i < j → ((l.getD i default).toList == (l.getD k default).toList) = false) (hj : ((l.getD j default).toList == (l.getD k default).toList) = false) : ∀ i, i < j + 1 → ((l.getD i default).toList == (l.getD k default).toList) = false := by
  intro i hi
  rcases Nat.lt_or_ge i j with h3 | h3
  · exact h i h3
  · have : i = j := by omega
    rw [this]; exact hj
theorem may_form {l0 l1 : List ByteArray} : ((((decide (((l0.length : Nat) : Int) ≥ 1) && decide (((l0.length : Nat) : Int) ≤ 10)) && decide (((l1.length : Nat) : Int) ≤ 64)) && rightB [] l0) && rightB [] l1) = mayB l0 l1 := by
  unfold mayB
  have e1 : decide (((l0.length : Nat) : Int) ≥ 1) = decide (1 ≤ l0.length) := by rw [Bool.eq_iff_iff, decide_eq_true_eq, decide_eq_true_eq]; omega
  have e2 : decide (((l0.length : Nat) : Int) ≤ 10) = decide (l0.length ≤ 10) := by rw [Bool.eq_iff_iff, decide_eq_true_eq, decide_eq_true_eq]; omega
  have e3 : decide (((l1.length : Nat) : Int) ≤ 64) = decide (l1.length ≤ 64) := by rw [Bool.eq_iff_iff, decide_eq_true_eq, decide_eq_true_eq]; omega
  rw [e1, e2, e3]
theorem place_hit {l : List ByteArray} {s : ByteArray} {k : Nat} (hk : k < l.length) (h : ((l.getD k default).toList == s.toList) = true) (hn : ∀ i, i < k → ((l.getD i default).toList == s.toList) = false) : place l (bl s) = (k : Int) := by
  have ed : (default : ByteArray) = ByteArray.empty := rfl
  unfold place
  rw [bl_back]
  unfold Lib.idxOfS
  rw [Lib.idxFromS_hit s l k 0 hk ?_ ?_, Nat.zero_add]
  · rw [beq_iff_eq, ByteArray.toList_eq, ByteArray.toList_eq, ed] at h
    exact bl_inj h
  · intro j hj e
    have := hn j hj
    rw [beq_eq_false_iff_ne, ed, e] at this
    exact this rfl
theorem place_miss {l : List ByteArray} {s : ByteArray} (hn : ∀ i, i < l.length → ((l.getD i default).toList == s.toList) = false) : place l (bl s) = -1 := by
  have ed : (default : ByteArray) = ByteArray.empty := rfl
  unfold place
  rw [bl_back]
  unfold Lib.idxOfS
  refine Lib.idxFromS_miss s l 0 fun j hj e => ?_
  have := hn j hj
  rw [beq_eq_false_iff_ne, ed, e] at this
  exact this rfl
theorem none_succ {l : List ByteArray} {s : ByteArray} {k : Nat} (h : ∀ i, i < k → ((l.getD i default).toList == s.toList) = false) (hk : ((l.getD k default).toList == s.toList) = false) : ∀ i, i < k + 1 → ((l.getD i default).toList == s.toList) = false := by
  intro i hi
  rcases Nat.lt_or_ge i k with h3 | h3
  · exact h i h3
  · have : i = k := by omega
    rw [this]; exact hk
theorem place_lt (l : List ByteArray) (x : List UInt8) : place l x < (l.length : Int) := by
  have gen : ∀ (l : List ByteArray) (i : Nat), Lib.idxFromS l ⟨x.toArray⟩ i < ((i + l.length : Nat) : Int) := by
    intro l
    induction l with
    | nil => intro i; simp only [Lib.idxFromS]; omega
    | cons z t ih =>
      intro i
      simp only [Lib.idxFromS, List.length_cons]
      split
      · omega
      · have := ih (i + 1); omega
  have := gen l 0
  rw [Nat.zero_add] at this
  exact this
abbrev Wst := List (List UInt8) × List UInt8
def sep (b : UInt8) : Bool := b == 58 || b == 44
def wstep (q : Wst) (b : UInt8) : Wst := if sep b = true then (q.1 ++ [q.2], []) else (q.1, q.2 ++ [b])
def wst (l : List UInt8) : Wst := l.foldl wstep ([], [])
def wordsOf (l : List UInt8) : List (List UInt8) := (wst l).1 ++ [(wst l).2]
theorem wst_take {l : List UInt8} {k : Nat} (h : k < l.length) : wst (l.take (k + 1)) = wstep (wst (l.take k)) (l.getD k 0) := by
  unfold wst
  rw [List.take_add_one, List.getElem?_eq_getElem h, List.foldl_append, List.getD_eq_getElem?_getD, List.getElem?_eq_getElem h]; rfl
theorem wst_len : ∀ (l : List UInt8) (q : Wst), (l.foldl wstep q).1.length ≤ q.1.length + l.length ∧ (l.foldl wstep q).2.length ≤ q.2.length + l.length
  | [], q => ⟨Nat.le_refl _, Nat.le_refl _⟩
  | b :: l, q => by
    obtain ⟨h1, h2⟩ := wst_len l (wstep q b)
    have h3 : (wstep q b).1.length ≤ q.1.length + 1 ∧ (wstep q b).2.length ≤ q.2.length + 1 := by
      unfold wstep; split <;> simp
    rw [List.foldl_cons, List.length_cons]
    omega
theorem wst_clean : ∀ (l : List UInt8) (q : Wst), (∀ b ∈ l, b ≠ 58) → (∀ b ∈ l, b ≠ 44) → l.foldl wstep q = (q.1, q.2 ++ l)
  | [], q, _, _ => by simp
  | b :: l, q, h1, h2 => by
    have hs : sep b = false := by
      unfold sep
      have e1 : (b == 58) = false := by rw [beq_eq_false_iff_ne]; exact h1 b List.mem_cons_self
      have e2 : (b == 44) = false := by rw [beq_eq_false_iff_ne]; exact h2 b List.mem_cons_self
      rw [e1, e2]; rfl
    rw [List.foldl_cons, wst_clean l _ (fun x hx => h1 x (List.mem_cons_of_mem _ hx)) (fun x hx => h2 x (List.mem_cons_of_mem _ hx))]
    unfold wstep
    rw [if_neg (by rw [hs]; simp)]
    simp
theorem wst_join : ∀ (xs : List (List UInt8)) (ws : List (List UInt8)), xs ≠ [] → (∀ x ∈ xs, (∀ b ∈ x, b ≠ 58) ∧ ∀ b ∈ x, b ≠ 44) → ((Lib.join xs [44]).foldl wstep (ws, [])).1 ++ [((Lib.join xs [44]).foldl wstep (ws, [])).2] = ws ++ xs
  | [], _, h, _ => absurd rfl h
  | [x], ws, _, h => by
    rw [Lib.join_one, wst_clean x _ (h x List.mem_cons_self).1 (h x List.mem_cons_self).2]; simp
  | x :: y :: t, ws, _, h => by
    have ih := wst_join (y :: t) (ws ++ [x]) (by simp) fun z hz => h z (List.mem_cons_of_mem _ hz)
    rw [join2, List.foldl_append, wst_clean x _ (h x List.mem_cons_self).1 (h x List.mem_cons_self).2, List.foldl_cons]
    have e : wstep (ws, [] ++ x) 44 = (ws ++ [x], []) := by unfold wstep; rw [if_pos (by decide)]; simp
    simp only at e ⊢
    rw [e, ih]; simp
def inB (l1 : List ByteArray) (b : List Bool) (ws : List (List UInt8)) : List Bool := ws.foldl (fun b x => if place l1 x ≥ 0 then b.set (place l1 x).toNat true else b) b
theorem inB_len (l1 : List ByteArray) : ∀ (ws : List (List UInt8)) (b : List Bool), (inB l1 b ws).length = b.length
  | [], b => rfl
  | x :: ws, b => by
    have := inB_len l1 ws (if place l1 x ≥ 0 then b.set (place l1 x).toNat true else b)
    unfold inB at this ⊢
    rw [List.foldl_cons, this]
    split <;> simp
theorem inB_snoc (l1 : List ByteArray) (b : List Bool) (ws : List (List UInt8)) (x : List UInt8) : inB l1 b (ws ++ [x]) = if place l1 x ≥ 0 then (inB l1 b ws).set (place l1 x).toNat true else inB l1 b ws := by
  unfold inB; rw [List.foldl_append]; rfl
theorem inB_sel (l1 : List ByteArray) (hn : l1.Nodup) (h64 : l1.length ≤ 64) (X : Nat) : ∀ (t : List ByteArray) (i : Nat) (b : List Bool), l1.drop i = t → b.length = 64 → ∀ j, (inB l1 b ((selN t X i).map bl)).getD j false = (b.getD j false || (decide (i ≤ j) && decide (j < l1.length) && X.testBit j))
  | [], i, b, ht, hb, j => by
    have : l1.length ≤ i := List.drop_eq_nil_iff.1 ht
    show b.getD j false = _
    by_cases h : i ≤ j
    · rw [decide_eq_false (show ¬ j < l1.length by omega)]; simp
    · rw [decide_eq_false h]; simp
  | s :: t, i, b, ht, hb, j => by
    have hi : i < l1.length := by
      rcases Nat.lt_or_ge i l1.length with h | h
      · exact h
      · rw [List.drop_eq_nil_of_le h] at ht; cases ht
    have hs : s = l1.getD i ByteArray.empty ∧ l1.drop (i + 1) = t := by
      rw [List.drop_eq_getElem_cons hi] at ht
      injection ht with h1 h2
      rw [List.getD_eq_getElem?_getD, List.getElem?_eq_getElem hi]
      exact ⟨h1.symm, h2⟩
    have split : (decide (i ≤ j) && decide (j < l1.length) && X.testBit j) = ((decide (j = i) && X.testBit i) || (decide (i + 1 ≤ j) && decide (j < l1.length) && X.testBit j)) := by
      rcases Nat.lt_trichotomy j i with h | h | h
      · rw [decide_eq_false (show ¬ i ≤ j by omega), decide_eq_false (show ¬ j = i by omega), decide_eq_false (show ¬ i + 1 ≤ j by omega)]; simp
      · subst h
        rw [decide_eq_true (Nat.le_refl j), decide_eq_true hi, decide_eq_false (show ¬ j + 1 ≤ j by omega)]; simp
      · rw [decide_eq_true (show i ≤ j by omega), decide_eq_false (show ¬ j = i by omega), decide_eq_true (show i + 1 ≤ j by omega)]; simp
    rw [selN]
    cases hx : X.testBit i with
    | true =>
      rw [if_pos rfl, List.map_cons]
      have e : inB l1 b (bl s :: (selN t X (i + 1)).map bl) = inB l1 (b.set i true) ((selN t X (i + 1)).map bl) := by
        unfold inB
        rw [List.foldl_cons, hs.1, place_at hn hi, if_pos (by omega), Int.toNat_natCast]
      rw [e, inB_sel l1 hn h64 X t (i + 1) _ hs.2 (by rw [List.length_set]; exact hb) j, split, hx]
      have e2 : (b.set i true).getD j false = (b.getD j false || decide (j = i)) := by
        rw [List.getD_eq_getElem?_getD, List.getD_eq_getElem?_getD, List.getElem?_set]
        by_cases h : i = j
        · subst h; rw [if_pos rfl, if_pos (by omega)]; simp
        · rw [if_neg h, decide_eq_false (show ¬ j = i by omega)]; simp
      rw [e2]
      cases b.getD j false <;> cases decide (j = i) <;> simp
    | false =>
      rw [if_neg (by simp), inB_sel l1 hn h64 X t (i + 1) b hs.2 hb j, split, hx]; simp
def parseR (l0 l1 : List ByteArray) (s : List UInt8) : Int × Int × Int :=
  if mayB l0 l1 = false then (0, 0, 2) else
  let lv := place l0 ((wordsOf s).getD 0 [])
  let ct := Lat.ofL (inB l1 (List.replicate 64 false) ((wordsOf s).drop 1))
  if s = [] ∨ printB l0 l1 lv ct ≠ s then (0, 0, 17) else (lv, ct, 0)
theorem backR {l0 l1 : List ByteArray} {lv ct : Int} (hm : mayB l0 l1 = true) (hr : rightL l0 l1 lv ct = true) (hc0 : 0 ≤ ct) (hc1 : ct ≤ 18446744073709551615) : place l0 ((wordsOf (textL l0 l1 lv ct)).getD 0 []) = lv ∧ Lat.ofL (inB l1 (List.replicate 64 false) ((wordsOf (textL l0 l1 lv ct)).drop 1)) = ct := by
  obtain ⟨⟨a1, a2, a3⟩, ⟨b1, b2⟩, d1, d2⟩ := may_ok hm
  unfold rightL at hr
  simp only [Bool.and_eq_true, decide_eq_true_eq] at hr
  obtain ⟨⟨r1, r2⟩, r3⟩ := hr
  obtain ⟨X, rfl⟩ := Int.eq_ofNat_of_zero_le hc0
  obtain ⟨n, rfl⟩ := Int.eq_ofNat_of_zero_le r1
  have hn : n < l0.length := by omega
  have hX : X < 2 ^ l1.length := by
    have h1 := bitLen_lt 64 X (by omega)
    refine Nat.lt_of_lt_of_le h1 (Nat.pow_le_pow_right (by omega) ?_)
    rw [Int.toNat_natCast] at r3
    have : Lib.bitLen X ≤ l1.length := by omega
    exact this
  have hbits : ∀ j, l1.length ≤ j → X.testBit j = false := fun j hj => Nat.testBit_lt_two_pow (Nat.lt_of_lt_of_le hX (Nat.pow_le_pow_right (by omega) hj))
  have hlv : rdOf ByteArray.empty l0 (n : Int) = l0.getD n ByteArray.empty := by unfold rdOf; rw [Int.toNat_natCast]
  have hmem : l0.getD n ByteArray.empty ∈ l0 := by rw [List.getD_eq_getElem?_getD, List.getElem?_eq_getElem hn]; exact List.getElem_mem _
  obtain ⟨n1, n2, n3, n4⟩ := name_ok (b1 _ hmem)
  have hw : wordsOf (textL l0 l1 (n : Int) (X : Int)) = bl (l0.getD n ByteArray.empty) :: (selN l1 X 0).map bl := by
    unfold textL
    rw [hlv, Int.toNat_natCast]
    unfold finL wordsOf wst
    by_cases hz : (selN l1 X 0).map bl = []
    · rw [if_pos hz, hz, wst_clean _ _ n3 n4]; rfl
    · rw [if_neg hz, List.foldl_append, wst_clean _ _ n3 n4, List.foldl_cons]
      have e : wstep ([], [] ++ bl (l0.getD n ByteArray.empty)) 58 = ([bl (l0.getD n ByteArray.empty)], []) := by unfold wstep; rw [if_pos (by decide)]; simp
      simp only at e ⊢
      rw [e, wst_join _ _ hz]
      · rfl
      · intro x hx
        obtain ⟨s, hs, rfl⟩ := List.mem_map.1 hx
        obtain ⟨m1, m2, m3, m4⟩ := name_ok (d1 s (selN_sub _ _ _ s hs))
        exact ⟨m3, m4⟩
  rw [hw]
  refine ⟨place_at b2 hn, ?_⟩
  rw [List.drop_succ_cons, List.drop_zero]
  obtain ⟨h1, h2, h3⟩ := Lat.ofL_toNat (inB l1 (List.replicate 64 false) ((selN l1 X 0).map bl)) (by rw [inB_len]; simp)
  obtain ⟨Z, hZ⟩ := Int.eq_ofNat_of_zero_le h1
  rw [hZ]
  have : Z = X := Nat.eq_of_testBit_eq fun j => by
    have h4 := h3 j
    rw [hZ, Int.toNat_natCast] at h4
    rw [h4, inB_sel l1 d2 a3 X l1 0 _ rfl (by simp) j]
    have e0 : (List.replicate 64 false).getD j false = false := by
      rw [List.getD_eq_getElem?_getD, List.getElem?_replicate]; split <;> rfl
    rw [e0, Bool.false_or, decide_eq_true (Nat.zero_le j), Bool.true_and]
    rcases Nat.lt_or_ge j l1.length with h | h
    · rw [decide_eq_true h, Bool.true_and]
    · rw [decide_eq_false (show ¬ j < l1.length by omega), Bool.false_and, hbits j h]
  rw [this]
theorem print_iff {l0 l1 : List ByteArray} {lv ct : Int} (h : printB l0 l1 lv ct ≠ []) : mayB l0 l1 = true ∧ rightL l0 l1 lv ct = true := by
  unfold printB at h
  cases h1 : mayB l0 l1 <;> cases h2 : rightL l0 l1 lv ct <;> simp_all
theorem parse_same (l0 l1 : List ByteArray) (s : List UInt8) : parseB l0 l1 s = parseR l0 l1 s := by
  cases hm : mayB l0 l1 with
  | false => unfold parseB parseR; rw [if_pos hm, if_pos hm]
  | true =>
    have hcr : 0 ≤ Lat.ofL (inB l1 (List.replicate 64 false) ((wordsOf s).drop 1)) ∧ Lat.ofL (inB l1 (List.replicate 64 false) ((wordsOf s).drop 1)) ≤ 18446744073709551615 := Lat.ofL_bounds _
    by_cases hs : ∃ lv ct, rightL l0 l1 lv ct = true ∧ (0 ≤ ct ∧ ct ≤ 18446744073709551615) ∧ textL l0 l1 lv ct = s
    · obtain ⟨lv, ct, hr, ⟨h0, h1⟩, rfl⟩ := hs
      rw [parse_back hm hr h0 h1]
      obtain ⟨e1, e2⟩ := backR hm hr h0 h1
      unfold parseR
      rw [if_neg (by rw [hm]; simp)]
      simp only
      rw [e1, e2, print_is hm hr, if_neg]
      rintro (e | e)
      · exact (back hm hr h0 h1).1 e
      · exact e rfl
    · have no : ∀ lv ct, 0 ≤ ct → ct ≤ 18446744073709551615 → s ≠ [] → printB l0 l1 lv ct ≠ s := by
        intro lv ct h0 h1 hne e
        have hp := print_iff (l0 := l0) (l1 := l1) (lv := lv) (ct := ct) (by rw [e]; exact hne)
        exact hs ⟨lv, ct, hp.2, ⟨h0, h1⟩, (print_is hm hp.2).symm.trans e⟩
      have h17 : ∀ lv ct, 0 ≤ ct → ct ≤ 18446744073709551615 → (s = [] ∨ printB l0 l1 lv ct ≠ s) := fun lv ct h0 h1 => by
        by_cases hne : s = []
        · exact .inl hne
        · exact .inr (no lv ct h0 h1 hne)
      have hct : 0 ≤ (if (cutL s).2.2 = true then catsOf l1 (pieces (cutL s).2.1.length (cutL s).2.1) 0 else 0) ∧ (if (cutL s).2.2 = true then catsOf l1 (pieces (cutL s).2.1.length (cutL s).2.1) 0 else 0) ≤ 18446744073709551615 := by
        split
        · exact cats_range l1 _ 0 ⟨by omega, by omega⟩
        · omega
      have eB : parseB l0 l1 s = (0, 0, 17) := by
        unfold parseB
        rw [if_neg (by rw [hm]; simp)]
        simp only
        rw [if_pos (h17 _ _ hct.1 hct.2)]
      have eR : parseR l0 l1 s = (0, 0, 17) := by
        unfold parseR
        rw [if_neg (by rw [hm]; simp)]
        simp only
        rw [if_pos (h17 _ _ hcr.1 hcr.2)]
      rw [eB, eR]
end Lnm
end Go.Proofs.YthgafcaoibfchaaDoor.X
end
section
namespace Go.Proofs.YthgafcaoibfchaaDoor.X
open Go Go.RowKit Go.Shelf Go.Proofs Go.Proofs.YthgafcaoibfchaaDoor.Spl Go.Proofs.YthgafcaoibfchaaDoorW.PrintWords Go.Proofs.YthgafcaoibfchaaDoorW.PrintLast Go.Proofs.YthgafcaoibfchaaDoorW.PrintMore
set_option linter.unusedVariables false
set_option linter.unusedSimpArgs false
namespace Lnm
open Lpr
theorem app_size (s t : ByteArray) : (s ++ t).size = s.size + t.size := by rw [← bl_size, bl_app, List.length_append, bl_size, bl_size]
theorem rright_calls (l0 l1 : List ByteArray) (lv ct : Int) (w : World) (hc0 : 0 ≤ ct) (hc1 : ct ≤ 18446744073709551615) : Calls Tryd.prog 25 #[.agg #[.int .i64 lv, .int .u64 ct], .int .i64 ((l0.length : Nat) : Int), .int .i64 ((l1.length : Nat) : Int)] w fun e w' => e = .returned (.bool (rightL l0 l1 lv ct)) ∧ Below w.heap.size w w' := by
  have h := Lat.rright_calls lv ct ((l0.length : Nat) : Int) ((l1.length : Nat) : Int) w hc0 hc1
  have e : Lat.rt lv ct ((l0.length : Nat) : Int) ((l1.length : Nat) : Int) = rightL l0 l1 lv ct := by
    unfold Lat.rt rightL
    have : mx ((l1.length : Nat) : Int) 0 = ((l1.length : Nat) : Int) := by unfold mx; split <;> omega
    rw [this]
  rw [e] at h
  exact h
theorem selN_app : ∀ (l : List ByteArray) (x : ByteArray) (X i : Nat), selN (l ++ [x]) X i = selN l X i ++ (if X.testBit (i + l.length) = true then [x] else [])
  | [], x, X, i => by simp only [List.nil_append, selN, List.length_nil, Nat.add_zero]
  | y :: t, x, X, i => by
    have := selN_app t x X (i + 1)
    rw [show i + 1 + t.length = i + (y :: t).length by simp; omega] at this
    rw [List.cons_append, selN, selN, this]
    by_cases h : X.testBit i = true
    · rw [if_pos h, if_pos h, List.cons_append]
    · rw [if_neg h, if_neg h]
theorem selN_take {l : List ByteArray} {k : Nat} (h : k < l.length) (X : Nat) : selN (l.take (k + 1)) X 0 = selN (l.take k) X 0 ++ (if X.testBit k = true then [l.getD k default] else []) := by
  rw [List.take_add_one, List.getElem?_eq_getElem h, List.getD_eq_getElem?_getD, List.getElem?_eq_getElem h]
  have := selN_app (l.take k) l[k] X 0
  rw [Nat.zero_add, List.length_take, Nat.min_eq_left (by omega)] at this
  exact this
theorem join_snoc : ∀ (xs : List (List UInt8)) (y : List UInt8), xs ≠ [] → Lib.join (xs ++ [y]) [44] = Lib.join xs [44] ++ 44 :: y
  | [], _, h => absurd rfl h
  | [x], y, _ => by
    show Lib.join (x :: y :: []) [44] = _
    rw [join2, Lib.join_one, Lib.join_one]
  | x :: z :: t, y, _ => by
    have := join_snoc (z :: t) y (by simp)
    show Lib.join (x :: z :: (t ++ [y])) [44] = _
    rw [join2, join2]
    show x ++ 44 :: Lib.join ((z :: t) ++ [y]) [44] = _
    rw [this]; simp
def mark (xs : List ByteArray) : ByteArray := if xs = [] then ⟨#[58]⟩ else ⟨#[44]⟩
theorem mark_size (xs : List ByteArray) : (mark xs).size = 1 := by unfold mark; split <;> rfl
def prT (l0 l1 : List ByteArray) (a0 a1 : Int) (k : Nat) : ByteArray := mkB (finL (bl (l0.getD a0.toNat default)) ((selN (l1.take k) a1.toNat 0).map bl))
theorem finL_snoc (lvl : List UInt8) (xs : List ByteArray) (y : ByteArray) : finL lvl ((xs ++ [y]).map bl) = finL lvl (xs.map bl) ++ (bl (mark xs) ++ bl y) := by
  unfold finL mark
  by_cases h : xs = []
  · subst h
    rw [if_neg (by simp), if_pos (by simp), if_pos rfl]
    show lvl ++ 58 :: Lib.join [bl y] [44] = _
    rw [Lib.join_one]; rfl
  · rw [if_neg (by simp), if_neg (by simpa using h), if_neg h, List.map_append]
    have := join_snoc (xs.map bl) (bl y) (by simpa using h)
    show lvl ++ 58 :: Lib.join (xs.map bl ++ [bl y]) [44] = _
    rw [this]
    simp [bl]
theorem prT_zero (l0 l1 : List ByteArray) (a0 a1 : Int) : l0.getD a0.toNat default = prT l0 l1 a0 a1 0 := by
  unfold prT
  rw [List.take_zero]
  show _ = mkB (finL _ [])
  unfold finL
  rw [if_pos rfl, mk_bl]
theorem prT_put {l0 l1 : List ByteArray} {a0 a1 : Int} {k : Nat} (hk : k < l1.length) (hb : a1.toNat.testBit k = true) : (prT l0 l1 a0 a1 k ++ mark (selN (l1.take k) a1.toNat 0)) ++ l1.getD k default = prT l0 l1 a0 a1 (k + 1) := by
  unfold prT
  rw [selN_take hk, if_pos hb, finL_snoc, mk_app, mk_app, mk_bl, mk_bl]
  apply bl_inj
  rw [bl_app, bl_app, bl_app, bl_app, List.append_assoc]
theorem prT_not {l0 l1 : List ByteArray} {a0 a1 : Int} {k : Nat} (hk : k < l1.length) (hb : a1.toNat.testBit k = false) : prT l0 l1 a0 a1 (k + 1) = prT l0 l1 a0 a1 k := by
  unfold prT
  rw [selN_take hk, if_neg (by rw [hb]; simp), List.append_nil]
theorem mark_put {l1 : List ByteArray} {a1 : Int} {k : Nat} (hk : k < l1.length) (hb : a1.toNat.testBit k = true) : mark (selN (l1.take (k + 1)) a1.toNat 0) = ⟨#[44]⟩ := by
  rw [selN_take hk, if_pos hb]
  unfold mark
  rw [if_neg (by simp)]
theorem mark_not {l1 : List ByteArray} {a1 : Int} {k : Nat} (hk : k < l1.length) (hb : a1.toNat.testBit k = false) : mark (selN (l1.take (k + 1)) a1.toNat 0) = mark (selN (l1.take k) a1.toNat 0) := by
  rw [selN_take hk, if_neg (by rw [hb]; simp), List.append_nil]
theorem has_bit {a1 : Int} (h0 : 0 ≤ a1) (h1 : a1 ≤ 18446744073709551615) (k : Nat) : Lat.has a1 (k : Int) = a1.toNat.testBit k := by
  unfold Lat.has
  rw [Int.toNat_natCast]
  exact Lat.bv_getLsbD h0 h1 k
theorem prT_all {l0 l1 : List ByteArray} {a0 a1 : Int} (hm : mayB l0 l1 = true) (hr : rightL l0 l1 a0 a1 = true) : prT l0 l1 a0 a1 l1.length = mkB (printB l0 l1 a0 a1) := by
  rw [print_is hm hr]
  unfold prT textL rdOf
  rw [List.take_length]; rfl
theorem prT_size {l0 l1 : List ByteArray} {a0 a1 : Int} {k : Nat} (hm : mayB l0 l1 = true) (hr : rightL l0 l1 a0 a1 = true) : (prT l0 l1 a0 a1 k).size ≤ 3000 := by
  obtain ⟨⟨m1, m2, m3⟩, ⟨b1, b2⟩, d1, d2⟩ := may_ok hm
  unfold rightL at hr
  simp only [Bool.and_eq_true, decide_eq_true_eq] at hr
  have h0 := (name_ok (b1 _ (at_mem (l := l0) (i := a0.toNat) (by omega)))).2.1
  unfold at' at h0
  unfold prT
  rw [← bl_size, bl_mk]
  rw [← bl_size] at h0
  have hj : (Lib.join ((selN (l1.take k) a1.toNat 0).map bl) [44]).length ≤ 41 * 64 := by
    refine Nat.le_trans (join_le _ fun x hx => ?_) ?_
    · obtain ⟨s, hs, rfl⟩ := List.mem_map.1 hx
      have := (name_ok (d1 s (List.mem_of_mem_take (selN_sub _ _ _ s hs)))).2.1
      rw [← bl_size] at this; exact this
    · rw [List.length_map]
      have h1 := selN_len (l1.take k) a1.toNat 0
      rw [List.length_take] at h1
      omega
  unfold finL
  split
  · omega
  · rw [List.length_append, List.length_cons]; omega
theorem name_size {l0 l1 : List ByteArray} (hm : mayB l0 l1 = true) {k : Nat} (hk : k < l1.length) : (l1.getD k default).size ≤ 40 := by
  obtain ⟨_, _, d1, _⟩ := may_ok hm
  exact (name_ok (d1 _ (at_mem hk))).2.1
theorem right_ok {l0 l1 : List ByteArray} {a0 a1 : Int} (hr : rightL l0 l1 a0 a1 = true) : 0 ≤ a0 ∧ a0 < ((l0.length : Nat) : Int) := by
  unfold rightL at hr
  simp only [Bool.and_eq_true, decide_eq_true_eq] at hr
  exact hr.1
def ws (s : ByteArray) (k : Nat) : List ByteArray := (wst ((bl s).take k)).1.map mkB
def wd (s : ByteArray) (k : Nat) : ByteArray := mkB (wst ((bl s).take k)).2
theorem byte_sep (s : ByteArray) (k : Nat) : (((byteAt s k : Nat) : Int) == 58 || ((byteAt s k : Nat) : Int) == 44) = sep ((bl s).getD k 0) := by
  unfold byteAt sep
  generalize (bl s).getD k 0 = b
  have h : ∀ c : UInt8, ((b.toNat : Int) == (c.toNat : Int)) = (b == c) := fun c => by
    rw [Bool.eq_iff_iff, beq_iff_eq, beq_iff_eq]
    constructor
    · intro e; exact UInt8.toNat_inj.1 (by omega)
    · rintro rfl; rfl
  have h1 := h 58
  have h2 := h 44
  simp only [show ((58 : UInt8).toNat : Int) = 58 from rfl, show ((44 : UInt8).toNat : Int) = 44 from rfl] at h1 h2
  rw [h1, h2]
theorem ws_put {s : ByteArray} {k : Nat} (hk : k < s.size) (h : sep ((bl s).getD k 0) = true) : ws s (k + 1) = ws s k ++ [wd s k] := by
  unfold ws wd
  rw [wst_take (by rw [bl_size]; exact hk)]
  unfold wstep
  rw [if_pos h]; simp
theorem ws_not {s : ByteArray} {k : Nat} (hk : k < s.size) (h : sep ((bl s).getD k 0) = false) : ws s (k + 1) = ws s k := by
  unfold ws
  rw [wst_take (by rw [bl_size]; exact hk)]
  unfold wstep
  rw [if_neg (by rw [h]; simp)]
theorem wd_put {s : ByteArray} {k : Nat} (hk : k < s.size) (h : sep ((bl s).getD k 0) = true) : wd s (k + 1) = ⟨#[]⟩ := by
  unfold wd
  rw [wst_take (by rw [bl_size]; exact hk)]
  unfold wstep
  rw [if_pos h]; rfl
theorem wd_not {s : ByteArray} {k : Nat} (hk : k < s.size) (h : sep ((bl s).getD k 0) = false) : wd s k ++ s.extract k (k + 1) = wd s (k + 1) := by
  unfold wd
  rw [mk_snoc hk, wst_take (by rw [bl_size]; exact hk)]
  unfold wstep
  rw [if_neg (by rw [h]; simp)]
theorem ws_len (s : ByteArray) (k : Nat) : (ws s k).length ≤ k ∧ (wd s k).size ≤ k := by
  obtain ⟨h1, h2⟩ := wst_len ((bl s).take k) ([], [])
  unfold ws wd
  rw [List.length_map, ← bl_size, bl_mk]
  unfold wst
  simp only [List.length_nil, List.length_take] at h1 h2
  omega
theorem sub_size {s : ByteArray} {k : Nat} : (s.extract k (k + 1)).size ≤ 1 := by
  rw [ByteArray.size_extract]; omega
def allW (s : ByteArray) : List ByteArray := (wordsOf (bl s)).map mkB
theorem allW_eq (s : ByteArray) : ws s s.size ++ [wd s s.size] = allW s := by
  unfold ws wd allW wordsOf
  rw [← bl_size, List.take_length]; simp
theorem allW_pos (s : ByteArray) : 0 < (allW s).length := by unfold allW wordsOf; simp
theorem allW_len (s : ByteArray) : (allW s).length ≤ s.size + 1 := by
  rw [← allW_eq, List.length_append]
  have := (ws_len s s.size).1
  simp; omega
theorem allW_at (s : ByteArray) {j : Nat} (h : j < (allW s).length) : bl ((allW s).getD j default) = (wordsOf (bl s)).getD j [] := by
  unfold allW at h ⊢
  rw [List.length_map] at h
  rw [List.getD_eq_getElem?_getD, List.getElem?_map, List.getD_eq_getElem?_getD, List.getElem?_eq_getElem h]
  exact bl_mk _
def inT (l1 : List ByteArray) (s : ByteArray) (i : Nat) : List Bool := inB l1 (List.replicate 64 false) (((wordsOf (bl s)).drop 1).take i)
theorem inT_len (l1 : List ByteArray) (s : ByteArray) (i : Nat) : (inT l1 s i).length = 64 := by unfold inT; rw [inB_len]; simp
theorem inT_succ {l1 : List ByteArray} {s : ByteArray} {i : Nat} (h : i + 1 < (allW s).length) : inT l1 s (i + 1) = if place l1 (bl ((allW s).getD (i + 1) default)) ≥ 0 then (inT l1 s i).set (place l1 (bl ((allW s).getD (i + 1) default))).toNat true else inT l1 s i := by
  have hl : i + 1 < (wordsOf (bl s)).length := by unfold allW at h; rw [List.length_map] at h; exact h
  rw [allW_at s h]
  unfold inT
  rw [List.take_add_one, List.getElem?_drop, show 1 + i = i + 1 by omega, List.getElem?_eq_getElem hl, List.getD_eq_getElem?_getD, List.getElem?_eq_getElem hl]
  exact inB_snoc l1 _ _ _
theorem inT_all (l1 : List ByteArray) (s : ByteArray) {i : Nat} (h : (allW s).length ≤ i + 1) : inT l1 s i = inB l1 (List.replicate 64 false) ((wordsOf (bl s)).drop 1) := by
  unfold inT
  rw [List.take_of_length_le]
  unfold allW at h
  rw [List.length_map] at h
  rw [List.length_drop]; omega
theorem ofL_range (l : List Bool) : 0 ≤ Lat.ofL l ∧ Lat.ofL l ≤ 18446744073709551615 := Lat.ofL_bounds l
end Lnm
end Go.Proofs.YthgafcaoibfchaaDoor.X
end
