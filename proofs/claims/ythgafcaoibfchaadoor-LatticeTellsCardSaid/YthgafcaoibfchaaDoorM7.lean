/- Words and walks that the row of LatticeTells needs: printed by programs, and plain laws. -/
import Derived.Test.YthgafcaoibfchaaDoorM6
import Derived.Test.YthgafcaoibfchaaDoorM5
section
namespace Go.Proofs.YthgafcaoibfchaaDoor.X
open Go.RowKit Go.Shelf Go.Proofs Go.Proofs.YthgafcaoibfchaaDoorW.PrintWords Go.Proofs.YthgafcaoibfchaaDoorW.PrintLast Go.Proofs.YthgafcaoibfchaaDoorW.PrintMore
set_option linter.unusedVariables false
set_option linter.unusedSimpArgs false
attribute [local go_sem] max2_int min2_int max_two min_two
set_option maxHeartbeats 4000000 in
set_option maxRecDepth 100000 in
theorem Lat.rjoin_calls (a0 a1 b0 b1 : Int) (w : World) (ha0 : 0 ≤ a1) (ha1 : a1 ≤ 18446744073709551615) (hb0 : 0 ≤ b1) (hb1 : b1 ≤ 18446744073709551615) : Calls Tryd.prog 19 #[.agg #[.int .i64 a0, .int .u64 a1], .agg #[.int .i64 b0, .int .u64 b1]] w fun e w' => e = .returned (.agg #[.int .i64 (mx a0 b0), .int .u64 (Go.bits .or .u64 a1 b1)]) ∧ Below w.heap.size w w' := by
  have hu30 := Tryd.underlying30
  have hu28 := Tryd.underlying28
  refine Eng.enter Tryd.func19 rfl fun act0 d0 s0 v0 => ?_
  have s0 : act0.tmps.size = 31 := s0
  have h0_0 : act0.eval (.tmp 0) = .agg #[.int .i64 a0, .int .u64 a1] := v0 0 (by simp)
  have h1_0 : act0.eval (.tmp 1) = .agg #[.int .i64 b0, .int .u64 b1] := v0 1 (by simp)
  clear v0
  have bl0 : Below w.heap.size w w := Below.refl _ _
  refine wp_seq ?_
  refine Eng.regionS (Eng.still [fun v => True, fun v => True, fun v => True]) (fun i => ([.alloc 28 #[.int .i64 a0, .int .u64 a1], .alloc 28 #[.int .i64 b0, .int .u64 b1], .alloc 28 #[.int .i64 0, .int .u64 0]] : List Eng.Kind).getD i .plain) 3 0 31 s0 rfl (by kernel_rfl) (Eng.still_stable _) (Or.inr (Eng.still_any _)) ?_ ?_
  · refine Eng.Steps.cons (fun _ => ?_) (Eng.Steps.cons (fun _ => ?_) (Eng.Steps.cons (fun _ => ?_) (Eng.Steps.nil)))
    · refine Eng.made rfl (by simp) rfl (fun a w' hd ho => ?_) (fun _ _ => trivial)
      exact Eng.run_box rfl ((ho 0 (by kernel_rfl)).trans h0_0)
    · refine Eng.made rfl (by simp) rfl (fun a w' hd ho => ?_) (fun _ _ => trivial)
      exact Eng.run_box rfl ((ho 1 (by kernel_rfl)).trans h1_0)
    · refine Eng.made rfl (by simp) rfl (fun a w' hd ho => ?_) (fun _ _ => trivial)
      simp only [execOp]
      go_simp
  intro act1 w1 T
  have h0_1 : act1.eval (.tmp 0) = .agg #[.int .i64 a0, .int .u64 a1] := (T.rest 0 (by kernel_rfl)).trans h0_0
  have h1_1 : act1.eval (.tmp 1) = .agg #[.int .i64 b0, .int .u64 b1] := (T.rest 1 (by kernel_rfl)).trans h1_0
  obtain ⟨g2_1, h2_1, rg2_1, lg2_1_1, kg2_1_1⟩ := T.al 0 2 _ _ rfl rfl rfl (by kernel_rfl)
  have og2_1 : w.heap.size ≤ g2_1 := Nat.le_trans bl0.size rg2_1
  obtain ⟨g3_1, h3_1, rg3_1, lg3_1_1, kg3_1_1⟩ := T.al 1 3 _ _ rfl rfl rfl (by kernel_rfl)
  have og3_1 : w.heap.size ≤ g3_1 := Nat.le_trans bl0.size rg3_1
  obtain ⟨g4_1, h4_1, rg4_1, lg4_1_1, kg4_1_1⟩ := T.al 2 4 _ _ rfl rfl rfl (by kernel_rfl)
  have og4_1 : w.heap.size ≤ g4_1 := Nat.le_trans bl0.size rg4_1
  have ne_g4_1_g2_1 : g2_1 ≠ g4_1 := T.ne 0 2 2 4 rfl rfl rfl rfl rfl rfl h2_1 h4_1 rfl
  have ne_g4_1_g3_1 : g3_1 ≠ g4_1 := T.ne 1 2 3 4 rfl rfl rfl rfl rfl rfl h3_1 h4_1 rfl
  have d1 := T.defers.trans d0
  have s1 := T.size.trans s0
  have bl1 := bl0.trans (T.below.mono bl0.size)
  clear T
  refine Eng.tail_nil ?_
  show Code.wp Tryd.prog _ _ _ _
  refine wp_seq ?_
  refine Eng.regionS (Eng.still [fun v => True]) (fun i => ([.alloc 101 ((List.map Value.bool (List.replicate 64 false)).toArray)] : List Eng.Kind).getD i .plain) 1 0 31 s1 rfl (by kernel_rfl) (Eng.still_stable _) (Or.inr (Eng.still_any _)) ?_ ?_
  · refine Eng.Steps.cons (fun _ => ?_) (Eng.Steps.nil)
    · refine Eng.made rfl (by simp) rfl (fun a w' hd ho => ?_) (fun _ _ => trivial)
      exact Eng.run_alloc rfl (by kernel_rfl)
  intro act2 w2 T
  have h0_2 : act2.eval (.tmp 0) = .agg #[.int .i64 a0, .int .u64 a1] := (T.rest 0 (by kernel_rfl)).trans h0_1
  have h1_2 : act2.eval (.tmp 1) = .agg #[.int .i64 b0, .int .u64 b1] := (T.rest 1 (by kernel_rfl)).trans h1_1
  have h2_2 : act2.eval (.tmp 2) = .pointer (some ⟨g2_1, 0, none⟩) := (T.rest 2 (by kernel_rfl)).trans h2_1
  have h3_2 : act2.eval (.tmp 3) = .pointer (some ⟨g3_1, 0, none⟩) := (T.rest 3 (by kernel_rfl)).trans h3_1
  have h4_2 : act2.eval (.tmp 4) = .pointer (some ⟨g4_1, 0, none⟩) := (T.rest 4 (by kernel_rfl)).trans h4_1
  have kg2_1_2 := (T.below.block _ lg2_1_1).trans kg2_1_1
  have lg2_1_2 := Nat.lt_of_lt_of_le lg2_1_1 T.below.size
  have kg3_1_2 := (T.below.block _ lg3_1_1).trans kg3_1_1
  have lg3_1_2 := Nat.lt_of_lt_of_le lg3_1_1 T.below.size
  have kg4_1_2 := (T.below.block _ lg4_1_1).trans kg4_1_1
  have lg4_1_2 := Nat.lt_of_lt_of_le lg4_1_1 T.below.size
  obtain ⟨g5_2, h5_2, rg5_2, lg5_2_2, kg5_2_2⟩ := T.al 0 5 _ _ rfl rfl rfl (by kernel_rfl)
  have og5_2 : w.heap.size ≤ g5_2 := Nat.le_trans bl1.size rg5_2
  have ne_g5_2_g2_1 : g2_1 ≠ g5_2 := fun e => Nat.lt_irrefl _ (Nat.lt_of_lt_of_le (e ▸ lg2_1_1) rg5_2)
  have ne_g5_2_g3_1 : g3_1 ≠ g5_2 := fun e => Nat.lt_irrefl _ (Nat.lt_of_lt_of_le (e ▸ lg3_1_1) rg5_2)
  have ne_g5_2_g4_1 : g4_1 ≠ g5_2 := fun e => Nat.lt_irrefl _ (Nat.lt_of_lt_of_le (e ▸ lg4_1_1) rg5_2)
  have d2 := T.defers.trans d1
  have s2 := T.size.trans s1
  have bl2 := bl1.trans (T.below.mono bl1.size)
  clear T
  refine Eng.tail_nil ?_
  show Code.wp Tryd.prog _ _ _ _
  refine wp_seq ?_
  refine wp_seq ?_
  refine Eng.regionS (Eng.still [fun v => v = .int .i64 0]) (fun i => ([.plain] : List Eng.Kind).getD i .plain) 1 0 31 s2 rfl (by kernel_rfl) (Eng.still_stable _) (Or.inr (Eng.still_any _)) ?_ ?_
  · refine Eng.Steps.cons (fun _ => ?_) (Eng.Steps.nil)
    · refine Eng.plain rfl rfl fun a w' H => ?_
      exact Eng.val (w1 := w') (v := .int .i64 0) (Eng.run_assign rfl (rfl : a.eval (.const (.int .i64 0)) = .int .i64 0)) (Below.refl _ _) rfl
  intro act3 w3 T
  have h0_3 : act3.eval (.tmp 0) = .agg #[.int .i64 a0, .int .u64 a1] := (T.rest 0 (by kernel_rfl)).trans h0_2
  have h1_3 : act3.eval (.tmp 1) = .agg #[.int .i64 b0, .int .u64 b1] := (T.rest 1 (by kernel_rfl)).trans h1_2
  have h2_3 : act3.eval (.tmp 2) = .pointer (some ⟨g2_1, 0, none⟩) := (T.rest 2 (by kernel_rfl)).trans h2_2
  have h3_3 : act3.eval (.tmp 3) = .pointer (some ⟨g3_1, 0, none⟩) := (T.rest 3 (by kernel_rfl)).trans h3_2
  have h4_3 : act3.eval (.tmp 4) = .pointer (some ⟨g4_1, 0, none⟩) := (T.rest 4 (by kernel_rfl)).trans h4_2
  have h5_3 : act3.eval (.tmp 5) = .pointer (some ⟨g5_2, 0, none⟩) := (T.rest 5 (by kernel_rfl)).trans h5_2
  have kg2_1_3 := (T.below.block _ lg2_1_2).trans kg2_1_2
  have lg2_1_3 := Nat.lt_of_lt_of_le lg2_1_2 T.below.size
  have kg3_1_3 := (T.below.block _ lg3_1_2).trans kg3_1_2
  have lg3_1_3 := Nat.lt_of_lt_of_le lg3_1_2 T.below.size
  have kg4_1_3 := (T.below.block _ lg4_1_2).trans kg4_1_2
  have lg4_1_3 := Nat.lt_of_lt_of_le lg4_1_2 T.below.size
  have kg5_2_3 := (T.below.block _ lg5_2_2).trans kg5_2_2
  have lg5_2_3 := Nat.lt_of_lt_of_le lg5_2_2 T.below.size
  have h6_3 : act3.eval (.tmp 6) = .int .i64 0 := T.done 0 6 rfl rfl
  have d3 := T.defers.trans d2
  have s3 := T.size.trans s2
  have bl3 := bl2.trans (T.below.mono bl2.size)
  clear T
  refine Eng.tail_nil ?_
  show Code.wp Tryd.prog _ _ _ _
  refine wp_block ?_
  refine Eng.loopN (fun n a w' => ∃ (k : Nat), 64 - k = n ∧ k ≤ 64 ∧ a.defers = [] ∧ a.tmps.size = 31 ∧ Below w.heap.size w w' ∧ a.eval (.tmp 0) = .agg #[.int .i64 a0, .int .u64 a1] ∧ a.eval (.tmp 1) = .agg #[.int .i64 b0, .int .u64 b1] ∧ a.eval (.tmp 2) = .pointer (some ⟨g2_1, 0, none⟩) ∧ a.eval (.tmp 3) = .pointer (some ⟨g3_1, 0, none⟩) ∧ a.eval (.tmp 4) = .pointer (some ⟨g4_1, 0, none⟩) ∧ a.eval (.tmp 5) = .pointer (some ⟨g5_2, 0, none⟩) ∧ a.eval (.tmp 6) = .int .i64 (k : Nat) ∧ w'.heap[g2_1]? = some (.cells (#[.int .i64 a0, .int .u64 a1]) 28 (0, 0)) ∧ g2_1 < w'.heap.size ∧ w'.heap[g3_1]? = some (.cells (#[.int .i64 b0, .int .u64 b1]) 28 (0, 0)) ∧ g3_1 < w'.heap.size ∧ w'.heap[g4_1]? = some (.cells (#[.int .i64 0, .int .u64 0]) 28 (0, 0)) ∧ g4_1 < w'.heap.size ∧ w'.heap[g5_2]? = some (.cells ((List.map Value.bool (Lat.fillB (fun i => Lat.has a1 (i : Int) || Lat.has b1 (i : Int)) k)).toArray) 101 (0, 0)) ∧ g5_2 < w'.heap.size) (n0 := 64 - 0) ?_ ?_
  · exact ⟨0, rfl, by omega, d3, s3, bl3, h0_3, h1_3, h2_3, h3_3, h4_3, h5_3, (h6_3.trans (by first | rfl | (congr 1; rw [Eng.i64_id (by omega) (by omega)]; omega) | (simp; done))), kg2_1_3, lg2_1_3, kg3_1_3, lg3_1_3, kg4_1_3, lg4_1_3, (kg5_2_3.trans (by first | (rw [Lat.fill_zero (fun i => Lat.has a1 (i : Int) || Lat.has b1 (i : Int))]; done) | (rw [Lat.fill_set (fun i => Lat.has a1 (i : Int) || Lat.has b1 (i : Int)) hk0 (by rw [Bq21, Bq15, Bq20])]; done))), lg5_2_3⟩
  rintro n act4 w4 ⟨k, rfl, hc0_4, d4, s4, bl4, h0_4, h1_4, h2_4, h3_4, h4_4, h5_4, h6_4, kg2_1_4, lg2_1_4, kg3_1_4, lg3_1_4, kg4_1_4, lg4_1_4, kg5_2_4, lg5_2_4⟩
  have hk1 := hc0_4
  refine wp_seq ?_
  refine wp_seq ?_
  obtain ⟨q8, Bq8⟩ : ∃ b : Bool, b = (decide ((k : Nat) < 64)) := ⟨_, rfl⟩
  refine Eng.regionS (Eng.still [fun v => v = .int .i64 (k : Nat), fun v => v = .bool q8]) (fun i => ([.plain, .plain] : List Eng.Kind).getD i .plain) 2 0 31 s4 rfl (by kernel_rfl) (Eng.still_stable _) (Or.inr (Eng.still_any _)) ?_ ?_
  · refine Eng.Steps.cons (fun _ => ?_) (Eng.Steps.cons (fun _ => ?_) (Eng.Steps.nil))
    · refine Eng.plain rfl rfl fun a w' H => ?_
      exact Eng.val (w1 := w') (v := .int .i64 (k : Nat)) (Eng.run_move rfl ((H.kept 6 (by kernel_rfl)).trans h6_4)) (Below.refl _ _) rfl
    · refine Eng.plain rfl rfl fun a w' H => ?_
      refine Eng.val (w1 := w') (v := .bool (decide ((k : Nat) < 64))) ?_ (Below.refl _ _) (by show _ = Value.bool q8; rw [Bq8])
      have e0 : a.eval (.tmp 7) = .int .i64 (k : Nat) := (H.dep 0 7 (by kernel_rfl) rfl)
      have e1 : a.eval (.const (.int .i64 64)) = .int .i64 64 := (rfl : a.eval (.const (.int .i64 64)) = .int .i64 64)
      simp only [execOp, resolve, List.map_toArray, List.map_cons, List.map_nil, e0, e1]
      go_simp
      all_goals first | rfl | (simp; done) | omega
  intro act5 w5 T
  have h0_5 : act5.eval (.tmp 0) = .agg #[.int .i64 a0, .int .u64 a1] := (T.rest 0 (by kernel_rfl)).trans h0_4
  have h1_5 : act5.eval (.tmp 1) = .agg #[.int .i64 b0, .int .u64 b1] := (T.rest 1 (by kernel_rfl)).trans h1_4
  have h2_5 : act5.eval (.tmp 2) = .pointer (some ⟨g2_1, 0, none⟩) := (T.rest 2 (by kernel_rfl)).trans h2_4
  have h3_5 : act5.eval (.tmp 3) = .pointer (some ⟨g3_1, 0, none⟩) := (T.rest 3 (by kernel_rfl)).trans h3_4
  have h4_5 : act5.eval (.tmp 4) = .pointer (some ⟨g4_1, 0, none⟩) := (T.rest 4 (by kernel_rfl)).trans h4_4
  have h5_5 : act5.eval (.tmp 5) = .pointer (some ⟨g5_2, 0, none⟩) := (T.rest 5 (by kernel_rfl)).trans h5_4
  have h6_5 : act5.eval (.tmp 6) = .int .i64 (k : Nat) := (T.rest 6 (by kernel_rfl)).trans h6_4
  have kg2_1_5 := (T.below.block _ lg2_1_4).trans kg2_1_4
  have lg2_1_5 := Nat.lt_of_lt_of_le lg2_1_4 T.below.size
  have kg3_1_5 := (T.below.block _ lg3_1_4).trans kg3_1_4
  have lg3_1_5 := Nat.lt_of_lt_of_le lg3_1_4 T.below.size
  have kg4_1_5 := (T.below.block _ lg4_1_4).trans kg4_1_4
  have lg4_1_5 := Nat.lt_of_lt_of_le lg4_1_4 T.below.size
  have kg5_2_5 := (T.below.block _ lg5_2_4).trans kg5_2_4
  have lg5_2_5 := Nat.lt_of_lt_of_le lg5_2_4 T.below.size
  have h8_5 : act5.eval (.tmp 8) = .bool q8 := T.done 1 8 rfl rfl
  have d5 := T.defers.trans d4
  have s5 := T.size.trans s4
  have bl5 := bl4.trans (T.below.mono bl4.size)
  clear T
  refine Eng.tail_nil ?_
  show Code.wp Tryd.prog _ _ _ _
  refine wp_cond_split h8_5 (fun hq => ?_) (fun hq => ?_)
  ·
    have c8 := Bq8.symm.trans hq
    clear hq
    have c8 := of_decide_eq_true c8
    have hk0 : k < 64 := by omega
    refine wp_skip ?_
    show Code.wp Tryd.prog _ _ _ _
    refine wp_seq ?_
    refine wp_block ?_
    obtain ⟨q15, Bq15⟩ : ∃ b : Bool, b = (Lat.has a1 (k : Nat)) := ⟨_, rfl⟩
    obtain ⟨q20, Bq20⟩ : ∃ b : Bool, b = (Lat.has b1 (k : Nat)) := ⟨_, rfl⟩
    obtain ⟨q21, Bq21⟩ : ∃ b : Bool, b = (q15 || q20) := ⟨_, rfl⟩
    refine Eng.regionS (Eng.still [fun v => v = .int .i64 (k : Nat), fun v => v = .pointer (some ⟨g2_1, 1, none⟩), fun v => v = .int .u64 a1, fun v => v = .int .i64 (k : Nat), fun v => v = .bool q15, fun v => v = .bool q15, fun v => v = bif (q15 == false) then (.pointer (some ⟨g3_1, 1, none⟩)) else undef, fun v => v = bif (q15 == false) then (.int .u64 b1) else undef, fun v => v = bif (q15 == false) then (.int .i64 (k : Nat)) else undef, fun v => v = bif (q15 == false) then (.bool q20) else undef, fun v => v = .bool q21, fun v => v = .pointer (some ⟨g5_2, k, none⟩)]) (fun i => ([.plain, .plain, .plain, .plain, .plain, .plain, .plain, .plain, .plain, .plain, .plain, .plain] : List Eng.Kind).getD i .plain) 12 1 31 s5 rfl (by kernel_rfl) (Eng.still_stable _) (Or.inr (Eng.still_any _)) ?_ ?_
    · refine Eng.Steps.cons (fun _ => ?_) (Eng.Steps.cons (fun _ => ?_) (Eng.Steps.cons (fun _ => ?_) (Eng.Steps.cons (fun _ => ?_) (Eng.Steps.cons (fun _ => ?_) (Eng.Steps.cons (fun _ => ?_) (Eng.Steps.cons (fun _ => ?_) (Eng.Steps.cons (fun _ => ?_) (Eng.Steps.cons (fun _ => ?_) (Eng.Steps.cons (fun _ => ?_) (Eng.Steps.cons (fun _ => ?_) (Eng.Steps.cons (fun _ => ?_) (Eng.Steps.cons (fun hlt => ?_) (Eng.Steps.nil)))))))))))))
      · refine Eng.plain rfl rfl fun a w' H => ?_
        exact Eng.val (w1 := w') (v := .int .i64 (k : Nat)) (Eng.run_move rfl ((H.kept 6 (by kernel_rfl)).trans h6_5)) (Below.refl _ _) rfl
      · refine Eng.plain rfl rfl fun a w' H => ?_
        refine Eng.val (w1 := w') (v := .pointer (some ⟨g2_1, 1, none⟩)) ?_ (Below.refl _ _) rfl
        have e0 : a.eval (.tmp 2) = .pointer (some ⟨g2_1, 0, none⟩) := ((H.kept 2 (by kernel_rfl)).trans h2_5)
        simp only [execOp, resolve, List.map_toArray, List.map_cons, List.map_nil, e0]
        go_simp
        all_goals first | rfl | (simp; done) | omega
      · refine Eng.plain rfl rfl fun a w' H => ?_
        have kb := (H.below.block _ lg2_1_5).trans kg2_1_5
        have z0 : w'.cell? ⟨g2_1, 1, none⟩ = some (.int .u64 a1) := (Eng.cells kb 1).trans rfl
        refine Eng.val (w1 := w') (v := .int .u64 a1) ?_ (Below.refl _ _) rfl
        have e0 : a.eval (.tmp 12) = .pointer (some ⟨g2_1, 1, none⟩) := (H.dep 1 12 (by kernel_rfl) rfl)
        simp only [execOp, resolve, List.map_toArray, List.map_cons, List.map_nil, e0]
        go_simp
        all_goals first | rfl | (simp; done) | omega
      · refine Eng.plain rfl rfl fun a w' H => ?_
        exact Eng.val (w1 := w') (v := .int .i64 (k : Nat)) (Eng.run_move rfl ((H.kept 6 (by kernel_rfl)).trans h6_5)) (Below.refl _ _) rfl
      · refine Eng.plain rfl rfl fun a w' H => ?_
        refine Eng.call Tryd.func66 (by kernel_rfl) (by kernel_rfl) rfl #[.int .u64 a1, .int .i64 (k : Nat)] ?_ ?_
        · have e0 : a.eval (.tmp 13) = .int .u64 a1 := (H.dep 2 13 (by kernel_rfl) rfl); have e1 : a.eval (.tmp 14) = .int .i64 (k : Nat) := (H.dep 3 14 (by kernel_rfl) rfl); simp only [List.map_toArray, List.map_cons, List.map_nil, e0, e1]
        refine (Lat.has_calls a1 (k : Nat) _ (by omega) (by omega) (by omega) (by omega)).mono ?_
        rintro e w'' ⟨rfl, hb⟩
        exact ⟨_, rfl, (by show _ = Value.bool q15; rw [Bq15]), hb⟩
      · refine Eng.plain rfl rfl fun a w' H => ?_
        exact Eng.val (w1 := w') (v := .bool q15) (Eng.run_move rfl (H.dep 4 15 (by kernel_rfl) rfl)) (Below.refl _ _) rfl
      · refine Eng.guarded1 (j := 5) (d := 16) (b := q15) rfl rfl (by kernel_rfl) rfl (fun v w h => h) (fun hG w => Eng.off hG) fun hG a w' H => ?_
        refine Eng.val (w1 := w') (v := .pointer (some ⟨g3_1, 1, none⟩)) ?_ (Below.refl _ _) (Eng.off' hG rfl)
        have e0 : a.eval (.tmp 3) = .pointer (some ⟨g3_1, 0, none⟩) := ((H.kept 3 (by kernel_rfl)).trans h3_5)
        simp only [execOp, resolve, List.map_toArray, List.map_cons, List.map_nil, e0]
        go_simp
        all_goals first | rfl | (simp; done) | omega
      · refine Eng.guarded1 (j := 5) (d := 16) (b := q15) rfl rfl (by kernel_rfl) rfl (fun v w h => h) (fun hG w => Eng.off hG) fun hG a w' H => ?_
        have kb := (H.below.block _ lg3_1_5).trans kg3_1_5
        have z0 : w'.cell? ⟨g3_1, 1, none⟩ = some (.int .u64 b1) := (Eng.cells kb 1).trans rfl
        refine Eng.val (w1 := w') (v := .int .u64 b1) ?_ (Below.refl _ _) (Eng.off' hG rfl)
        have e0 : a.eval (.tmp 17) = .pointer (some ⟨g3_1, 1, none⟩) := (Eng.on (H.dep 6 17 (by kernel_rfl) rfl) hG)
        simp only [execOp, resolve, List.map_toArray, List.map_cons, List.map_nil, e0]
        go_simp
        all_goals first | rfl | (simp; done) | omega
      · refine Eng.guarded1 (j := 5) (d := 16) (b := q15) rfl rfl (by kernel_rfl) rfl (fun v w h => h) (fun hG w => Eng.off hG) fun hG a w' H => ?_
        exact Eng.val (w1 := w') (v := .int .i64 (k : Nat)) (Eng.run_move rfl ((H.kept 6 (by kernel_rfl)).trans h6_5)) (Below.refl _ _) (Eng.off' hG rfl)
      · refine Eng.guarded1 (j := 5) (d := 16) (b := q15) rfl rfl (by kernel_rfl) rfl (fun v w h => h) (fun hG w => Eng.off hG) fun hG a w' H => ?_
        refine Eng.call Tryd.func66 (by kernel_rfl) (by kernel_rfl) rfl #[.int .u64 b1, .int .i64 (k : Nat)] ?_ ?_
        · have e0 : a.eval (.tmp 18) = .int .u64 b1 := (Eng.on (H.dep 7 18 (by kernel_rfl) rfl) hG); have e1 : a.eval (.tmp 19) = .int .i64 (k : Nat) := (Eng.on (H.dep 8 19 (by kernel_rfl) rfl) hG); simp only [List.map_toArray, List.map_cons, List.map_nil, e0, e1]
        refine (Lat.has_calls b1 (k : Nat) _ (by omega) (by omega) (by omega) (by omega)).mono ?_
        rintro e w'' ⟨rfl, hb⟩
        exact ⟨_, rfl, (Eng.off' hG (by rw [Bq20])), hb⟩
      · refine Eng.plain rfl rfl fun a w' H => ?_
        exact Eng.val (w1 := w') (v := .bool (q15 || q20)) (Eng.run_or rfl rfl (G := true) (H.dep 5 16 (by kernel_rfl) rfl) (fun hb => (Eng.on (H.dep 9 20 (by kernel_rfl) rfl) (Eng.mk1 hb)))) (Below.refl _ _) (by show _ = Value.bool q21; rw [Bq21])
      · refine Eng.plain rfl rfl fun a w' H => ?_
        refine Eng.val (w1 := w') (v := .pointer (some ⟨g5_2, k, none⟩)) ?_ (Below.refl _ _) rfl
        exact Eng.run_indexAddr rfl Tryd.underlying101 (by kernel_rfl) ((H.kept 5 (by kernel_rfl)).trans h5_5) ((H.dep 0 11 (by kernel_rfl) rfl).trans (congrArg (Value.int _) (show (k : Nat) = ((k : Nat) : Int) from by omega))) (by decide) (by omega)
      · exact absurd hlt (by decide)
    intro act6 w6 T
    have h0_6 : act6.eval (.tmp 0) = .agg #[.int .i64 a0, .int .u64 a1] := (T.rest 0 (by kernel_rfl)).trans h0_5
    have h1_6 : act6.eval (.tmp 1) = .agg #[.int .i64 b0, .int .u64 b1] := (T.rest 1 (by kernel_rfl)).trans h1_5
    have h2_6 : act6.eval (.tmp 2) = .pointer (some ⟨g2_1, 0, none⟩) := (T.rest 2 (by kernel_rfl)).trans h2_5
    have h3_6 : act6.eval (.tmp 3) = .pointer (some ⟨g3_1, 0, none⟩) := (T.rest 3 (by kernel_rfl)).trans h3_5
    have h4_6 : act6.eval (.tmp 4) = .pointer (some ⟨g4_1, 0, none⟩) := (T.rest 4 (by kernel_rfl)).trans h4_5
    have h5_6 : act6.eval (.tmp 5) = .pointer (some ⟨g5_2, 0, none⟩) := (T.rest 5 (by kernel_rfl)).trans h5_5
    have h6_6 : act6.eval (.tmp 6) = .int .i64 (k : Nat) := (T.rest 6 (by kernel_rfl)).trans h6_5
    have h8_6 : act6.eval (.tmp 8) = .bool q8 := (T.rest 8 (by kernel_rfl)).trans h8_5
    have kg2_1_6 := (T.below.block _ lg2_1_5).trans kg2_1_5
    have lg2_1_6 := Nat.lt_of_lt_of_le lg2_1_5 T.below.size
    have kg3_1_6 := (T.below.block _ lg3_1_5).trans kg3_1_5
    have lg3_1_6 := Nat.lt_of_lt_of_le lg3_1_5 T.below.size
    have kg4_1_6 := (T.below.block _ lg4_1_5).trans kg4_1_5
    have lg4_1_6 := Nat.lt_of_lt_of_le lg4_1_5 T.below.size
    have kg5_2_6 := (T.below.block _ lg5_2_5).trans kg5_2_5
    have lg5_2_6 := Nat.lt_of_lt_of_le lg5_2_5 T.below.size
    have h21_6 : act6.eval (.tmp 21) = .bool q21 := T.done 10 21 rfl rfl
    have h22_6 : act6.eval (.tmp 22) = .pointer (some ⟨g5_2, k, none⟩) := T.done 11 22 rfl rfl
    have d6 := T.defers.trans d5
    have s6 := T.size.trans s5
    have bl6 := bl5.trans (T.below.mono bl5.size)
    clear T
    refine Eng.tail_set (n := k) (v := .bool q21) (new := (List.map Value.bool ((Lat.fillB (fun i => Lat.has a1 (i : Int) || Lat.has b1 (i : Int)) k).set (k) q21)).toArray) rfl rfl rfl kg5_2_6 (Lat.bits_set (Lat.fillB (fun i => Lat.has a1 (i : Int) || Lat.has b1 (i : Int)) k) (k) q21) ?_ fun w7 S => ?_
    · have e0 : act6.eval (.tmp 22) = .pointer (some ⟨g5_2, k, none⟩) := h22_6
      have e1 : act6.eval (.tmp 21) = .bool q21 := h21_6
      have z0 := (Eng.cells kg5_2_6 (k)).trans (Lat.bit_at (Lat.fill_len _ _) (by omega))
      have f0 := Eng.unfrozen kg5_2_6 (k)
      simp only [execOp]
      rw [e0, e1]
      go_simp
    have kg2_1_7 := (S.far _ ne_g5_2_g2_1).trans kg2_1_6
    have lg2_1_7 := Nat.lt_of_lt_of_eq lg2_1_6 S.size.symm
    have kg3_1_7 := (S.far _ ne_g5_2_g3_1).trans kg3_1_6
    have lg3_1_7 := Nat.lt_of_lt_of_eq lg3_1_6 S.size.symm
    have kg4_1_7 := (S.far _ ne_g5_2_g4_1).trans kg4_1_6
    have lg4_1_7 := Nat.lt_of_lt_of_eq lg4_1_6 S.size.symm
    have kg5_2_7 := S.new
    have lg5_2_7 := Nat.lt_of_lt_of_eq lg5_2_6 S.size.symm
    have bl7 := S.below bl6 og5_2
    clear S
    refine Eng.tail_nil ?_
    show Code.wp Tryd.prog _ _ _ _
    refine Eng.regionS (Eng.still [fun v => v = .int .i64 (k : Nat), fun v => v = .int .i64 (IntKind.i64.wrap ((k : Nat) + 1)), fun v => v = .int .i64 (IntKind.i64.wrap ((k : Nat) + 1))]) (fun i => ([.plain, .plain, .plain] : List Eng.Kind).getD i .plain) 3 0 31 s6 rfl (by kernel_rfl) (Eng.still_stable _) (Or.inr (Eng.still_any _)) ?_ ?_
    · refine Eng.Steps.cons (fun _ => ?_) (Eng.Steps.cons (fun _ => ?_) (Eng.Steps.cons (fun _ => ?_) (Eng.Steps.nil)))
      · refine Eng.plain rfl rfl fun a w' H => ?_
        exact Eng.val (w1 := w') (v := .int .i64 (k : Nat)) (Eng.run_move rfl ((H.kept 6 (by kernel_rfl)).trans h6_6)) (Below.refl _ _) rfl
      · refine Eng.plain rfl rfl fun a w' H => ?_
        refine Eng.val (w1 := w') (v := .int .i64 (IntKind.i64.wrap ((k : Nat) + 1))) ?_ (Below.refl _ _) rfl
        have e0 : a.eval (.tmp 9) = .int .i64 (k : Nat) := (H.dep 0 9 (by kernel_rfl) rfl)
        have e1 : a.eval (.const (.int .i64 1)) = .int .i64 1 := (rfl : a.eval (.const (.int .i64 1)) = .int .i64 1)
        simp only [execOp, resolve, List.map_toArray, List.map_cons, List.map_nil, e0, e1]
        go_simp
        all_goals first | rfl | (simp; done) | omega
      · refine Eng.plain rfl rfl fun a w' H => ?_
        exact Eng.val (w1 := w') (v := .int .i64 (IntKind.i64.wrap ((k : Nat) + 1))) (Eng.run_assign rfl (H.dep 1 10 (by kernel_rfl) rfl)) (Below.refl _ _) rfl
    intro act8 w8 T
    have h0_8 : act8.eval (.tmp 0) = .agg #[.int .i64 a0, .int .u64 a1] := (T.rest 0 (by kernel_rfl)).trans h0_6
    have h1_8 : act8.eval (.tmp 1) = .agg #[.int .i64 b0, .int .u64 b1] := (T.rest 1 (by kernel_rfl)).trans h1_6
    have h2_8 : act8.eval (.tmp 2) = .pointer (some ⟨g2_1, 0, none⟩) := (T.rest 2 (by kernel_rfl)).trans h2_6
    have h3_8 : act8.eval (.tmp 3) = .pointer (some ⟨g3_1, 0, none⟩) := (T.rest 3 (by kernel_rfl)).trans h3_6
    have h4_8 : act8.eval (.tmp 4) = .pointer (some ⟨g4_1, 0, none⟩) := (T.rest 4 (by kernel_rfl)).trans h4_6
    have h5_8 : act8.eval (.tmp 5) = .pointer (some ⟨g5_2, 0, none⟩) := (T.rest 5 (by kernel_rfl)).trans h5_6
    have h8_8 : act8.eval (.tmp 8) = .bool q8 := (T.rest 8 (by kernel_rfl)).trans h8_6
    have kg2_1_8 := (T.below.block _ lg2_1_7).trans kg2_1_7
    have lg2_1_8 := Nat.lt_of_lt_of_le lg2_1_7 T.below.size
    have kg3_1_8 := (T.below.block _ lg3_1_7).trans kg3_1_7
    have lg3_1_8 := Nat.lt_of_lt_of_le lg3_1_7 T.below.size
    have kg4_1_8 := (T.below.block _ lg4_1_7).trans kg4_1_7
    have lg4_1_8 := Nat.lt_of_lt_of_le lg4_1_7 T.below.size
    have kg5_2_8 := (T.below.block _ lg5_2_7).trans kg5_2_7
    have lg5_2_8 := Nat.lt_of_lt_of_le lg5_2_7 T.below.size
    have h6_8 : act8.eval (.tmp 6) = .int .i64 (IntKind.i64.wrap ((k : Nat) + 1)) := T.done 2 6 rfl rfl
    have d8 := T.defers.trans d6
    have s8 := T.size.trans s6
    have bl8 := bl7.trans (T.below.mono bl7.size)
    clear T
    refine Eng.tail_nil ?_
    exact ⟨_, by omega, k + 1, rfl, by omega, d8, s8, bl8, h0_8, h1_8, h2_8, h3_8, h4_8, h5_8, (h6_8.trans (by first | rfl | (congr 1; rw [Eng.i64_id (by omega) (by omega)]; omega) | (simp; done))), kg2_1_8, lg2_1_8, kg3_1_8, lg3_1_8, kg4_1_8, lg4_1_8, (kg5_2_8.trans (by first | (rw [Lat.fill_zero (fun i => Lat.has a1 (i : Int) || Lat.has b1 (i : Int))]; done) | (rw [Lat.fill_set (fun i => Lat.has a1 (i : Int) || Lat.has b1 (i : Int)) hk0 (by rw [Bq21, Bq15, Bq20])]; done))), lg5_2_8⟩
  ·
    have c8 := Bq8.symm.trans hq
    clear hq
    have c8 := of_decide_eq_false c8
    refine wp_exit ?_
    show Code.wp Tryd.prog _ _ _ _
    show Code.wp Tryd.prog _ _ _ _
    refine wp_seq ?_
    refine Eng.regionD (Eng.still [fun v => v = .pointer (some ⟨g2_1, 0, none⟩), fun v => v = .int .i64 a0, fun v => v = .pointer (some ⟨g3_1, 0, none⟩), fun v => v = .int .i64 b0, fun v => v = .int .i64 (mx a0 b0), fun v => v = .agg ((List.map Value.bool (Lat.fillB (fun i => Lat.has a1 (i : Int) || Lat.has b1 (i : Int)) k)).toArray), fun v => v = .int .u64 (Lat.ofL (Lat.fillB (fun i => Lat.has a1 (i : Int) || Lat.has b1 (i : Int)) k)), fun v => v = .agg #[.int .i64 (mx a0 b0), .int .u64 (Lat.ofL (Lat.fillB (fun i => Lat.has a1 (i : Int) || Lat.has b1 (i : Int)) k))]]) (fun i => ([.plain, .plain, .plain, .plain, .plain, .plain, .plain, .plain] : List Eng.Kind).getD i .plain) 8 1 31 (by kernel_rfl) s5 rfl (by kernel_rfl) (Eng.still_stable _) (Or.inr (Eng.still_any _)) ?_ ?_
    · refine Eng.Steps.cons (fun _ => ?_) (Eng.Steps.cons (fun _ => ?_) (Eng.Steps.cons (fun _ => ?_) (Eng.Steps.cons (fun _ => ?_) (Eng.Steps.cons (fun _ => ?_) (Eng.Steps.cons (fun _ => ?_) (Eng.Steps.cons (fun _ => ?_) (Eng.Steps.cons (fun _ => ?_) (Eng.Steps.cons (fun hlt => ?_) (Eng.Steps.nil)))))))))
      · refine Eng.plain rfl rfl fun a w' H => ?_
        refine Eng.val (w1 := w') (v := .pointer (some ⟨g2_1, 0, none⟩)) ?_ (Below.refl _ _) rfl
        have e0 : a.eval (.tmp 2) = .pointer (some ⟨g2_1, 0, none⟩) := ((H.kept 2 (by kernel_rfl)).trans h2_5)
        simp only [execOp, resolve, List.map_toArray, List.map_cons, List.map_nil, e0]
        go_simp
        all_goals first | rfl | (simp; done) | omega
      · refine Eng.plain rfl rfl fun a w' H => ?_
        have kb := (H.below.block _ lg2_1_5).trans kg2_1_5
        have z0 : w'.cell? ⟨g2_1, 0, none⟩ = some (.int .i64 a0) := (Eng.cells kb 0).trans rfl
        refine Eng.val (w1 := w') (v := .int .i64 a0) ?_ (Below.refl _ _) rfl
        have e0 : a.eval (.tmp 23) = .pointer (some ⟨g2_1, 0, none⟩) := (H.dep 0 23 (by kernel_rfl) rfl)
        simp only [execOp, resolve, List.map_toArray, List.map_cons, List.map_nil, e0]
        go_simp
        all_goals first | rfl | (simp; done) | omega
      · refine Eng.plain rfl rfl fun a w' H => ?_
        refine Eng.val (w1 := w') (v := .pointer (some ⟨g3_1, 0, none⟩)) ?_ (Below.refl _ _) rfl
        have e0 : a.eval (.tmp 3) = .pointer (some ⟨g3_1, 0, none⟩) := ((H.kept 3 (by kernel_rfl)).trans h3_5)
        simp only [execOp, resolve, List.map_toArray, List.map_cons, List.map_nil, e0]
        go_simp
        all_goals first | rfl | (simp; done) | omega
      · refine Eng.plain rfl rfl fun a w' H => ?_
        have kb := (H.below.block _ lg3_1_5).trans kg3_1_5
        have z0 : w'.cell? ⟨g3_1, 0, none⟩ = some (.int .i64 b0) := (Eng.cells kb 0).trans rfl
        refine Eng.val (w1 := w') (v := .int .i64 b0) ?_ (Below.refl _ _) rfl
        have e0 : a.eval (.tmp 25) = .pointer (some ⟨g3_1, 0, none⟩) := (H.dep 2 25 (by kernel_rfl) rfl)
        simp only [execOp, resolve, List.map_toArray, List.map_cons, List.map_nil, e0]
        go_simp
        all_goals first | rfl | (simp; done) | omega
      · refine Eng.plain rfl rfl fun a w' H => ?_
        refine Eng.val (w1 := w') (v := .int .i64 (mx a0 b0)) ?_ (Below.refl _ _) rfl
        have e0 : a.eval (.tmp 24) = .int .i64 a0 := (H.dep 1 24 (by kernel_rfl) rfl)
        have e1 : a.eval (.tmp 26) = .int .i64 b0 := (H.dep 3 26 (by kernel_rfl) rfl)
        simp only [execOp, resolve, List.map_toArray, List.map_cons, List.map_nil, e0, e1]
        go_simp
        all_goals first | rfl | (simp; done) | omega
      · refine Eng.plain rfl rfl fun a w' H => ?_
        have kb := (H.below.block _ lg5_2_5).trans kg5_2_5
        refine Eng.val (w1 := w') (v := .agg ((List.map Value.bool (Lat.fillB (fun i => Lat.has a1 (i : Int) || Lat.has b1 (i : Int)) k)).toArray)) ?_ (Below.refl _ _) rfl
        exact Eng.run_load_all rfl ((H.kept 5 (by kernel_rfl)).trans h5_5) kb Tryd.underlying101 rfl (by rw [Lat.bits_size (Lat.fill_len _ _)]; kernel_rfl)
      · refine Eng.plain rfl rfl fun a w' H => ?_
        refine Eng.call Tryd.func67 (by kernel_rfl) (by kernel_rfl) rfl #[.agg ((List.map Value.bool (Lat.fillB (fun i => Lat.has a1 (i : Int) || Lat.has b1 (i : Int)) k)).toArray)] ?_ ?_
        · have e0 : a.eval (.tmp 28) = .agg ((List.map Value.bool (Lat.fillB (fun i => Lat.has a1 (i : Int) || Lat.has b1 (i : Int)) k)).toArray) := (H.dep 5 28 (by kernel_rfl) rfl); simp only [List.map_toArray, List.map_cons, List.map_nil, e0]
        refine (Lat.of_calls (Lat.fillB (fun i => Lat.has a1 (i : Int) || Lat.has b1 (i : Int)) k) _ (Lat.fill_len _ _)).mono ?_
        rintro e w'' ⟨rfl, hb⟩
        exact ⟨_, rfl, rfl, hb⟩
      · refine Eng.plain rfl rfl fun a w' H => ?_
        refine Eng.val (w1 := w') (v := .agg #[.int .i64 (mx a0 b0), .int .u64 (Lat.ofL (Lat.fillB (fun i => Lat.has a1 (i : Int) || Lat.has b1 (i : Int)) k))]) ?_ (Below.refl _ _) rfl
        have e0 : a.eval (.tmp 27) = .int .i64 (mx a0 b0) := (H.dep 4 27 (by kernel_rfl) rfl)
        have e1 : a.eval (.tmp 29) = .int .u64 (Lat.ofL (Lat.fillB (fun i => Lat.has a1 (i : Int) || Lat.has b1 (i : Int)) k)) := (H.dep 6 29 (by kernel_rfl) rfl)
        simp only [execOp, resolve, List.map_toArray, List.map_cons, List.map_nil, e0, e1]
        go_simp
        all_goals first | rfl | (simp; done) | omega
      · exact absurd hlt (by decide)
    intro act9 w9 T
    have h0_9 : act9.eval (.tmp 0) = .agg #[.int .i64 a0, .int .u64 a1] := (T.rest 0 (by kernel_rfl)).trans h0_5
    have h1_9 : act9.eval (.tmp 1) = .agg #[.int .i64 b0, .int .u64 b1] := (T.rest 1 (by kernel_rfl)).trans h1_5
    have h2_9 : act9.eval (.tmp 2) = .pointer (some ⟨g2_1, 0, none⟩) := (T.rest 2 (by kernel_rfl)).trans h2_5
    have h3_9 : act9.eval (.tmp 3) = .pointer (some ⟨g3_1, 0, none⟩) := (T.rest 3 (by kernel_rfl)).trans h3_5
    have h4_9 : act9.eval (.tmp 4) = .pointer (some ⟨g4_1, 0, none⟩) := (T.rest 4 (by kernel_rfl)).trans h4_5
    have h5_9 : act9.eval (.tmp 5) = .pointer (some ⟨g5_2, 0, none⟩) := (T.rest 5 (by kernel_rfl)).trans h5_5
    have h6_9 : act9.eval (.tmp 6) = .int .i64 (k : Nat) := (T.rest 6 (by kernel_rfl)).trans h6_5
    have h8_9 : act9.eval (.tmp 8) = .bool q8 := (T.rest 8 (by kernel_rfl)).trans h8_5
    have kg2_1_9 := (T.below.block _ lg2_1_5).trans kg2_1_5
    have lg2_1_9 := Nat.lt_of_lt_of_le lg2_1_5 T.below.size
    have kg3_1_9 := (T.below.block _ lg3_1_5).trans kg3_1_5
    have lg3_1_9 := Nat.lt_of_lt_of_le lg3_1_5 T.below.size
    have kg4_1_9 := (T.below.block _ lg4_1_5).trans kg4_1_5
    have lg4_1_9 := Nat.lt_of_lt_of_le lg4_1_5 T.below.size
    have kg5_2_9 := (T.below.block _ lg5_2_5).trans kg5_2_5
    have lg5_2_9 := Nat.lt_of_lt_of_le lg5_2_5 T.below.size
    have h30_9 : act9.eval (.tmp 30) = .agg #[.int .i64 (mx a0 b0), .int .u64 (Lat.ofL (Lat.fillB (fun i => Lat.has a1 (i : Int) || Lat.has b1 (i : Int)) k))] := T.done 7 30 rfl rfl
    have d9 := T.defers.trans d5
    have s9 := T.size.trans s5
    have bl9 := bl5.trans (T.below.mono bl5.size)
    clear T
    refine Eng.tail_put [.int .i64 (mx a0 b0), .int .u64 (Lat.ofL (Lat.fillB (fun i => Lat.has a1 (i : Int) || Lat.has b1 (i : Int)) k))] (n := 0) (new := #[.int .i64 (mx a0 b0), .int .u64 (Lat.ofL (Lat.fillB (fun i => Lat.has a1 (i : Int) || Lat.has b1 (i : Int)) k))]) rfl rfl rfl kg4_1_9 rfl ?_ fun w10 S => ?_
    · have e0 : act9.eval (.tmp 4) = .pointer (some ⟨g4_1, 0, none⟩) := h4_9
      have e1 : act9.eval (.tmp 30) = .agg #[.int .i64 (mx a0 b0), .int .u64 (Lat.ofL (Lat.fillB (fun i => Lat.has a1 (i : Int) || Lat.has b1 (i : Int)) k))] := h30_9
      have z0 := (Eng.cells kg4_1_9 (0)).trans (rfl)
      have f0 := Eng.unfrozen kg4_1_9 (0)
      have z1 := (Eng.cells kg4_1_9 (1)).trans (rfl)
      have f1 := Eng.unfrozen kg4_1_9 (1)
      simp only [execOp]
      rw [e0, e1]
      go_simp
      try rfl
    have kg2_1_10 := (S.far _ ne_g4_1_g2_1).trans kg2_1_9
    have lg2_1_10 := Nat.lt_of_lt_of_eq lg2_1_9 S.size.symm
    have kg3_1_10 := (S.far _ ne_g4_1_g3_1).trans kg3_1_9
    have lg3_1_10 := Nat.lt_of_lt_of_eq lg3_1_9 S.size.symm
    have kg4_1_10 := S.new
    have lg4_1_10 := Nat.lt_of_lt_of_eq lg4_1_9 S.size.symm
    have kg5_2_10 := (S.far _ ne_g5_2_g4_1.symm).trans kg5_2_9
    have lg5_2_10 := Nat.lt_of_lt_of_eq lg5_2_9 S.size.symm
    have bl10 := S.below bl9 og4_1
    clear S
    refine Eng.tail_nil ?_
    show Code.wp Tryd.prog _ _ _ _
    refine wp_ret ?_
    obtain rfl : k = 64 := by omega
    exact Eng.retc rfl d9 h4_9 (kg4_1_10.trans (by rw [Lat.join_eq])) Tryd.underlying28 rfl (by kernel_rfl) ⟨rfl, bl10⟩
end Go.Proofs.YthgafcaoibfchaaDoor.X
end
section
namespace Go.Proofs.YthgafcaoibfchaaDoor.X
open Go.RowKit Go.Shelf Go.Proofs Go.Proofs.YthgafcaoibfchaaDoorW.PrintWords Go.Proofs.YthgafcaoibfchaaDoorW.PrintLast Go.Proofs.YthgafcaoibfchaaDoorW.PrintMore
set_option linter.unusedVariables false
set_option linter.unusedSimpArgs false
attribute [local go_sem] max2_int min2_int max_two min_two
set_option maxHeartbeats 4000000 in
set_option maxRecDepth 100000 in
theorem Lat.rmeet_calls (a0 a1 b0 b1 : Int) (w : World) (ha0 : 0 ≤ a1) (ha1 : a1 ≤ 18446744073709551615) (hb0 : 0 ≤ b1) (hb1 : b1 ≤ 18446744073709551615) : Calls Tryd.prog 21 #[.agg #[.int .i64 a0, .int .u64 a1], .agg #[.int .i64 b0, .int .u64 b1]] w fun e w' => e = .returned (.agg #[.int .i64 (mn a0 b0), .int .u64 (Go.bits .and .u64 a1 b1)]) ∧ Below w.heap.size w w' := by
  have hu30 := Tryd.underlying30
  have hu28 := Tryd.underlying28
  refine Eng.enter Tryd.func21 rfl fun act0 d0 s0 v0 => ?_
  have s0 : act0.tmps.size = 31 := s0
  have h0_0 : act0.eval (.tmp 0) = .agg #[.int .i64 a0, .int .u64 a1] := v0 0 (by simp)
  have h1_0 : act0.eval (.tmp 1) = .agg #[.int .i64 b0, .int .u64 b1] := v0 1 (by simp)
  clear v0
  have bl0 : Below w.heap.size w w := Below.refl _ _
  refine wp_seq ?_
  refine Eng.regionS (Eng.still [fun v => True, fun v => True, fun v => True]) (fun i => ([.alloc 28 #[.int .i64 a0, .int .u64 a1], .alloc 28 #[.int .i64 b0, .int .u64 b1], .alloc 28 #[.int .i64 0, .int .u64 0]] : List Eng.Kind).getD i .plain) 3 0 31 s0 rfl (by kernel_rfl) (Eng.still_stable _) (Or.inr (Eng.still_any _)) ?_ ?_
  · refine Eng.Steps.cons (fun _ => ?_) (Eng.Steps.cons (fun _ => ?_) (Eng.Steps.cons (fun _ => ?_) (Eng.Steps.nil)))
    · refine Eng.made rfl (by simp) rfl (fun a w' hd ho => ?_) (fun _ _ => trivial)
      exact Eng.run_box rfl ((ho 0 (by kernel_rfl)).trans h0_0)
    · refine Eng.made rfl (by simp) rfl (fun a w' hd ho => ?_) (fun _ _ => trivial)
      exact Eng.run_box rfl ((ho 1 (by kernel_rfl)).trans h1_0)
    · refine Eng.made rfl (by simp) rfl (fun a w' hd ho => ?_) (fun _ _ => trivial)
      simp only [execOp]
      go_simp
  intro act1 w1 T
  have h0_1 : act1.eval (.tmp 0) = .agg #[.int .i64 a0, .int .u64 a1] := (T.rest 0 (by kernel_rfl)).trans h0_0
  have h1_1 : act1.eval (.tmp 1) = .agg #[.int .i64 b0, .int .u64 b1] := (T.rest 1 (by kernel_rfl)).trans h1_0
  obtain ⟨g2_1, h2_1, rg2_1, lg2_1_1, kg2_1_1⟩ := T.al 0 2 _ _ rfl rfl rfl (by kernel_rfl)
  have og2_1 : w.heap.size ≤ g2_1 := Nat.le_trans bl0.size rg2_1
  obtain ⟨g3_1, h3_1, rg3_1, lg3_1_1, kg3_1_1⟩ := T.al 1 3 _ _ rfl rfl rfl (by kernel_rfl)
  have og3_1 : w.heap.size ≤ g3_1 := Nat.le_trans bl0.size rg3_1
  obtain ⟨g4_1, h4_1, rg4_1, lg4_1_1, kg4_1_1⟩ := T.al 2 4 _ _ rfl rfl rfl (by kernel_rfl)
  have og4_1 : w.heap.size ≤ g4_1 := Nat.le_trans bl0.size rg4_1
  have ne_g4_1_g2_1 : g2_1 ≠ g4_1 := T.ne 0 2 2 4 rfl rfl rfl rfl rfl rfl h2_1 h4_1 rfl
  have ne_g4_1_g3_1 : g3_1 ≠ g4_1 := T.ne 1 2 3 4 rfl rfl rfl rfl rfl rfl h3_1 h4_1 rfl
  have d1 := T.defers.trans d0
  have s1 := T.size.trans s0
  have bl1 := bl0.trans (T.below.mono bl0.size)
  clear T
  refine Eng.tail_nil ?_
  show Code.wp Tryd.prog _ _ _ _
  refine wp_seq ?_
  refine Eng.regionS (Eng.still [fun v => True]) (fun i => ([.alloc 101 ((List.map Value.bool (List.replicate 64 false)).toArray)] : List Eng.Kind).getD i .plain) 1 0 31 s1 rfl (by kernel_rfl) (Eng.still_stable _) (Or.inr (Eng.still_any _)) ?_ ?_
  · refine Eng.Steps.cons (fun _ => ?_) (Eng.Steps.nil)
    · refine Eng.made rfl (by simp) rfl (fun a w' hd ho => ?_) (fun _ _ => trivial)
      exact Eng.run_alloc rfl (by kernel_rfl)
  intro act2 w2 T
  have h0_2 : act2.eval (.tmp 0) = .agg #[.int .i64 a0, .int .u64 a1] := (T.rest 0 (by kernel_rfl)).trans h0_1
  have h1_2 : act2.eval (.tmp 1) = .agg #[.int .i64 b0, .int .u64 b1] := (T.rest 1 (by kernel_rfl)).trans h1_1
  have h2_2 : act2.eval (.tmp 2) = .pointer (some ⟨g2_1, 0, none⟩) := (T.rest 2 (by kernel_rfl)).trans h2_1
  have h3_2 : act2.eval (.tmp 3) = .pointer (some ⟨g3_1, 0, none⟩) := (T.rest 3 (by kernel_rfl)).trans h3_1
  have h4_2 : act2.eval (.tmp 4) = .pointer (some ⟨g4_1, 0, none⟩) := (T.rest 4 (by kernel_rfl)).trans h4_1
  have kg2_1_2 := (T.below.block _ lg2_1_1).trans kg2_1_1
  have lg2_1_2 := Nat.lt_of_lt_of_le lg2_1_1 T.below.size
  have kg3_1_2 := (T.below.block _ lg3_1_1).trans kg3_1_1
  have lg3_1_2 := Nat.lt_of_lt_of_le lg3_1_1 T.below.size
  have kg4_1_2 := (T.below.block _ lg4_1_1).trans kg4_1_1
  have lg4_1_2 := Nat.lt_of_lt_of_le lg4_1_1 T.below.size
  obtain ⟨g5_2, h5_2, rg5_2, lg5_2_2, kg5_2_2⟩ := T.al 0 5 _ _ rfl rfl rfl (by kernel_rfl)
  have og5_2 : w.heap.size ≤ g5_2 := Nat.le_trans bl1.size rg5_2
  have ne_g5_2_g2_1 : g2_1 ≠ g5_2 := fun e => Nat.lt_irrefl _ (Nat.lt_of_lt_of_le (e ▸ lg2_1_1) rg5_2)
  have ne_g5_2_g3_1 : g3_1 ≠ g5_2 := fun e => Nat.lt_irrefl _ (Nat.lt_of_lt_of_le (e ▸ lg3_1_1) rg5_2)
  have ne_g5_2_g4_1 : g4_1 ≠ g5_2 := fun e => Nat.lt_irrefl _ (Nat.lt_of_lt_of_le (e ▸ lg4_1_1) rg5_2)
  have d2 := T.defers.trans d1
  have s2 := T.size.trans s1
  have bl2 := bl1.trans (T.below.mono bl1.size)
  clear T
  refine Eng.tail_nil ?_
  show Code.wp Tryd.prog _ _ _ _
  refine wp_seq ?_
  refine wp_seq ?_
  refine Eng.regionS (Eng.still [fun v => v = .int .i64 0]) (fun i => ([.plain] : List Eng.Kind).getD i .plain) 1 0 31 s2 rfl (by kernel_rfl) (Eng.still_stable _) (Or.inr (Eng.still_any _)) ?_ ?_
  · refine Eng.Steps.cons (fun _ => ?_) (Eng.Steps.nil)
    · refine Eng.plain rfl rfl fun a w' H => ?_
      exact Eng.val (w1 := w') (v := .int .i64 0) (Eng.run_assign rfl (rfl : a.eval (.const (.int .i64 0)) = .int .i64 0)) (Below.refl _ _) rfl
  intro act3 w3 T
  have h0_3 : act3.eval (.tmp 0) = .agg #[.int .i64 a0, .int .u64 a1] := (T.rest 0 (by kernel_rfl)).trans h0_2
  have h1_3 : act3.eval (.tmp 1) = .agg #[.int .i64 b0, .int .u64 b1] := (T.rest 1 (by kernel_rfl)).trans h1_2
  have h2_3 : act3.eval (.tmp 2) = .pointer (some ⟨g2_1, 0, none⟩) := (T.rest 2 (by kernel_rfl)).trans h2_2
  have h3_3 : act3.eval (.tmp 3) = .pointer (some ⟨g3_1, 0, none⟩) := (T.rest 3 (by kernel_rfl)).trans h3_2
  have h4_3 : act3.eval (.tmp 4) = .pointer (some ⟨g4_1, 0, none⟩) := (T.rest 4 (by kernel_rfl)).trans h4_2
  have h5_3 : act3.eval (.tmp 5) = .pointer (some ⟨g5_2, 0, none⟩) := (T.rest 5 (by kernel_rfl)).trans h5_2
  have kg2_1_3 := (T.below.block _ lg2_1_2).trans kg2_1_2
  have lg2_1_3 := Nat.lt_of_lt_of_le lg2_1_2 T.below.size
  have kg3_1_3 := (T.below.block _ lg3_1_2).trans kg3_1_2
  have lg3_1_3 := Nat.lt_of_lt_of_le lg3_1_2 T.below.size
  have kg4_1_3 := (T.below.block _ lg4_1_2).trans kg4_1_2
  have lg4_1_3 := Nat.lt_of_lt_of_le lg4_1_2 T.below.size
  have kg5_2_3 := (T.below.block _ lg5_2_2).trans kg5_2_2
  have lg5_2_3 := Nat.lt_of_lt_of_le lg5_2_2 T.below.size
  have h6_3 : act3.eval (.tmp 6) = .int .i64 0 := T.done 0 6 rfl rfl
  have d3 := T.defers.trans d2
  have s3 := T.size.trans s2
  have bl3 := bl2.trans (T.below.mono bl2.size)
  clear T
  refine Eng.tail_nil ?_
  show Code.wp Tryd.prog _ _ _ _
  refine wp_block ?_
  refine Eng.loopN (fun n a w' => ∃ (k : Nat), 64 - k = n ∧ k ≤ 64 ∧ a.defers = [] ∧ a.tmps.size = 31 ∧ Below w.heap.size w w' ∧ a.eval (.tmp 0) = .agg #[.int .i64 a0, .int .u64 a1] ∧ a.eval (.tmp 1) = .agg #[.int .i64 b0, .int .u64 b1] ∧ a.eval (.tmp 2) = .pointer (some ⟨g2_1, 0, none⟩) ∧ a.eval (.tmp 3) = .pointer (some ⟨g3_1, 0, none⟩) ∧ a.eval (.tmp 4) = .pointer (some ⟨g4_1, 0, none⟩) ∧ a.eval (.tmp 5) = .pointer (some ⟨g5_2, 0, none⟩) ∧ a.eval (.tmp 6) = .int .i64 (k : Nat) ∧ w'.heap[g2_1]? = some (.cells (#[.int .i64 a0, .int .u64 a1]) 28 (0, 0)) ∧ g2_1 < w'.heap.size ∧ w'.heap[g3_1]? = some (.cells (#[.int .i64 b0, .int .u64 b1]) 28 (0, 0)) ∧ g3_1 < w'.heap.size ∧ w'.heap[g4_1]? = some (.cells (#[.int .i64 0, .int .u64 0]) 28 (0, 0)) ∧ g4_1 < w'.heap.size ∧ w'.heap[g5_2]? = some (.cells ((List.map Value.bool (Lat.fillB (fun i => Lat.has a1 (i : Int) && Lat.has b1 (i : Int)) k)).toArray) 101 (0, 0)) ∧ g5_2 < w'.heap.size) (n0 := 64 - 0) ?_ ?_
  · exact ⟨0, rfl, by omega, d3, s3, bl3, h0_3, h1_3, h2_3, h3_3, h4_3, h5_3, (h6_3.trans (by first | rfl | (congr 1; rw [Eng.i64_id (by omega) (by omega)]; omega) | (simp; done))), kg2_1_3, lg2_1_3, kg3_1_3, lg3_1_3, kg4_1_3, lg4_1_3, (kg5_2_3.trans (by first | (rw [Lat.fill_zero (fun i => Lat.has a1 (i : Int) && Lat.has b1 (i : Int))]; done) | (rw [Lat.fill_set (fun i => Lat.has a1 (i : Int) && Lat.has b1 (i : Int)) hk0 (by rw [Bq21, Bq15, Bq20])]; done))), lg5_2_3⟩
  rintro n act4 w4 ⟨k, rfl, hc0_4, d4, s4, bl4, h0_4, h1_4, h2_4, h3_4, h4_4, h5_4, h6_4, kg2_1_4, lg2_1_4, kg3_1_4, lg3_1_4, kg4_1_4, lg4_1_4, kg5_2_4, lg5_2_4⟩
  have hk1 := hc0_4
  refine wp_seq ?_
  refine wp_seq ?_
  obtain ⟨q8, Bq8⟩ : ∃ b : Bool, b = (decide ((k : Nat) < 64)) := ⟨_, rfl⟩
  refine Eng.regionS (Eng.still [fun v => v = .int .i64 (k : Nat), fun v => v = .bool q8]) (fun i => ([.plain, .plain] : List Eng.Kind).getD i .plain) 2 0 31 s4 rfl (by kernel_rfl) (Eng.still_stable _) (Or.inr (Eng.still_any _)) ?_ ?_
  · refine Eng.Steps.cons (fun _ => ?_) (Eng.Steps.cons (fun _ => ?_) (Eng.Steps.nil))
    · refine Eng.plain rfl rfl fun a w' H => ?_
      exact Eng.val (w1 := w') (v := .int .i64 (k : Nat)) (Eng.run_move rfl ((H.kept 6 (by kernel_rfl)).trans h6_4)) (Below.refl _ _) rfl
    · refine Eng.plain rfl rfl fun a w' H => ?_
      refine Eng.val (w1 := w') (v := .bool (decide ((k : Nat) < 64))) ?_ (Below.refl _ _) (by show _ = Value.bool q8; rw [Bq8])
      have e0 : a.eval (.tmp 7) = .int .i64 (k : Nat) := (H.dep 0 7 (by kernel_rfl) rfl)
      have e1 : a.eval (.const (.int .i64 64)) = .int .i64 64 := (rfl : a.eval (.const (.int .i64 64)) = .int .i64 64)
      simp only [execOp, resolve, List.map_toArray, List.map_cons, List.map_nil, e0, e1]
      go_simp
      all_goals first | rfl | (simp; done) | omega
  intro act5 w5 T
  have h0_5 : act5.eval (.tmp 0) = .agg #[.int .i64 a0, .int .u64 a1] := (T.rest 0 (by kernel_rfl)).trans h0_4
  have h1_5 : act5.eval (.tmp 1) = .agg #[.int .i64 b0, .int .u64 b1] := (T.rest 1 (by kernel_rfl)).trans h1_4
  have h2_5 : act5.eval (.tmp 2) = .pointer (some ⟨g2_1, 0, none⟩) := (T.rest 2 (by kernel_rfl)).trans h2_4
  have h3_5 : act5.eval (.tmp 3) = .pointer (some ⟨g3_1, 0, none⟩) := (T.rest 3 (by kernel_rfl)).trans h3_4
  have h4_5 : act5.eval (.tmp 4) = .pointer (some ⟨g4_1, 0, none⟩) := (T.rest 4 (by kernel_rfl)).trans h4_4
  have h5_5 : act5.eval (.tmp 5) = .pointer (some ⟨g5_2, 0, none⟩) := (T.rest 5 (by kernel_rfl)).trans h5_4
  have h6_5 : act5.eval (.tmp 6) = .int .i64 (k : Nat) := (T.rest 6 (by kernel_rfl)).trans h6_4
  have kg2_1_5 := (T.below.block _ lg2_1_4).trans kg2_1_4
  have lg2_1_5 := Nat.lt_of_lt_of_le lg2_1_4 T.below.size
  have kg3_1_5 := (T.below.block _ lg3_1_4).trans kg3_1_4
  have lg3_1_5 := Nat.lt_of_lt_of_le lg3_1_4 T.below.size
  have kg4_1_5 := (T.below.block _ lg4_1_4).trans kg4_1_4
  have lg4_1_5 := Nat.lt_of_lt_of_le lg4_1_4 T.below.size
  have kg5_2_5 := (T.below.block _ lg5_2_4).trans kg5_2_4
  have lg5_2_5 := Nat.lt_of_lt_of_le lg5_2_4 T.below.size
  have h8_5 : act5.eval (.tmp 8) = .bool q8 := T.done 1 8 rfl rfl
  have d5 := T.defers.trans d4
  have s5 := T.size.trans s4
  have bl5 := bl4.trans (T.below.mono bl4.size)
  clear T
  refine Eng.tail_nil ?_
  show Code.wp Tryd.prog _ _ _ _
  refine wp_cond_split h8_5 (fun hq => ?_) (fun hq => ?_)
  ·
    have c8 := Bq8.symm.trans hq
    clear hq
    have c8 := of_decide_eq_true c8
    have hk0 : k < 64 := by omega
    refine wp_skip ?_
    show Code.wp Tryd.prog _ _ _ _
    refine wp_seq ?_
    refine wp_block ?_
    obtain ⟨q15, Bq15⟩ : ∃ b : Bool, b = (Lat.has a1 (k : Nat)) := ⟨_, rfl⟩
    obtain ⟨q20, Bq20⟩ : ∃ b : Bool, b = (Lat.has b1 (k : Nat)) := ⟨_, rfl⟩
    obtain ⟨q21, Bq21⟩ : ∃ b : Bool, b = (q15 && q20) := ⟨_, rfl⟩
    refine Eng.regionS (Eng.still [fun v => v = .int .i64 (k : Nat), fun v => v = .pointer (some ⟨g2_1, 1, none⟩), fun v => v = .int .u64 a1, fun v => v = .int .i64 (k : Nat), fun v => v = .bool q15, fun v => v = .bool q15, fun v => v = bif (q15 == true) then (.pointer (some ⟨g3_1, 1, none⟩)) else undef, fun v => v = bif (q15 == true) then (.int .u64 b1) else undef, fun v => v = bif (q15 == true) then (.int .i64 (k : Nat)) else undef, fun v => v = bif (q15 == true) then (.bool q20) else undef, fun v => v = .bool q21, fun v => v = .pointer (some ⟨g5_2, k, none⟩)]) (fun i => ([.plain, .plain, .plain, .plain, .plain, .plain, .plain, .plain, .plain, .plain, .plain, .plain] : List Eng.Kind).getD i .plain) 12 1 31 s5 rfl (by kernel_rfl) (Eng.still_stable _) (Or.inr (Eng.still_any _)) ?_ ?_
    · refine Eng.Steps.cons (fun _ => ?_) (Eng.Steps.cons (fun _ => ?_) (Eng.Steps.cons (fun _ => ?_) (Eng.Steps.cons (fun _ => ?_) (Eng.Steps.cons (fun _ => ?_) (Eng.Steps.cons (fun _ => ?_) (Eng.Steps.cons (fun _ => ?_) (Eng.Steps.cons (fun _ => ?_) (Eng.Steps.cons (fun _ => ?_) (Eng.Steps.cons (fun _ => ?_) (Eng.Steps.cons (fun _ => ?_) (Eng.Steps.cons (fun _ => ?_) (Eng.Steps.cons (fun hlt => ?_) (Eng.Steps.nil)))))))))))))
      · refine Eng.plain rfl rfl fun a w' H => ?_
        exact Eng.val (w1 := w') (v := .int .i64 (k : Nat)) (Eng.run_move rfl ((H.kept 6 (by kernel_rfl)).trans h6_5)) (Below.refl _ _) rfl
      · refine Eng.plain rfl rfl fun a w' H => ?_
        refine Eng.val (w1 := w') (v := .pointer (some ⟨g2_1, 1, none⟩)) ?_ (Below.refl _ _) rfl
        have e0 : a.eval (.tmp 2) = .pointer (some ⟨g2_1, 0, none⟩) := ((H.kept 2 (by kernel_rfl)).trans h2_5)
        simp only [execOp, resolve, List.map_toArray, List.map_cons, List.map_nil, e0]
        go_simp
        all_goals first | rfl | (simp; done) | omega
      · refine Eng.plain rfl rfl fun a w' H => ?_
        have kb := (H.below.block _ lg2_1_5).trans kg2_1_5
        have z0 : w'.cell? ⟨g2_1, 1, none⟩ = some (.int .u64 a1) := (Eng.cells kb 1).trans rfl
        refine Eng.val (w1 := w') (v := .int .u64 a1) ?_ (Below.refl _ _) rfl
        have e0 : a.eval (.tmp 12) = .pointer (some ⟨g2_1, 1, none⟩) := (H.dep 1 12 (by kernel_rfl) rfl)
        simp only [execOp, resolve, List.map_toArray, List.map_cons, List.map_nil, e0]
        go_simp
        all_goals first | rfl | (simp; done) | omega
      · refine Eng.plain rfl rfl fun a w' H => ?_
        exact Eng.val (w1 := w') (v := .int .i64 (k : Nat)) (Eng.run_move rfl ((H.kept 6 (by kernel_rfl)).trans h6_5)) (Below.refl _ _) rfl
      · refine Eng.plain rfl rfl fun a w' H => ?_
        refine Eng.call Tryd.func66 (by kernel_rfl) (by kernel_rfl) rfl #[.int .u64 a1, .int .i64 (k : Nat)] ?_ ?_
        · have e0 : a.eval (.tmp 13) = .int .u64 a1 := (H.dep 2 13 (by kernel_rfl) rfl); have e1 : a.eval (.tmp 14) = .int .i64 (k : Nat) := (H.dep 3 14 (by kernel_rfl) rfl); simp only [List.map_toArray, List.map_cons, List.map_nil, e0, e1]
        refine (Lat.has_calls a1 (k : Nat) _ (by omega) (by omega) (by omega) (by omega)).mono ?_
        rintro e w'' ⟨rfl, hb⟩
        exact ⟨_, rfl, (by show _ = Value.bool q15; rw [Bq15]), hb⟩
      · refine Eng.plain rfl rfl fun a w' H => ?_
        exact Eng.val (w1 := w') (v := .bool q15) (Eng.run_move rfl (H.dep 4 15 (by kernel_rfl) rfl)) (Below.refl _ _) rfl
      · refine Eng.guarded1 (j := 5) (d := 16) (b := q15) rfl rfl (by kernel_rfl) rfl (fun v w h => h) (fun hG w => Eng.off hG) fun hG a w' H => ?_
        refine Eng.val (w1 := w') (v := .pointer (some ⟨g3_1, 1, none⟩)) ?_ (Below.refl _ _) (Eng.off' hG rfl)
        have e0 : a.eval (.tmp 3) = .pointer (some ⟨g3_1, 0, none⟩) := ((H.kept 3 (by kernel_rfl)).trans h3_5)
        simp only [execOp, resolve, List.map_toArray, List.map_cons, List.map_nil, e0]
        go_simp
        all_goals first | rfl | (simp; done) | omega
      · refine Eng.guarded1 (j := 5) (d := 16) (b := q15) rfl rfl (by kernel_rfl) rfl (fun v w h => h) (fun hG w => Eng.off hG) fun hG a w' H => ?_
        have kb := (H.below.block _ lg3_1_5).trans kg3_1_5
        have z0 : w'.cell? ⟨g3_1, 1, none⟩ = some (.int .u64 b1) := (Eng.cells kb 1).trans rfl
        refine Eng.val (w1 := w') (v := .int .u64 b1) ?_ (Below.refl _ _) (Eng.off' hG rfl)
        have e0 : a.eval (.tmp 17) = .pointer (some ⟨g3_1, 1, none⟩) := (Eng.on (H.dep 6 17 (by kernel_rfl) rfl) hG)
        simp only [execOp, resolve, List.map_toArray, List.map_cons, List.map_nil, e0]
        go_simp
        all_goals first | rfl | (simp; done) | omega
      · refine Eng.guarded1 (j := 5) (d := 16) (b := q15) rfl rfl (by kernel_rfl) rfl (fun v w h => h) (fun hG w => Eng.off hG) fun hG a w' H => ?_
        exact Eng.val (w1 := w') (v := .int .i64 (k : Nat)) (Eng.run_move rfl ((H.kept 6 (by kernel_rfl)).trans h6_5)) (Below.refl _ _) (Eng.off' hG rfl)
      · refine Eng.guarded1 (j := 5) (d := 16) (b := q15) rfl rfl (by kernel_rfl) rfl (fun v w h => h) (fun hG w => Eng.off hG) fun hG a w' H => ?_
        refine Eng.call Tryd.func66 (by kernel_rfl) (by kernel_rfl) rfl #[.int .u64 b1, .int .i64 (k : Nat)] ?_ ?_
        · have e0 : a.eval (.tmp 18) = .int .u64 b1 := (Eng.on (H.dep 7 18 (by kernel_rfl) rfl) hG); have e1 : a.eval (.tmp 19) = .int .i64 (k : Nat) := (Eng.on (H.dep 8 19 (by kernel_rfl) rfl) hG); simp only [List.map_toArray, List.map_cons, List.map_nil, e0, e1]
        refine (Lat.has_calls b1 (k : Nat) _ (by omega) (by omega) (by omega) (by omega)).mono ?_
        rintro e w'' ⟨rfl, hb⟩
        exact ⟨_, rfl, (Eng.off' hG (by rw [Bq20])), hb⟩
      · refine Eng.plain rfl rfl fun a w' H => ?_
        exact Eng.val (w1 := w') (v := .bool (q15 && q20)) (Eng.run_and rfl rfl (G := true) (H.dep 5 16 (by kernel_rfl) rfl) (fun hb => (Eng.on (H.dep 9 20 (by kernel_rfl) rfl) (Eng.mk1 hb)))) (Below.refl _ _) (by show _ = Value.bool q21; rw [Bq21])
      · refine Eng.plain rfl rfl fun a w' H => ?_
        refine Eng.val (w1 := w') (v := .pointer (some ⟨g5_2, k, none⟩)) ?_ (Below.refl _ _) rfl
        exact Eng.run_indexAddr rfl Tryd.underlying101 (by kernel_rfl) ((H.kept 5 (by kernel_rfl)).trans h5_5) ((H.dep 0 11 (by kernel_rfl) rfl).trans (congrArg (Value.int _) (show (k : Nat) = ((k : Nat) : Int) from by omega))) (by decide) (by omega)
      · exact absurd hlt (by decide)
    intro act6 w6 T
    have h0_6 : act6.eval (.tmp 0) = .agg #[.int .i64 a0, .int .u64 a1] := (T.rest 0 (by kernel_rfl)).trans h0_5
    have h1_6 : act6.eval (.tmp 1) = .agg #[.int .i64 b0, .int .u64 b1] := (T.rest 1 (by kernel_rfl)).trans h1_5
    have h2_6 : act6.eval (.tmp 2) = .pointer (some ⟨g2_1, 0, none⟩) := (T.rest 2 (by kernel_rfl)).trans h2_5
    have h3_6 : act6.eval (.tmp 3) = .pointer (some ⟨g3_1, 0, none⟩) := (T.rest 3 (by kernel_rfl)).trans h3_5
    have h4_6 : act6.eval (.tmp 4) = .pointer (some ⟨g4_1, 0, none⟩) := (T.rest 4 (by kernel_rfl)).trans h4_5
    have h5_6 : act6.eval (.tmp 5) = .pointer (some ⟨g5_2, 0, none⟩) := (T.rest 5 (by kernel_rfl)).trans h5_5
    have h6_6 : act6.eval (.tmp 6) = .int .i64 (k : Nat) := (T.rest 6 (by kernel_rfl)).trans h6_5
    have h8_6 : act6.eval (.tmp 8) = .bool q8 := (T.rest 8 (by kernel_rfl)).trans h8_5
    have kg2_1_6 := (T.below.block _ lg2_1_5).trans kg2_1_5
    have lg2_1_6 := Nat.lt_of_lt_of_le lg2_1_5 T.below.size
    have kg3_1_6 := (T.below.block _ lg3_1_5).trans kg3_1_5
    have lg3_1_6 := Nat.lt_of_lt_of_le lg3_1_5 T.below.size
    have kg4_1_6 := (T.below.block _ lg4_1_5).trans kg4_1_5
    have lg4_1_6 := Nat.lt_of_lt_of_le lg4_1_5 T.below.size
    have kg5_2_6 := (T.below.block _ lg5_2_5).trans kg5_2_5
    have lg5_2_6 := Nat.lt_of_lt_of_le lg5_2_5 T.below.size
    have h21_6 : act6.eval (.tmp 21) = .bool q21 := T.done 10 21 rfl rfl
    have h22_6 : act6.eval (.tmp 22) = .pointer (some ⟨g5_2, k, none⟩) := T.done 11 22 rfl rfl
    have d6 := T.defers.trans d5
    have s6 := T.size.trans s5
    have bl6 := bl5.trans (T.below.mono bl5.size)
    clear T
    refine Eng.tail_set (n := k) (v := .bool q21) (new := (List.map Value.bool ((Lat.fillB (fun i => Lat.has a1 (i : Int) && Lat.has b1 (i : Int)) k).set (k) q21)).toArray) rfl rfl rfl kg5_2_6 (Lat.bits_set (Lat.fillB (fun i => Lat.has a1 (i : Int) && Lat.has b1 (i : Int)) k) (k) q21) ?_ fun w7 S => ?_
    · have e0 : act6.eval (.tmp 22) = .pointer (some ⟨g5_2, k, none⟩) := h22_6
      have e1 : act6.eval (.tmp 21) = .bool q21 := h21_6
      have z0 := (Eng.cells kg5_2_6 (k)).trans (Lat.bit_at (Lat.fill_len _ _) (by omega))
      have f0 := Eng.unfrozen kg5_2_6 (k)
      simp only [execOp]
      rw [e0, e1]
      go_simp
    have kg2_1_7 := (S.far _ ne_g5_2_g2_1).trans kg2_1_6
    have lg2_1_7 := Nat.lt_of_lt_of_eq lg2_1_6 S.size.symm
    have kg3_1_7 := (S.far _ ne_g5_2_g3_1).trans kg3_1_6
    have lg3_1_7 := Nat.lt_of_lt_of_eq lg3_1_6 S.size.symm
    have kg4_1_7 := (S.far _ ne_g5_2_g4_1).trans kg4_1_6
    have lg4_1_7 := Nat.lt_of_lt_of_eq lg4_1_6 S.size.symm
    have kg5_2_7 := S.new
    have lg5_2_7 := Nat.lt_of_lt_of_eq lg5_2_6 S.size.symm
    have bl7 := S.below bl6 og5_2
    clear S
    refine Eng.tail_nil ?_
    show Code.wp Tryd.prog _ _ _ _
    refine Eng.regionS (Eng.still [fun v => v = .int .i64 (k : Nat), fun v => v = .int .i64 (IntKind.i64.wrap ((k : Nat) + 1)), fun v => v = .int .i64 (IntKind.i64.wrap ((k : Nat) + 1))]) (fun i => ([.plain, .plain, .plain] : List Eng.Kind).getD i .plain) 3 0 31 s6 rfl (by kernel_rfl) (Eng.still_stable _) (Or.inr (Eng.still_any _)) ?_ ?_
    · refine Eng.Steps.cons (fun _ => ?_) (Eng.Steps.cons (fun _ => ?_) (Eng.Steps.cons (fun _ => ?_) (Eng.Steps.nil)))
      · refine Eng.plain rfl rfl fun a w' H => ?_
        exact Eng.val (w1 := w') (v := .int .i64 (k : Nat)) (Eng.run_move rfl ((H.kept 6 (by kernel_rfl)).trans h6_6)) (Below.refl _ _) rfl
      · refine Eng.plain rfl rfl fun a w' H => ?_
        refine Eng.val (w1 := w') (v := .int .i64 (IntKind.i64.wrap ((k : Nat) + 1))) ?_ (Below.refl _ _) rfl
        have e0 : a.eval (.tmp 9) = .int .i64 (k : Nat) := (H.dep 0 9 (by kernel_rfl) rfl)
        have e1 : a.eval (.const (.int .i64 1)) = .int .i64 1 := (rfl : a.eval (.const (.int .i64 1)) = .int .i64 1)
        simp only [execOp, resolve, List.map_toArray, List.map_cons, List.map_nil, e0, e1]
        go_simp
        all_goals first | rfl | (simp; done) | omega
      · refine Eng.plain rfl rfl fun a w' H => ?_
        exact Eng.val (w1 := w') (v := .int .i64 (IntKind.i64.wrap ((k : Nat) + 1))) (Eng.run_assign rfl (H.dep 1 10 (by kernel_rfl) rfl)) (Below.refl _ _) rfl
    intro act8 w8 T
    have h0_8 : act8.eval (.tmp 0) = .agg #[.int .i64 a0, .int .u64 a1] := (T.rest 0 (by kernel_rfl)).trans h0_6
    have h1_8 : act8.eval (.tmp 1) = .agg #[.int .i64 b0, .int .u64 b1] := (T.rest 1 (by kernel_rfl)).trans h1_6
    have h2_8 : act8.eval (.tmp 2) = .pointer (some ⟨g2_1, 0, none⟩) := (T.rest 2 (by kernel_rfl)).trans h2_6
    have h3_8 : act8.eval (.tmp 3) = .pointer (some ⟨g3_1, 0, none⟩) := (T.rest 3 (by kernel_rfl)).trans h3_6
    have h4_8 : act8.eval (.tmp 4) = .pointer (some ⟨g4_1, 0, none⟩) := (T.rest 4 (by kernel_rfl)).trans h4_6
    have h5_8 : act8.eval (.tmp 5) = .pointer (some ⟨g5_2, 0, none⟩) := (T.rest 5 (by kernel_rfl)).trans h5_6
    have h8_8 : act8.eval (.tmp 8) = .bool q8 := (T.rest 8 (by kernel_rfl)).trans h8_6
    have kg2_1_8 := (T.below.block _ lg2_1_7).trans kg2_1_7
    have lg2_1_8 := Nat.lt_of_lt_of_le lg2_1_7 T.below.size
    have kg3_1_8 := (T.below.block _ lg3_1_7).trans kg3_1_7
    have lg3_1_8 := Nat.lt_of_lt_of_le lg3_1_7 T.below.size
    have kg4_1_8 := (T.below.block _ lg4_1_7).trans kg4_1_7
    have lg4_1_8 := Nat.lt_of_lt_of_le lg4_1_7 T.below.size
    have kg5_2_8 := (T.below.block _ lg5_2_7).trans kg5_2_7
    have lg5_2_8 := Nat.lt_of_lt_of_le lg5_2_7 T.below.size
    have h6_8 : act8.eval (.tmp 6) = .int .i64 (IntKind.i64.wrap ((k : Nat) + 1)) := T.done 2 6 rfl rfl
    have d8 := T.defers.trans d6
    have s8 := T.size.trans s6
    have bl8 := bl7.trans (T.below.mono bl7.size)
    clear T
    refine Eng.tail_nil ?_
    exact ⟨_, by omega, k + 1, rfl, by omega, d8, s8, bl8, h0_8, h1_8, h2_8, h3_8, h4_8, h5_8, (h6_8.trans (by first | rfl | (congr 1; rw [Eng.i64_id (by omega) (by omega)]; omega) | (simp; done))), kg2_1_8, lg2_1_8, kg3_1_8, lg3_1_8, kg4_1_8, lg4_1_8, (kg5_2_8.trans (by first | (rw [Lat.fill_zero (fun i => Lat.has a1 (i : Int) && Lat.has b1 (i : Int))]; done) | (rw [Lat.fill_set (fun i => Lat.has a1 (i : Int) && Lat.has b1 (i : Int)) hk0 (by rw [Bq21, Bq15, Bq20])]; done))), lg5_2_8⟩
  ·
    have c8 := Bq8.symm.trans hq
    clear hq
    have c8 := of_decide_eq_false c8
    refine wp_exit ?_
    show Code.wp Tryd.prog _ _ _ _
    show Code.wp Tryd.prog _ _ _ _
    refine wp_seq ?_
    refine Eng.regionD (Eng.still [fun v => v = .pointer (some ⟨g2_1, 0, none⟩), fun v => v = .int .i64 a0, fun v => v = .pointer (some ⟨g3_1, 0, none⟩), fun v => v = .int .i64 b0, fun v => v = .int .i64 (mn a0 b0), fun v => v = .agg ((List.map Value.bool (Lat.fillB (fun i => Lat.has a1 (i : Int) && Lat.has b1 (i : Int)) k)).toArray), fun v => v = .int .u64 (Lat.ofL (Lat.fillB (fun i => Lat.has a1 (i : Int) && Lat.has b1 (i : Int)) k)), fun v => v = .agg #[.int .i64 (mn a0 b0), .int .u64 (Lat.ofL (Lat.fillB (fun i => Lat.has a1 (i : Int) && Lat.has b1 (i : Int)) k))]]) (fun i => ([.plain, .plain, .plain, .plain, .plain, .plain, .plain, .plain] : List Eng.Kind).getD i .plain) 8 1 31 (by kernel_rfl) s5 rfl (by kernel_rfl) (Eng.still_stable _) (Or.inr (Eng.still_any _)) ?_ ?_
    · refine Eng.Steps.cons (fun _ => ?_) (Eng.Steps.cons (fun _ => ?_) (Eng.Steps.cons (fun _ => ?_) (Eng.Steps.cons (fun _ => ?_) (Eng.Steps.cons (fun _ => ?_) (Eng.Steps.cons (fun _ => ?_) (Eng.Steps.cons (fun _ => ?_) (Eng.Steps.cons (fun _ => ?_) (Eng.Steps.cons (fun hlt => ?_) (Eng.Steps.nil)))))))))
      · refine Eng.plain rfl rfl fun a w' H => ?_
        refine Eng.val (w1 := w') (v := .pointer (some ⟨g2_1, 0, none⟩)) ?_ (Below.refl _ _) rfl
        have e0 : a.eval (.tmp 2) = .pointer (some ⟨g2_1, 0, none⟩) := ((H.kept 2 (by kernel_rfl)).trans h2_5)
        simp only [execOp, resolve, List.map_toArray, List.map_cons, List.map_nil, e0]
        go_simp
        all_goals first | rfl | (simp; done) | omega
      · refine Eng.plain rfl rfl fun a w' H => ?_
        have kb := (H.below.block _ lg2_1_5).trans kg2_1_5
        have z0 : w'.cell? ⟨g2_1, 0, none⟩ = some (.int .i64 a0) := (Eng.cells kb 0).trans rfl
        refine Eng.val (w1 := w') (v := .int .i64 a0) ?_ (Below.refl _ _) rfl
        have e0 : a.eval (.tmp 23) = .pointer (some ⟨g2_1, 0, none⟩) := (H.dep 0 23 (by kernel_rfl) rfl)
        simp only [execOp, resolve, List.map_toArray, List.map_cons, List.map_nil, e0]
        go_simp
        all_goals first | rfl | (simp; done) | omega
      · refine Eng.plain rfl rfl fun a w' H => ?_
        refine Eng.val (w1 := w') (v := .pointer (some ⟨g3_1, 0, none⟩)) ?_ (Below.refl _ _) rfl
        have e0 : a.eval (.tmp 3) = .pointer (some ⟨g3_1, 0, none⟩) := ((H.kept 3 (by kernel_rfl)).trans h3_5)
        simp only [execOp, resolve, List.map_toArray, List.map_cons, List.map_nil, e0]
        go_simp
        all_goals first | rfl | (simp; done) | omega
      · refine Eng.plain rfl rfl fun a w' H => ?_
        have kb := (H.below.block _ lg3_1_5).trans kg3_1_5
        have z0 : w'.cell? ⟨g3_1, 0, none⟩ = some (.int .i64 b0) := (Eng.cells kb 0).trans rfl
        refine Eng.val (w1 := w') (v := .int .i64 b0) ?_ (Below.refl _ _) rfl
        have e0 : a.eval (.tmp 25) = .pointer (some ⟨g3_1, 0, none⟩) := (H.dep 2 25 (by kernel_rfl) rfl)
        simp only [execOp, resolve, List.map_toArray, List.map_cons, List.map_nil, e0]
        go_simp
        all_goals first | rfl | (simp; done) | omega
      · refine Eng.plain rfl rfl fun a w' H => ?_
        refine Eng.val (w1 := w') (v := .int .i64 (mn a0 b0)) ?_ (Below.refl _ _) rfl
        have e0 : a.eval (.tmp 24) = .int .i64 a0 := (H.dep 1 24 (by kernel_rfl) rfl)
        have e1 : a.eval (.tmp 26) = .int .i64 b0 := (H.dep 3 26 (by kernel_rfl) rfl)
        simp only [execOp, resolve, List.map_toArray, List.map_cons, List.map_nil, e0, e1]
        go_simp
        all_goals first | rfl | (simp; done) | omega
      · refine Eng.plain rfl rfl fun a w' H => ?_
        have kb := (H.below.block _ lg5_2_5).trans kg5_2_5
        refine Eng.val (w1 := w') (v := .agg ((List.map Value.bool (Lat.fillB (fun i => Lat.has a1 (i : Int) && Lat.has b1 (i : Int)) k)).toArray)) ?_ (Below.refl _ _) rfl
        exact Eng.run_load_all rfl ((H.kept 5 (by kernel_rfl)).trans h5_5) kb Tryd.underlying101 rfl (by rw [Lat.bits_size (Lat.fill_len _ _)]; kernel_rfl)
      · refine Eng.plain rfl rfl fun a w' H => ?_
        refine Eng.call Tryd.func67 (by kernel_rfl) (by kernel_rfl) rfl #[.agg ((List.map Value.bool (Lat.fillB (fun i => Lat.has a1 (i : Int) && Lat.has b1 (i : Int)) k)).toArray)] ?_ ?_
        · have e0 : a.eval (.tmp 28) = .agg ((List.map Value.bool (Lat.fillB (fun i => Lat.has a1 (i : Int) && Lat.has b1 (i : Int)) k)).toArray) := (H.dep 5 28 (by kernel_rfl) rfl); simp only [List.map_toArray, List.map_cons, List.map_nil, e0]
        refine (Lat.of_calls (Lat.fillB (fun i => Lat.has a1 (i : Int) && Lat.has b1 (i : Int)) k) _ (Lat.fill_len _ _)).mono ?_
        rintro e w'' ⟨rfl, hb⟩
        exact ⟨_, rfl, rfl, hb⟩
      · refine Eng.plain rfl rfl fun a w' H => ?_
        refine Eng.val (w1 := w') (v := .agg #[.int .i64 (mn a0 b0), .int .u64 (Lat.ofL (Lat.fillB (fun i => Lat.has a1 (i : Int) && Lat.has b1 (i : Int)) k))]) ?_ (Below.refl _ _) rfl
        have e0 : a.eval (.tmp 27) = .int .i64 (mn a0 b0) := (H.dep 4 27 (by kernel_rfl) rfl)
        have e1 : a.eval (.tmp 29) = .int .u64 (Lat.ofL (Lat.fillB (fun i => Lat.has a1 (i : Int) && Lat.has b1 (i : Int)) k)) := (H.dep 6 29 (by kernel_rfl) rfl)
        simp only [execOp, resolve, List.map_toArray, List.map_cons, List.map_nil, e0, e1]
        go_simp
        all_goals first | rfl | (simp; done) | omega
      · exact absurd hlt (by decide)
    intro act9 w9 T
    have h0_9 : act9.eval (.tmp 0) = .agg #[.int .i64 a0, .int .u64 a1] := (T.rest 0 (by kernel_rfl)).trans h0_5
    have h1_9 : act9.eval (.tmp 1) = .agg #[.int .i64 b0, .int .u64 b1] := (T.rest 1 (by kernel_rfl)).trans h1_5
    have h2_9 : act9.eval (.tmp 2) = .pointer (some ⟨g2_1, 0, none⟩) := (T.rest 2 (by kernel_rfl)).trans h2_5
    have h3_9 : act9.eval (.tmp 3) = .pointer (some ⟨g3_1, 0, none⟩) := (T.rest 3 (by kernel_rfl)).trans h3_5
    have h4_9 : act9.eval (.tmp 4) = .pointer (some ⟨g4_1, 0, none⟩) := (T.rest 4 (by kernel_rfl)).trans h4_5
    have h5_9 : act9.eval (.tmp 5) = .pointer (some ⟨g5_2, 0, none⟩) := (T.rest 5 (by kernel_rfl)).trans h5_5
    have h6_9 : act9.eval (.tmp 6) = .int .i64 (k : Nat) := (T.rest 6 (by kernel_rfl)).trans h6_5
    have h8_9 : act9.eval (.tmp 8) = .bool q8 := (T.rest 8 (by kernel_rfl)).trans h8_5
    have kg2_1_9 := (T.below.block _ lg2_1_5).trans kg2_1_5
    have lg2_1_9 := Nat.lt_of_lt_of_le lg2_1_5 T.below.size
    have kg3_1_9 := (T.below.block _ lg3_1_5).trans kg3_1_5
    have lg3_1_9 := Nat.lt_of_lt_of_le lg3_1_5 T.below.size
    have kg4_1_9 := (T.below.block _ lg4_1_5).trans kg4_1_5
    have lg4_1_9 := Nat.lt_of_lt_of_le lg4_1_5 T.below.size
    have kg5_2_9 := (T.below.block _ lg5_2_5).trans kg5_2_5
    have lg5_2_9 := Nat.lt_of_lt_of_le lg5_2_5 T.below.size
    have h30_9 : act9.eval (.tmp 30) = .agg #[.int .i64 (mn a0 b0), .int .u64 (Lat.ofL (Lat.fillB (fun i => Lat.has a1 (i : Int) && Lat.has b1 (i : Int)) k))] := T.done 7 30 rfl rfl
    have d9 := T.defers.trans d5
    have s9 := T.size.trans s5
    have bl9 := bl5.trans (T.below.mono bl5.size)
    clear T
    refine Eng.tail_put [.int .i64 (mn a0 b0), .int .u64 (Lat.ofL (Lat.fillB (fun i => Lat.has a1 (i : Int) && Lat.has b1 (i : Int)) k))] (n := 0) (new := #[.int .i64 (mn a0 b0), .int .u64 (Lat.ofL (Lat.fillB (fun i => Lat.has a1 (i : Int) && Lat.has b1 (i : Int)) k))]) rfl rfl rfl kg4_1_9 rfl ?_ fun w10 S => ?_
    · have e0 : act9.eval (.tmp 4) = .pointer (some ⟨g4_1, 0, none⟩) := h4_9
      have e1 : act9.eval (.tmp 30) = .agg #[.int .i64 (mn a0 b0), .int .u64 (Lat.ofL (Lat.fillB (fun i => Lat.has a1 (i : Int) && Lat.has b1 (i : Int)) k))] := h30_9
      have z0 := (Eng.cells kg4_1_9 (0)).trans (rfl)
      have f0 := Eng.unfrozen kg4_1_9 (0)
      have z1 := (Eng.cells kg4_1_9 (1)).trans (rfl)
      have f1 := Eng.unfrozen kg4_1_9 (1)
      simp only [execOp]
      rw [e0, e1]
      go_simp
      try rfl
    have kg2_1_10 := (S.far _ ne_g4_1_g2_1).trans kg2_1_9
    have lg2_1_10 := Nat.lt_of_lt_of_eq lg2_1_9 S.size.symm
    have kg3_1_10 := (S.far _ ne_g4_1_g3_1).trans kg3_1_9
    have lg3_1_10 := Nat.lt_of_lt_of_eq lg3_1_9 S.size.symm
    have kg4_1_10 := S.new
    have lg4_1_10 := Nat.lt_of_lt_of_eq lg4_1_9 S.size.symm
    have kg5_2_10 := (S.far _ ne_g5_2_g4_1.symm).trans kg5_2_9
    have lg5_2_10 := Nat.lt_of_lt_of_eq lg5_2_9 S.size.symm
    have bl10 := S.below bl9 og4_1
    clear S
    refine Eng.tail_nil ?_
    show Code.wp Tryd.prog _ _ _ _
    refine wp_ret ?_
    obtain rfl : k = 64 := by omega
    exact Eng.retc rfl d9 h4_9 (kg4_1_10.trans (by rw [Lat.meet_eq])) Tryd.underlying28 rfl (by kernel_rfl) ⟨rfl, bl10⟩
end Go.Proofs.YthgafcaoibfchaaDoor.X
end
