/- Words and walks that the row of NfaRuns needs: printed by programs, and plain laws. -/
import Derived.Test.YthgafcaoibfchaaDoorM2
import Derived.Test.YthgafcaoibfchaaDoorM3
import Derived.ChangeKeysEq
import Derived.Laws.StructEq
namespace Go.Proofs.YthgafcaoibfchaaDoorW.PrintWords
end Go.Proofs.YthgafcaoibfchaaDoorW.PrintWords
namespace Go.Proofs.YthgafcaoibfchaaDoorW.PrintLast
end Go.Proofs.YthgafcaoibfchaaDoorW.PrintLast
namespace Go.Proofs.YthgafcaoibfchaaDoorW.PrintMore
end Go.Proofs.YthgafcaoibfchaaDoorW.PrintMore
section
namespace Go.Proofs.YthgafcaoibfchaaDoor.X
open Go.RowKit Go.Shelf Go.Proofs Go.Proofs.YthgafcaoibfchaaDoorW.PrintWords Go.Proofs.YthgafcaoibfchaaDoorW.PrintLast Go.Proofs.YthgafcaoibfchaaDoorW.PrintMore
set_option linter.unusedVariables false
set_option linter.unusedSimpArgs false
set_option maxHeartbeats 4000000 in
set_option maxRecDepth 100000 in
theorem Nfa.union_calls (x1 x2 : List Int) (w : World) (ha : x1.length = 8) (hb : x2.length = 8) : Calls Tryd.prog 42 #[.agg ((List.map (Value.int .u64) x1).toArray), .agg ((List.map (Value.int .u64) x2).toArray)] w fun e w' => e = .returned (.agg (List.map (Value.int .u64) (Nfa.unionTo x1 x2 8)).toArray) ∧ Below w.heap.size w w' := by
 refine Eng.enter Tryd.func42 rfl fun act0 d0 s0 v0 => ?_
 have s0 : act0.tmps.size = 19 := s0
 have h0_0 : act0.eval (.tmp 0) = .agg ((List.map (Value.int .u64) x1).toArray) := v0 0 (by simp)
 have h1_0 : act0.eval (.tmp 1) = .agg ((List.map (Value.int .u64) x2).toArray) := v0 1 (by simp)
 clear v0
 have bl0 : Below w.heap.size w w := Below.refl _ _
 refine wp_seq ?_
 refine Eng.regionS (Eng.still [fun u_ => True, fun u_ => True, fun u_ => True]) (fun i => ([.alloc 74 ((List.map (Value.int .u64) x1).toArray), .alloc 74 ((List.map (Value.int .u64) x2).toArray), .alloc 74 ((List.map (Value.int .u64) (List.replicate 8 0)).toArray)] : List Eng.Kind).getD i .plain) 3 0 19 s0 rfl (by kernel_rfl) (Eng.still_stable _) (Or.inr (Eng.still_any _)) ?_ ?_
 ·refine Eng.Steps.cons (fun _ => ?_) (Eng.Steps.cons (fun _ => ?_) (Eng.Steps.cons (fun _ => ?_) (Eng.Steps.nil)))
  ·refine Eng.made rfl (by simp) rfl (fun a w' hd ho => ?_) (fun _ _ => trivial)
   exact Eng.run_box rfl ((ho 0 (by kernel_rfl)).trans h0_0)
  ·refine Eng.made rfl (by simp) rfl (fun a w' hd ho => ?_) (fun _ _ => trivial)
   exact Eng.run_box rfl ((ho 1 (by kernel_rfl)).trans h1_0)
  ·refine Eng.made rfl (by simp) rfl (fun a w' hd ho => ?_) (fun _ _ => trivial)
   exact Eng.run_alloc rfl (by kernel_rfl)
 intro act1 w1 T
 have h0_1 := (T.rest 0 (by kernel_rfl)).trans h0_0
 have h1_1 := (T.rest 1 (by kernel_rfl)).trans h1_0
 obtain ⟨g2_1, h2_1, rg2_1, lg2_1_1, kg2_1_1⟩ := T.al 0 2 _ _ rfl rfl rfl (by kernel_rfl)
 have og2_1 : w.heap.size ≤ g2_1 := Nat.le_trans bl0.size rg2_1
 obtain ⟨g3_1, h3_1, rg3_1, lg3_1_1, kg3_1_1⟩ := T.al 1 3 _ _ rfl rfl rfl (by kernel_rfl)
 have ne_g3_1_g2_1 : g2_1 ≠ g3_1 := T.ne 0 1 2 3 rfl rfl rfl rfl rfl rfl h2_1 h3_1 rfl
 obtain ⟨g4_1, h4_1, rg4_1, lg4_1_1, kg4_1_1⟩ := T.al 2 4 _ _ rfl rfl rfl (by kernel_rfl)
 have og4_1 : w.heap.size ≤ g4_1 := Nat.le_trans bl0.size rg4_1
 have ne_g4_1_g2_1 : g2_1 ≠ g4_1 := T.ne 0 2 2 4 rfl rfl rfl rfl rfl rfl h2_1 h4_1 rfl
 have d1 := T.defers.trans d0
 have s1 := T.size.trans s0
 have bl1 := bl0.trans (T.below.mono bl0.size)
 clear T
 refine Eng.tail_nil ?_
 refine wp_seq ?_
 refine wp_seq ?_
 refine Eng.regionS (Eng.still [fun u_ => u_ = .int .i64 0]) (fun _ => .plain) 1 0 19 s1 rfl (by kernel_rfl) (Eng.still_stable _) (Or.inr (Eng.still_any _)) ?_ ?_
 ·refine Eng.Steps.cons (fun _ => ?_) (Eng.Steps.nil)
  ·refine Eng.plain rfl rfl fun a w' H => ?_
   exact Eng.val (w1 := w') (v := .int .i64 0) (Eng.run_move rfl (rfl : a.eval (.const (.int .i64 0)) = .int .i64 0)) (Below.refl _ _) rfl
 intro act2 w2 T
 have h0_2 := (T.rest 0 (by kernel_rfl)).trans h0_1
 have h1_2 := (T.rest 1 (by kernel_rfl)).trans h1_1
 have h2_2 := (T.rest 2 (by kernel_rfl)).trans h2_1
 have h3_2 := (T.rest 3 (by kernel_rfl)).trans h3_1
 have h4_2 := (T.rest 4 (by kernel_rfl)).trans h4_1
 have kg2_1_2 := (T.below.block _ lg2_1_1).trans kg2_1_1
 have lg2_1_2 := Nat.lt_of_lt_of_le lg2_1_1 T.below.size
 have kg3_1_2 := (T.below.block _ lg3_1_1).trans kg3_1_1
 have lg3_1_2 := Nat.lt_of_lt_of_le lg3_1_1 T.below.size
 have kg4_1_2 := (T.below.block _ lg4_1_1).trans kg4_1_1
 have lg4_1_2 := Nat.lt_of_lt_of_le lg4_1_1 T.below.size
 have h6_2 : act2.eval (.tmp 6) = .int .i64 0 := T.done 0 6 rfl rfl
 have d2 := T.defers.trans d1
 have s2 := T.size.trans s1
 have bl2 := bl1.trans (T.below.mono bl1.size)
 clear T
 refine Eng.tail_nil ?_
 refine wp_block ?_
 refine Eng.loopN (fun n a w' => ∃ (k : Nat), 8 - k = n ∧ (k ≤ 8) ∧ a.defers = [] ∧ a.tmps.size = 19 ∧ Below w.heap.size w w' ∧ a.eval (.tmp 0) = .agg ((List.map (Value.int .u64) x1).toArray) ∧ a.eval (.tmp 1) = .agg ((List.map (Value.int .u64) x2).toArray) ∧ a.eval (.tmp 2) = .pointer (some ⟨g2_1, 0, none⟩) ∧ a.eval (.tmp 3) = .pointer (some ⟨g3_1, 0, none⟩) ∧ a.eval (.tmp 4) = .pointer (some ⟨g4_1, 0, none⟩) ∧ a.eval (.tmp 6) = .int .i64 (k : Nat) ∧ w'.heap[g2_1]? = some (.cells ((List.map (Value.int .u64) (Nfa.unionTo x1 x2 k)).toArray) 74 (0, 0)) ∧ g2_1 < w'.heap.size ∧ w'.heap[g3_1]? = some (.cells ((List.map (Value.int .u64) x2).toArray) 74 (0, 0)) ∧ g3_1 < w'.heap.size ∧ w'.heap[g4_1]? = some (.cells ((List.map (Value.int .u64) (List.replicate 8 0)).toArray) 74 (0, 0)) ∧ g4_1 < w'.heap.size) (n0 := 8 - 0) ?_ ?_
 ·exact ⟨0, rfl, by omega, d2, s2, bl2, h0_2, h1_2, h2_2, h3_2, h4_2, (h6_2.trans (by first | rfl | (congr 1; rw [Eng.i64_id (by omega) (by omega)]; omega) | (simp; done))), (kg2_1_2.trans (by first | rfl | (rw [Nfa.unionTo_succ]; done))), lg2_1_2, kg3_1_2, lg3_1_2, kg4_1_2, lg4_1_2⟩
 rintro n act3 w3 ⟨k, rfl, hc0_3, d3, s3, bl3, h0_3, h1_3, h2_3, h3_3, h4_3, h6_3, kg2_1_3, lg2_1_3, kg3_1_3, lg3_1_3, kg4_1_3, lg4_1_3⟩
 have hk1 := hc0_3
 refine wp_seq ?_
 obtain ⟨q7, Bq7⟩ : ∃ b : Bool, b = (decide ((k : Nat) < 8)) := ⟨_, rfl⟩
 refine Eng.regionS (Eng.still [fun u_ => u_ = .bool q7]) (fun _ => .plain) 1 0 19 s3 rfl (by kernel_rfl) (Eng.still_stable _) (Or.inr (Eng.still_any _)) ?_ ?_
 ·refine Eng.Steps.cons (fun _ => ?_) (Eng.Steps.nil)
  ·refine Eng.plain rfl rfl fun a w' H => ?_
   refine Eng.val (w1 := w') (v := .bool (decide ((k : Nat) < 8))) ?_ (Below.refl _ _) (by show _ = Value.bool q7; rw [Bq7])
   have e0 := ((H.kept 6 (by kernel_rfl)).trans h6_3)
   have e1 : a.eval (.const (.int .i64 8)) = .int .i64 8 := (rfl : a.eval (.const (.int .i64 8)) = .int .i64 8)
   simp only [execOp, resolve, e0, e1]
   go_simp
   all_goals first | rfl | (simp; done) | (rw [Bool.eq_iff_iff]; simp; done) | omega | skip
 intro act4 w4 T
 have h0_4 := (T.rest 0 (by kernel_rfl)).trans h0_3
 have h1_4 := (T.rest 1 (by kernel_rfl)).trans h1_3
 have h2_4 := (T.rest 2 (by kernel_rfl)).trans h2_3
 have h3_4 := (T.rest 3 (by kernel_rfl)).trans h3_3
 have h4_4 := (T.rest 4 (by kernel_rfl)).trans h4_3
 have h6_4 := (T.rest 6 (by kernel_rfl)).trans h6_3
 have kg2_1_4 := (T.below.block _ lg2_1_3).trans kg2_1_3
 have lg2_1_4 := Nat.lt_of_lt_of_le lg2_1_3 T.below.size
 have kg3_1_4 := (T.below.block _ lg3_1_3).trans kg3_1_3
 have lg3_1_4 := Nat.lt_of_lt_of_le lg3_1_3 T.below.size
 have kg4_1_4 := (T.below.block _ lg4_1_3).trans kg4_1_3
 have lg4_1_4 := Nat.lt_of_lt_of_le lg4_1_3 T.below.size
 have h7_4 : act4.eval (.tmp 7) = .bool q7 := T.done 0 7 rfl rfl
 have d4 := T.defers.trans d3
 have s4 := T.size.trans s3
 have bl4 := bl3.trans (T.below.mono bl3.size)
 clear T
 refine Eng.tail_nil ?_
 refine wp_seq ?_
 refine wp_cond_split h7_4 (fun hq => ?_) (fun hq => ?_)
 ·
  have c7 := Bq7.symm.trans hq
  clear hq
  have c7 := of_decide_eq_true c7
  have hk0 : k < 8 := by omega
  refine wp_skip ?_
  refine wp_seq ?_
  refine wp_block ?_
  refine wp_seq ?_
  refine Eng.regionS (Eng.still [fun u_ => u_ = .int .i64 (k : Nat), fun u_ => u_ = .int .i64 (k : Nat)]) (fun _ => .plain) 2 0 19 s4 rfl (by kernel_rfl) (Eng.still_stable _) (Or.inr (Eng.still_any _)) ?_ ?_
  ·refine Eng.Steps.cons (fun _ => ?_) (Eng.Steps.cons (fun _ => ?_) (Eng.Steps.nil))
   ·refine Eng.plain rfl rfl fun a w' H => ?_
    exact Eng.val (w1 := w') (v := .int .i64 (k : Nat)) (Eng.run_move rfl ((H.kept 6 (by kernel_rfl)).trans h6_4)) (Below.refl _ _) rfl
   ·refine Eng.plain rfl rfl fun a w' H => ?_
    exact Eng.val (w1 := w') (v := .int .i64 (k : Nat)) (Eng.run_assign rfl (H.dep 0 8 (by kernel_rfl) rfl)) (Below.refl _ _) rfl
  intro act6 w6 T
  have h0_6 := (T.rest 0 (by kernel_rfl)).trans h0_4
  have h1_6 := (T.rest 1 (by kernel_rfl)).trans h1_4
  have h2_6 := (T.rest 2 (by kernel_rfl)).trans h2_4
  have h3_6 := (T.rest 3 (by kernel_rfl)).trans h3_4
  have h4_6 := (T.rest 4 (by kernel_rfl)).trans h4_4
  have h6_6 := (T.rest 6 (by kernel_rfl)).trans h6_4
  have kg2_1_6 := (T.below.block _ lg2_1_4).trans kg2_1_4
  have lg2_1_6 := Nat.lt_of_lt_of_le lg2_1_4 T.below.size
  have kg3_1_6 := (T.below.block _ lg3_1_4).trans kg3_1_4
  have lg3_1_6 := Nat.lt_of_lt_of_le lg3_1_4 T.below.size
  have kg4_1_6 := (T.below.block _ lg4_1_4).trans kg4_1_4
  have lg4_1_6 := Nat.lt_of_lt_of_le lg4_1_4 T.below.size
  have h5_6 : act6.eval (.tmp 5) = .int .i64 (k : Nat) := T.done 1 5 rfl rfl
  have d6 := T.defers.trans d4
  have s6 := T.size.trans s4
  have bl6 := bl4.trans (T.below.mono bl4.size)
  clear T
  refine Eng.tail_nil ?_
  refine Eng.regionD (Eng.still [fun u_ => u_ = .int .i64 (k : Nat), fun u_ => u_ = .pointer (some ⟨g2_1, k, none⟩), fun u_ => u_ = .int .u64 (Nfa.at_ (Nfa.unionTo x1 x2 k) (k)), fun u_ => u_ = .int .i64 (k : Nat), fun u_ => u_ = .pointer (some ⟨g3_1, k, none⟩), fun u_ => u_ = .int .u64 (Nfa.at_ x2 (k)), fun u_ => u_ = .int .u64 (Go.bits .or .u64 (Nfa.at_ (Nfa.unionTo x1 x2 k) k) (Nfa.at_ x2 k)), fun u_ => u_ = .pointer (some ⟨g2_1, k, none⟩)]) (fun _ => .plain) 8 1 19 (by kernel_rfl) s6 rfl (by kernel_rfl) (Eng.still_stable _) (Or.inr (Eng.still_any _)) ?_ ?_
  ·refine Eng.Steps.cons (fun _ => ?_) (Eng.Steps.cons (fun _ => ?_) (Eng.Steps.cons (fun _ => ?_) (Eng.Steps.cons (fun _ => ?_) (Eng.Steps.cons (fun _ => ?_) (Eng.Steps.cons (fun _ => ?_) (Eng.Steps.cons (fun _ => ?_) (Eng.Steps.cons (fun _ => ?_) (Eng.Steps.cons (fun hlt => ?_) (Eng.Steps.nil)))))))))
   ·refine Eng.plain rfl rfl fun a w' H => ?_
    exact Eng.val (w1 := w') (v := .int .i64 (k : Nat)) (Eng.run_move rfl ((H.kept 5 (by kernel_rfl)).trans h5_6)) (Below.refl _ _) rfl
   ·refine Eng.plain rfl rfl fun a w' H => ?_
    refine Eng.val (w1 := w') (v := .pointer (some ⟨g2_1, k, none⟩)) ?_ (Below.refl _ _) rfl
    exact Eng.run_indexAddr rfl Tryd.underlying74 (by kernel_rfl) ((H.kept 2 (by kernel_rfl)).trans h2_6) ((H.dep 0 9 (by kernel_rfl) rfl).trans (congrArg (Value.int _) (show (k : Nat) = ((k : Nat) : Int) from by omega))) (by decide) (by omega)
   ·refine Eng.plain rfl rfl fun a w' H => ?_
    have kb := (H.below.block _ lg2_1_6).trans kg2_1_6
    have z0 : w'.cell? ⟨g2_1, k, none⟩ = some (.int .u64 (Nfa.at_ (Nfa.unionTo x1 x2 k) (k))) := (Eng.cells kb (k)).trans (Nfa.cell_at ((Nfa.unionTo_len _ _ _).trans ha) (by omega))
    refine Eng.val (w1 := w') (v := .int .u64 (Nfa.at_ (Nfa.unionTo x1 x2 k) (k))) ?_ (Below.refl _ _) rfl
    have e0 : a.eval (.tmp 10) = .pointer (some ⟨g2_1, k, none⟩) := (H.dep 1 10 (by kernel_rfl) rfl)
    simp only [execOp, resolve, e0]
    go_simp
   ·refine Eng.plain rfl rfl fun a w' H => ?_
    exact Eng.val (w1 := w') (v := .int .i64 (k : Nat)) (Eng.run_move rfl ((H.kept 5 (by kernel_rfl)).trans h5_6)) (Below.refl _ _) rfl
   ·refine Eng.plain rfl rfl fun a w' H => ?_
    refine Eng.val (w1 := w') (v := .pointer (some ⟨g3_1, k, none⟩)) ?_ (Below.refl _ _) rfl
    exact Eng.run_indexAddr rfl Tryd.underlying74 (by kernel_rfl) ((H.kept 3 (by kernel_rfl)).trans h3_6) ((H.dep 3 12 (by kernel_rfl) rfl).trans (congrArg (Value.int _) (show (k : Nat) = ((k : Nat) : Int) from by omega))) (by decide) (by omega)
   ·refine Eng.plain rfl rfl fun a w' H => ?_
    have kb := (H.below.block _ lg3_1_6).trans kg3_1_6
    have z0 : w'.cell? ⟨g3_1, k, none⟩ = some (.int .u64 (Nfa.at_ x2 (k))) := (Eng.cells kb (k)).trans (Nfa.cell_at (hb) (by omega))
    refine Eng.val (w1 := w') (v := .int .u64 (Nfa.at_ x2 (k))) ?_ (Below.refl _ _) rfl
    have e0 : a.eval (.tmp 13) = .pointer (some ⟨g3_1, k, none⟩) := (H.dep 4 13 (by kernel_rfl) rfl)
    simp only [execOp, resolve, e0]
    go_simp
   ·refine Eng.plain rfl rfl fun a w' H => ?_
    refine Eng.val (w1 := w') (v := .int .u64 (Go.bits .or .u64 (Nfa.at_ (Nfa.unionTo x1 x2 k) k) (Nfa.at_ x2 k))) ?_ (Below.refl _ _) rfl
    have e0 : a.eval (.tmp 11) = .int .u64 (Nfa.at_ (Nfa.unionTo x1 x2 k) (k)) := (H.dep 2 11 (by kernel_rfl) rfl)
    have e1 : a.eval (.tmp 14) = .int .u64 (Nfa.at_ x2 (k)) := (H.dep 5 14 (by kernel_rfl) rfl)
    simp only [execOp, resolve, e0, e1]
    go_simp
    all_goals first | rfl | skip
   ·refine Eng.plain rfl rfl fun a w' H => ?_
    refine Eng.val (w1 := w') (v := .pointer (some ⟨g2_1, k, none⟩)) ?_ (Below.refl _ _) rfl
    exact Eng.run_indexAddr rfl Tryd.underlying74 (by kernel_rfl) ((H.kept 2 (by kernel_rfl)).trans h2_6) ((H.dep 0 9 (by kernel_rfl) rfl).trans (congrArg (Value.int _) (show (k : Nat) = ((k : Nat) : Int) from by omega))) (by decide) (by omega)
   ·exact absurd hlt (by decide)
  intro act7 w7 T
  have h0_7 := (T.rest 0 (by kernel_rfl)).trans h0_6
  have h1_7 := (T.rest 1 (by kernel_rfl)).trans h1_6
  have h2_7 := (T.rest 2 (by kernel_rfl)).trans h2_6
  have h3_7 := (T.rest 3 (by kernel_rfl)).trans h3_6
  have h4_7 := (T.rest 4 (by kernel_rfl)).trans h4_6
  have h6_7 := (T.rest 6 (by kernel_rfl)).trans h6_6
  have kg2_1_7 := (T.below.block _ lg2_1_6).trans kg2_1_6
  have lg2_1_7 := Nat.lt_of_lt_of_le lg2_1_6 T.below.size
  have kg3_1_7 := (T.below.block _ lg3_1_6).trans kg3_1_6
  have lg3_1_7 := Nat.lt_of_lt_of_le lg3_1_6 T.below.size
  have kg4_1_7 := (T.below.block _ lg4_1_6).trans kg4_1_6
  have lg4_1_7 := Nat.lt_of_lt_of_le lg4_1_6 T.below.size
  have h15_7 : act7.eval (.tmp 15) = .int .u64 (Go.bits .or .u64 (Nfa.at_ (Nfa.unionTo x1 x2 k) k) (Nfa.at_ x2 k)) := T.done 6 15 rfl rfl
  have h16_7 : act7.eval (.tmp 16) = .pointer (some ⟨g2_1, k, none⟩) := T.done 7 16 rfl rfl
  have d7 := T.defers.trans d6
  have s7 := T.size.trans s6
  have bl7 := bl6.trans (T.below.mono bl6.size)
  clear T
  refine Eng.tail_set (n := k) (v := .int .u64 (Go.bits .or .u64 (Nfa.at_ (Nfa.unionTo x1 x2 k) k) (Nfa.at_ x2 k))) (new := (List.map (Value.int .u64) ((Nfa.unionTo x1 x2 k).set (k) (Go.bits .or .u64 (Nfa.at_ (Nfa.unionTo x1 x2 k) k) (Nfa.at_ x2 k)))).toArray) rfl rfl rfl kg2_1_7 (Nfa.cell_set (Nfa.unionTo x1 x2 k) (k) (Go.bits .or .u64 (Nfa.at_ (Nfa.unionTo x1 x2 k) k) (Nfa.at_ x2 k))) ?_ fun w8 S => ?_
  ·have e0 : act7.eval (.tmp 16) = .pointer (some ⟨g2_1, k, none⟩) := h16_7
   have e1 : act7.eval (.tmp 15) = .int .u64 (Go.bits .or .u64 (Nfa.at_ (Nfa.unionTo x1 x2 k) k) (Nfa.at_ x2 k)) := h15_7
   have z0 := (Eng.cells kg2_1_7 (k)).trans (Nfa.cell_at ((Nfa.unionTo_len _ _ _).trans ha) (by omega))
   have f0 := Eng.unfrozen kg2_1_7 (k)
   simp only [execOp]
   rw [e0, e1]
   go_simp
  have kg2_1_8 := S.new
  have lg2_1_8 := Nat.lt_of_lt_of_eq lg2_1_7 S.size.symm
  have kg3_1_8 := (S.far _ ne_g3_1_g2_1.symm).trans kg3_1_7
  have lg3_1_8 := Nat.lt_of_lt_of_eq lg3_1_7 S.size.symm
  have kg4_1_8 := (S.far _ ne_g4_1_g2_1.symm).trans kg4_1_7
  have lg4_1_8 := Nat.lt_of_lt_of_eq lg4_1_7 S.size.symm
  have bl8 := S.below bl7 og2_1
  clear S
  refine Eng.tail_nil ?_
  refine Eng.regionS (Eng.still [fun u_ => u_ = .int .i64 (IntKind.i64.wrap ((k : Nat) + 1)), fun u_ => u_ = .int .i64 (IntKind.i64.wrap ((k : Nat) + 1))]) (fun _ => .plain) 2 0 19 s7 rfl (by kernel_rfl) (Eng.still_stable _) (Or.inr (Eng.still_any _)) ?_ ?_
  ·refine Eng.Steps.cons (fun _ => ?_) (Eng.Steps.cons (fun _ => ?_) (Eng.Steps.nil))
   ·refine Eng.plain rfl rfl fun a w' H => ?_
    refine Eng.val (w1 := w') (v := .int .i64 (IntKind.i64.wrap ((k : Nat) + 1))) ?_ (Below.refl _ _) rfl
    have e0 := ((H.kept 6 (by kernel_rfl)).trans h6_7)
    have e1 : a.eval (.const (.int .i64 1)) = .int .i64 1 := (rfl : a.eval (.const (.int .i64 1)) = .int .i64 1)
    simp only [execOp, resolve, e0, e1]
    go_simp
   ·refine Eng.plain rfl rfl fun a w' H => ?_
    exact Eng.val (w1 := w') (v := .int .i64 (IntKind.i64.wrap ((k : Nat) + 1))) (Eng.run_move rfl (H.dep 0 17 (by kernel_rfl) rfl)) (Below.refl _ _) rfl
  intro act9 w9 T
  have h0_9 := (T.rest 0 (by kernel_rfl)).trans h0_7
  have h1_9 := (T.rest 1 (by kernel_rfl)).trans h1_7
  have h2_9 := (T.rest 2 (by kernel_rfl)).trans h2_7
  have h3_9 := (T.rest 3 (by kernel_rfl)).trans h3_7
  have h4_9 := (T.rest 4 (by kernel_rfl)).trans h4_7
  have kg2_1_9 := (T.below.block _ lg2_1_8).trans kg2_1_8
  have lg2_1_9 := Nat.lt_of_lt_of_le lg2_1_8 T.below.size
  have kg3_1_9 := (T.below.block _ lg3_1_8).trans kg3_1_8
  have lg3_1_9 := Nat.lt_of_lt_of_le lg3_1_8 T.below.size
  have kg4_1_9 := (T.below.block _ lg4_1_8).trans kg4_1_8
  have lg4_1_9 := Nat.lt_of_lt_of_le lg4_1_8 T.below.size
  have h6_9 : act9.eval (.tmp 6) = .int .i64 (IntKind.i64.wrap ((k : Nat) + 1)) := T.done 1 6 rfl rfl
  have d9 := T.defers.trans d7
  have s9 := T.size.trans s7
  have bl9 := bl8.trans (T.below.mono bl8.size)
  clear T
  refine Eng.tail_nil ?_
  exact ⟨_, by omega, k + 1, rfl, by omega, d9, s9, bl9, h0_9, h1_9, h2_9, h3_9, h4_9, (h6_9.trans (by first | rfl | (congr 1; rw [Eng.i64_id (by omega) (by omega)]; omega) | (simp; done))), (kg2_1_9.trans (by first | rfl | (rw [Nfa.unionTo_succ]; done))), lg2_1_9, kg3_1_9, lg3_1_9, kg4_1_9, lg4_1_9⟩
 ·
  have c7 := Bq7.symm.trans hq
  clear hq
  have c7 := of_decide_eq_false c7
  refine wp_exit ?_
  refine wp_seq ?_
  refine Eng.regionS (Eng.still [fun u_ => u_ = .agg ((List.map (Value.int .u64) (Nfa.unionTo x1 x2 k)).toArray)]) (fun _ => .plain) 1 1 19 s4 rfl (by kernel_rfl) (Eng.still_stable _) (Or.inr (Eng.still_any _)) ?_ ?_
  ·refine Eng.Steps.cons (fun _ => ?_) (Eng.Steps.cons (fun hlt => ?_) (Eng.Steps.nil))
   ·refine Eng.plain rfl rfl fun a w' H => ?_
    have kb := (H.below.block _ lg2_1_4).trans kg2_1_4
    refine Eng.val (w1 := w') (v := .agg ((List.map (Value.int .u64) (Nfa.unionTo x1 x2 k)).toArray)) ?_ (Below.refl _ _) rfl
    exact Eng.run_load_all rfl ((H.kept 2 (by kernel_rfl)).trans h2_4) kb Tryd.underlying74 rfl (by rw [Nfa.cells_size ((Nfa.unionTo_len _ _ _).trans ha)]; kernel_rfl)
   ·exact absurd hlt (by decide)
  intro act11 w11 T
  have h4_11 := (T.rest 4 (by kernel_rfl)).trans h4_4
  have kg4_1_11 := (T.below.block _ lg4_1_4).trans kg4_1_4
  have h18_11 : act11.eval (.tmp 18) = .agg ((List.map (Value.int .u64) (Nfa.unionTo x1 x2 k)).toArray) := T.done 0 18 rfl rfl
  have d11 := T.defers.trans d4
  have bl11 := bl4.trans (T.below.mono bl4.size)
  clear T
  refine Eng.tail_arr rfl rfl rfl rfl h4_11 h18_11 kg4_1_11 (by rw [Nfa.cells_size ((Nfa.unionTo_len _ _ _).trans ha)]; kernel_rfl) ((Nfa.cells_size (by simp)).trans (Nfa.cells_size ((Nfa.unionTo_len _ _ _).trans ha)).symm) (by simp [Value.oneCell']) fun w12 S => ?_
  have kg4_1_12 := S.new
  have bl12 := S.below bl11 og4_1
  clear S
  refine Eng.tail_nil ?_
  refine wp_ret ?_
  repeat (first | refine Eng.in_ret ?_ | refine Eng.then_ret ?_)
  obtain rfl : k = 8 := by omega
  exact Eng.retc rfl d11 h4_11 kg4_1_12 Tryd.underlying74 rfl (by rw [Nfa.cells_size ((Nfa.unionTo_len _ _ _).trans ha)]; kernel_rfl) ⟨rfl, bl12⟩
end Go.Proofs.YthgafcaoibfchaaDoor.X
end
section
namespace Go.Proofs.YthgafcaoibfchaaDoor.X
open Go.RowKit Go.Shelf Go.Proofs Go.Proofs.YthgafcaoibfchaaDoorW.PrintWords Go.Proofs.YthgafcaoibfchaaDoorW.PrintLast Go.Proofs.YthgafcaoibfchaaDoorW.PrintMore
set_option linter.unusedVariables false
set_option linter.unusedSimpArgs false
set_option maxHeartbeats 4000000 in
set_option maxRecDepth 100000 in
theorem Nfa.equal_calls (xv yv : Value) (l r : List Int) (w : World) (hx : Eng.Reads w xv l.length 1 (Nfa.ints l)) (hy : Eng.Reads w yv r.length 1 (Nfa.ints r)) : Calls Tryd.prog 47 #[xv, yv] w fun e w' => e = .returned (.bool (l == r)) ∧ Below w.heap.size w w' := by
 have hm := Eng.Reads.len_le hx
 have hm2 := Eng.Reads.len_le hy
 refine Eng.enter Tryd.func47 rfl fun act0 d0 s0 v0 => ?_
 have s0 : act0.tmps.size = 26 := s0
 have h0_0 : act0.eval (.tmp 0) = xv := v0 0 (by simp)
 have h1_0 : act0.eval (.tmp 1) = yv := v0 1 (by simp)
 clear v0
 have bl0 : Below w.heap.size w w := Below.refl _ _
 refine wp_seq ?_
 refine Eng.regionS (Eng.still [fun u_ => u_ = .bool false]) (fun _ => .plain) 1 0 26 s0 rfl (by kernel_rfl) (Eng.still_stable _) (Or.inr (Eng.still_any _)) ?_ ?_
 ·refine Eng.Steps.cons (fun _ => ?_) (Eng.Steps.nil)
  ·refine Eng.plain rfl rfl fun a w' H => ?_
   exact Eng.val (w1 := w') (v := .bool false) (Eng.run_assign rfl (rfl : a.eval (.const (.bool false)) = .bool false)) (Below.refl _ _) rfl
 intro act1 w1 T
 have h0_1 := (T.rest 0 (by kernel_rfl)).trans h0_0
 have h1_1 := (T.rest 1 (by kernel_rfl)).trans h1_0
 have Fxx_1 := Eng.Reads.below hx T.below
 have Fyy_1 := Eng.Reads.below hy T.below
 have d1 := T.defers.trans d0
 have s1 := T.size.trans s0
 have bl1 := bl0.trans (T.below.mono bl0.size)
 clear T
 refine Eng.tail_nil ?_
 refine wp_seq ?_
 refine wp_seq ?_
 obtain ⟨q10, Bq10⟩ : ∃ b : Bool, b = (!(((l.length : Nat) : Int) == ((r.length : Nat) : Int))) := ⟨_, rfl⟩
 refine Eng.regionS (Eng.still [fun u_ => u_ = xv, fun u_ => u_ = .int .i64 ((l.length : Nat) : Int), fun u_ => u_ = yv, fun u_ => u_ = .int .i64 ((r.length : Nat) : Int), fun u_ => u_ = .bool q10]) (fun _ => .plain) 5 0 26 s1 rfl (by kernel_rfl) (Eng.still_stable _) (Or.inr (Eng.still_any _)) ?_ ?_
 ·refine Eng.Steps.cons (fun _ => ?_) (Eng.Steps.cons (fun _ => ?_) (Eng.Steps.cons (fun _ => ?_) (Eng.Steps.cons (fun _ => ?_) (Eng.Steps.cons (fun _ => ?_) (Eng.Steps.nil)))))
  ·refine Eng.plain rfl rfl fun a w' H => ?_
   exact Eng.val (w1 := w') (v := xv) (Eng.run_move rfl ((H.kept 0 (by kernel_rfl)).trans h0_1)) (Below.refl _ _) rfl
  ·refine Eng.plain rfl rfl fun a w' H => ?_
   refine Eng.val (w1 := w') (v := .int .i64 ((l.length : Nat) : Int)) ?_ (Below.refl _ _) rfl
   exact Eng.run_len_sl rfl Tryd.underlying63 (show a.eval (.tmp 6) = xv from (H.dep 0 6 (by kernel_rfl) rfl)) (Eng.Reads.below Fxx_1 H.below)
  ·refine Eng.plain rfl rfl fun a w' H => ?_
   exact Eng.val (w1 := w') (v := yv) (Eng.run_move rfl ((H.kept 1 (by kernel_rfl)).trans h1_1)) (Below.refl _ _) rfl
  ·refine Eng.plain rfl rfl fun a w' H => ?_
   refine Eng.val (w1 := w') (v := .int .i64 ((r.length : Nat) : Int)) ?_ (Below.refl _ _) rfl
   exact Eng.run_len_sl rfl Tryd.underlying63 (show a.eval (.tmp 8) = yv from (H.dep 2 8 (by kernel_rfl) rfl)) (Eng.Reads.below Fyy_1 H.below)
  ·refine Eng.plain rfl rfl fun a w' H => ?_
   refine Eng.val (w1 := w') (v := .bool (!(((l.length : Nat) : Int) == ((r.length : Nat) : Int)))) ?_ (Below.refl _ _) (by show _ = Value.bool q10; rw [Bq10])
   have e0 : a.eval (.tmp 7) = .int .i64 ((l.length : Nat) : Int) := (H.dep 1 7 (by kernel_rfl) rfl)
   have e1 : a.eval (.tmp 9) = .int .i64 ((r.length : Nat) : Int) := (H.dep 3 9 (by kernel_rfl) rfl)
   simp only [execOp, resolve, e0, e1]
   go_simp
   all_goals first | rfl | (simp; done) | (rw [Bool.eq_iff_iff]; simp; done) | omega | skip
 intro act2 w2 T
 have h0_2 := (T.rest 0 (by kernel_rfl)).trans h0_1
 have h1_2 := (T.rest 1 (by kernel_rfl)).trans h1_1
 have Fxx_2 := Eng.Reads.below Fxx_1 T.below
 have h10_2 : act2.eval (.tmp 10) = .bool q10 := T.done 4 10 rfl rfl
 have d2 := T.defers.trans d1
 have s2 := T.size.trans s1
 have bl2 := bl1.trans (T.below.mono bl1.size)
 clear T
 refine Eng.tail_nil ?_
 refine wp_cond_split h10_2 (fun hq => ?_) (fun hq => ?_)
 ·
  have c10 := Bq10.symm.trans hq
  clear hq
  have hlen : l.length ≠ r.length := by have h := c10; simp at h; omega
  refine wp_seq ?_
  refine Eng.regionS (Eng.still [fun u_ => u_ = .bool false]) (fun _ => .plain) 1 0 26 s2 rfl (by kernel_rfl) (Eng.still_stable _) (Or.inr (Eng.still_any _)) ?_ ?_
  ·refine Eng.Steps.cons (fun _ => ?_) (Eng.Steps.nil)
   ·refine Eng.plain rfl rfl fun a w' H => ?_
    exact Eng.val (w1 := w') (v := .bool false) (Eng.run_assign rfl (rfl : a.eval (.const (.bool false)) = .bool false)) (Below.refl _ _) rfl
  intro act4 w4 T
  have h4_4 : act4.eval (.tmp 4) = .bool false := T.done 0 4 rfl rfl
  have d4 := T.defers.trans d2
  have bl4 := bl2.trans (T.below.mono bl2.size)
  clear T
  refine Eng.tail_nil ?_
  refine wp_ret ?_
  repeat (first | refine Eng.in_ret ?_ | refine Eng.then_ret ?_)
  exact Eng.ret1 rfl d4 h4_4 ⟨congrArg _ (congrArg _ (by first | exact (Nfa.eq_len hlen).symm | exact (Nfa.eq_at hke).symm | exact (Nfa.eq_all hlen (fun i hi => hsame i (by omega))).symm)), bl4⟩
 ·
  have c10 := Bq10.symm.trans hq
  clear hq
  have hlen : l.length = r.length := by have h := c10; simp at h; omega
  refine wp_skip ?_
  refine wp_seq ?_
  refine wp_seq ?_
  refine Eng.regionS (Eng.still [fun u_ => u_ = xv, fun u_ => u_ = .int .i64 ((l.length : Nat) : Int), fun u_ => u_ = .int .i64 0]) (fun _ => .plain) 3 0 26 s2 rfl (by kernel_rfl) (Eng.still_stable _) (Or.inr (Eng.still_any _)) ?_ ?_
  ·refine Eng.Steps.cons (fun _ => ?_) (Eng.Steps.cons (fun _ => ?_) (Eng.Steps.cons (fun _ => ?_) (Eng.Steps.nil)))
   ·refine Eng.plain rfl rfl fun a w' H => ?_
    exact Eng.val (w1 := w') (v := xv) (Eng.run_move rfl ((H.kept 0 (by kernel_rfl)).trans h0_2)) (Below.refl _ _) rfl
   ·refine Eng.plain rfl rfl fun a w' H => ?_
    refine Eng.val (w1 := w') (v := .int .i64 ((l.length : Nat) : Int)) ?_ (Below.refl _ _) rfl
    exact Eng.run_len_sl rfl Tryd.underlying63 (show a.eval (.tmp 11) = xv from (H.dep 0 11 (by kernel_rfl) rfl)) (Eng.Reads.below Fxx_2 H.below)
   ·refine Eng.plain rfl rfl fun a w' H => ?_
    exact Eng.val (w1 := w') (v := .int .i64 0) (Eng.run_move rfl (rfl : a.eval (.const (.int .i64 0)) = .int .i64 0)) (Below.refl _ _) rfl
  intro act6 w6 T
  have h0_6 := (T.rest 0 (by kernel_rfl)).trans h0_2
  have h1_6 := (T.rest 1 (by kernel_rfl)).trans h1_2
  have h10_6 := (T.rest 10 (by kernel_rfl)).trans h10_2
  have h12_6 : act6.eval (.tmp 12) = .int .i64 ((l.length : Nat) : Int) := T.done 1 12 rfl rfl
  have h13_6 : act6.eval (.tmp 13) = .int .i64 0 := T.done 2 13 rfl rfl
  have d6 := T.defers.trans d2
  have s6 := T.size.trans s2
  have bl6 := bl2.trans (T.below.mono bl2.size)
  clear T
  refine Eng.tail_nil ?_
  refine wp_block ?_
  refine Eng.loopN (fun n a w' => ∃ (k : Nat), l.length - k = n ∧ (k ≤ l.length) ∧ (∀ i, i < k → l.getD i 0 = r.getD i 0) ∧ a.defers = [] ∧ a.tmps.size = 26 ∧ Below w.heap.size w w' ∧ a.eval (.tmp 0) = xv ∧ a.eval (.tmp 1) = yv ∧ a.eval (.tmp 10) = .bool q10 ∧ a.eval (.tmp 12) = .int .i64 ((l.length : Nat) : Int) ∧ a.eval (.tmp 13) = .int .i64 (k : Nat)) (n0 := l.length - 0) ?_ ?_
  ·exact ⟨0, rfl, by omega, fun i hi => absurd hi (by omega), d6, s6, bl6, h0_6, h1_6, h10_6, h12_6, (h13_6.trans (by first | rfl | (congr 1; rw [Eng.i64_id (by omega) (by omega)]; omega) | (simp; done)))⟩
  rintro n act7 w7 ⟨k, rfl, hc0_7, hc1_7, d7, s7, bl7, h0_7, h1_7, h10_7, h12_7, h13_7⟩
  have Fxx_7 := Eng.Reads.below hx bl7
  have Fyy_7 := Eng.Reads.below hy bl7
  have hk1 := hc0_7
  have hsame := hc1_7
  refine wp_seq ?_
  obtain ⟨q14, Bq14⟩ : ∃ b : Bool, b = (decide ((k : Nat) < ((l.length : Nat) : Int))) := ⟨_, rfl⟩
  refine Eng.regionS (Eng.still [fun u_ => u_ = .bool q14]) (fun _ => .plain) 1 0 26 s7 rfl (by kernel_rfl) (Eng.still_stable _) (Or.inr (Eng.still_any _)) ?_ ?_
  ·refine Eng.Steps.cons (fun _ => ?_) (Eng.Steps.nil)
   ·refine Eng.plain rfl rfl fun a w' H => ?_
    refine Eng.val (w1 := w') (v := .bool (decide ((k : Nat) < ((l.length : Nat) : Int)))) ?_ (Below.refl _ _) (by show _ = Value.bool q14; rw [Bq14])
    have e0 := ((H.kept 13 (by kernel_rfl)).trans h13_7)
    have e1 := ((H.kept 12 (by kernel_rfl)).trans h12_7)
    simp only [execOp, resolve, e0, e1]
    go_simp
  intro act8 w8 T
  have h0_8 := (T.rest 0 (by kernel_rfl)).trans h0_7
  have h1_8 := (T.rest 1 (by kernel_rfl)).trans h1_7
  have h10_8 := (T.rest 10 (by kernel_rfl)).trans h10_7
  have h12_8 := (T.rest 12 (by kernel_rfl)).trans h12_7
  have h13_8 := (T.rest 13 (by kernel_rfl)).trans h13_7
  have Fxx_8 := Eng.Reads.below Fxx_7 T.below
  have Fyy_8 := Eng.Reads.below Fyy_7 T.below
  have h14_8 : act8.eval (.tmp 14) = .bool q14 := T.done 0 14 rfl rfl
  have d8 := T.defers.trans d7
  have s8 := T.size.trans s7
  have bl8 := bl7.trans (T.below.mono bl7.size)
  clear T
  refine Eng.tail_nil ?_
  refine wp_seq ?_
  refine wp_cond_split h14_8 (fun hq => ?_) (fun hq => ?_)
  ·
   have c14 := Bq14.symm.trans hq
   clear hq
   have c14 := of_decide_eq_true c14
   have hk0 : k < l.length := by omega
   refine wp_skip ?_
   refine wp_seq ?_
   refine wp_block ?_
   refine wp_seq ?_
   refine Eng.regionS (Eng.still [fun u_ => u_ = .int .i64 (k : Nat), fun u_ => u_ = .int .i64 (k : Nat)]) (fun _ => .plain) 2 0 26 s8 rfl (by kernel_rfl) (Eng.still_stable _) (Or.inr (Eng.still_any _)) ?_ ?_
   ·refine Eng.Steps.cons (fun _ => ?_) (Eng.Steps.cons (fun _ => ?_) (Eng.Steps.nil))
    ·refine Eng.plain rfl rfl fun a w' H => ?_
     exact Eng.val (w1 := w') (v := .int .i64 (k : Nat)) (Eng.run_move rfl ((H.kept 13 (by kernel_rfl)).trans h13_8)) (Below.refl _ _) rfl
    ·refine Eng.plain rfl rfl fun a w' H => ?_
     exact Eng.val (w1 := w') (v := .int .i64 (k : Nat)) (Eng.run_assign rfl (H.dep 0 15 (by kernel_rfl) rfl)) (Below.refl _ _) rfl
   intro act10 w10 T
   have h0_10 := (T.rest 0 (by kernel_rfl)).trans h0_8
   have h1_10 := (T.rest 1 (by kernel_rfl)).trans h1_8
   have h10_10 := (T.rest 10 (by kernel_rfl)).trans h10_8
   have h12_10 := (T.rest 12 (by kernel_rfl)).trans h12_8
   have h13_10 := (T.rest 13 (by kernel_rfl)).trans h13_8
   have Fxx_10 := Eng.Reads.below Fxx_8 T.below
   have Fyy_10 := Eng.Reads.below Fyy_8 T.below
   have h5_10 : act10.eval (.tmp 5) = .int .i64 (k : Nat) := T.done 1 5 rfl rfl
   have d10 := T.defers.trans d8
   have s10 := T.size.trans s8
   have bl10 := bl8.trans (T.below.mono bl8.size)
   clear T
   refine Eng.tail_nil ?_
   refine wp_seq ?_
   obtain ⟨q24, Bq24⟩ : ∃ b : Bool, b = (!((l.getD k 0) == (r.getD k 0))) := ⟨_, rfl⟩
   refine Eng.regionD (Eng.still [fun u_ => u_ = xv, fun u_ => u_ = .int .i64 (k : Nat), fun u_ => u_ = Eng.elemPtr xv (k * 1), fun u_ => u_ = .int .i64 (l.getD k 0), fun u_ => u_ = yv, fun u_ => u_ = .int .i64 (k : Nat), fun u_ => u_ = Eng.elemPtr yv (k * 1), fun u_ => u_ = .int .i64 (r.getD k 0), fun u_ => u_ = .bool q24]) (fun _ => .plain) 9 0 26 (by kernel_rfl) s10 rfl (by kernel_rfl) (Eng.still_stable _) (Or.inr (Eng.still_any _)) ?_ ?_
   ·refine Eng.Steps.cons (fun _ => ?_) (Eng.Steps.cons (fun _ => ?_) (Eng.Steps.cons (fun _ => ?_) (Eng.Steps.cons (fun _ => ?_) (Eng.Steps.cons (fun _ => ?_) (Eng.Steps.cons (fun _ => ?_) (Eng.Steps.cons (fun _ => ?_) (Eng.Steps.cons (fun _ => ?_) (Eng.Steps.cons (fun _ => ?_) (Eng.Steps.nil)))))))))
    ·refine Eng.plain rfl rfl fun a w' H => ?_
     exact Eng.val (w1 := w') (v := xv) (Eng.run_move rfl ((H.kept 0 (by kernel_rfl)).trans h0_10)) (Below.refl _ _) rfl
    ·refine Eng.plain rfl rfl fun a w' H => ?_
     exact Eng.val (w1 := w') (v := .int .i64 (k : Nat)) (Eng.run_move rfl ((H.kept 5 (by kernel_rfl)).trans h5_10)) (Below.refl _ _) rfl
    ·refine Eng.plain rfl rfl fun a w' H => ?_
     refine Eng.val (w1 := w') (v := Eng.elemPtr xv (k * 1)) ?_ (Below.refl _ _) rfl
     exact Eng.run_index_sl rfl Tryd.underlying63 (by kernel_rfl) (show a.eval (.tmp 16) = xv from (H.dep 0 16 (by kernel_rfl) rfl)) ((show a.eval (.tmp 17) = .int .i64 (k : Nat) from (H.dep 1 17 (by kernel_rfl) rfl)).trans (congrArg (Value.int _) (show (k : Nat) = ((k : Nat) : Int) from by omega))) (Eng.Reads.below Fxx_10 H.below) (by omega) rfl
    ·refine Eng.plain rfl rfl fun a w' H => ?_
     refine Eng.val (w1 := w') (v := .int .i64 (l.getD k 0)) ?_ (Below.refl _ _) rfl
     exact Eng.run_load_el (.int .i64 (l.getD k 0)) rfl (show a.eval (.tmp 18) = Eng.elemPtr xv (k * 1) from (H.dep 2 18 (by kernel_rfl) rfl)) (Eng.Reads.below Fxx_10 H.below) (Nfa.ints_at l k (by omega)) (by kernel_rfl)
    ·refine Eng.plain rfl rfl fun a w' H => ?_
     exact Eng.val (w1 := w') (v := yv) (Eng.run_move rfl ((H.kept 1 (by kernel_rfl)).trans h1_10)) (Below.refl _ _) rfl
    ·refine Eng.plain rfl rfl fun a w' H => ?_
     exact Eng.val (w1 := w') (v := .int .i64 (k : Nat)) (Eng.run_move rfl ((H.kept 5 (by kernel_rfl)).trans h5_10)) (Below.refl _ _) rfl
    ·refine Eng.plain rfl rfl fun a w' H => ?_
     refine Eng.val (w1 := w') (v := Eng.elemPtr yv (k * 1)) ?_ (Below.refl _ _) rfl
     exact Eng.run_index_sl rfl Tryd.underlying63 (by kernel_rfl) (show a.eval (.tmp 20) = yv from (H.dep 4 20 (by kernel_rfl) rfl)) ((show a.eval (.tmp 21) = .int .i64 (k : Nat) from (H.dep 5 21 (by kernel_rfl) rfl)).trans (congrArg (Value.int _) (show (k : Nat) = ((k : Nat) : Int) from by omega))) (Eng.Reads.below Fyy_10 H.below) (by omega) rfl
    ·refine Eng.plain rfl rfl fun a w' H => ?_
     refine Eng.val (w1 := w') (v := .int .i64 (r.getD k 0)) ?_ (Below.refl _ _) rfl
     exact Eng.run_load_el (.int .i64 (r.getD k 0)) rfl (show a.eval (.tmp 22) = Eng.elemPtr yv (k * 1) from (H.dep 6 22 (by kernel_rfl) rfl)) (Eng.Reads.below Fyy_10 H.below) (Nfa.ints_at r k (by omega)) (by kernel_rfl)
    ·refine Eng.plain rfl rfl fun a w' H => ?_
     refine Eng.val (w1 := w') (v := .bool (!((l.getD k 0) == (r.getD k 0)))) ?_ (Below.refl _ _) (by show _ = Value.bool q24; rw [Bq24])
     have e0 : a.eval (.tmp 19) = .int .i64 (l.getD k 0) := (H.dep 3 19 (by kernel_rfl) rfl)
     have e1 : a.eval (.tmp 23) = .int .i64 (r.getD k 0) := (H.dep 7 23 (by kernel_rfl) rfl)
     simp only [execOp, resolve, e0, e1]
     go_simp
     all_goals first | rfl | (simp; done) | (rw [Bool.eq_iff_iff]; simp; done) | omega | skip
   intro act11 w11 T
   have h0_11 := (T.rest 0 (by kernel_rfl)).trans h0_10
   have h1_11 := (T.rest 1 (by kernel_rfl)).trans h1_10
   have h10_11 := (T.rest 10 (by kernel_rfl)).trans h10_10
   have h12_11 := (T.rest 12 (by kernel_rfl)).trans h12_10
   have h13_11 := (T.rest 13 (by kernel_rfl)).trans h13_10
   have h24_11 : act11.eval (.tmp 24) = .bool q24 := T.done 8 24 rfl rfl
   have d11 := T.defers.trans d10
   have s11 := T.size.trans s10
   have bl11 := bl10.trans (T.below.mono bl10.size)
   clear T
   refine Eng.tail_nil ?_
   refine wp_cond_split h24_11 (fun hq => ?_) (fun hq => ?_)
   ·
    have c24 := Bq24.symm.trans hq
    clear hq
    have hke : l.getD k 0 ≠ r.getD k 0 := by simpa using c24
    refine wp_seq ?_
    refine Eng.regionS (Eng.still [fun u_ => u_ = .bool false]) (fun _ => .plain) 1 0 26 s11 rfl (by kernel_rfl) (Eng.still_stable _) (Or.inr (Eng.still_any _)) ?_ ?_
    ·refine Eng.Steps.cons (fun _ => ?_) (Eng.Steps.nil)
     ·refine Eng.plain rfl rfl fun a w' H => ?_
      exact Eng.val (w1 := w') (v := .bool false) (Eng.run_assign rfl (rfl : a.eval (.const (.bool false)) = .bool false)) (Below.refl _ _) rfl
    intro act13 w13 T
    have h4_13 : act13.eval (.tmp 4) = .bool false := T.done 0 4 rfl rfl
    have d13 := T.defers.trans d11
    have bl13 := bl11.trans (T.below.mono bl11.size)
    clear T
    refine Eng.tail_nil ?_
    refine wp_ret ?_
    repeat (first | refine Eng.in_ret ?_ | refine Eng.then_ret ?_)
    exact Eng.ret1 rfl d13 h4_13 ⟨congrArg _ (congrArg _ (by first | exact (Nfa.eq_len hlen).symm | exact (Nfa.eq_at hke).symm | exact (Nfa.eq_all hlen (fun i hi => hsame i (by omega))).symm)), bl13⟩
   ·
    have c24 := Bq24.symm.trans hq
    clear hq
    have hke : l.getD k 0 = r.getD k 0 := by simpa using c24
    refine wp_skip ?_
    refine Eng.regionS (Eng.still [fun u_ => u_ = .int .i64 (IntKind.i64.wrap ((k : Nat) + 1)), fun u_ => u_ = .int .i64 (IntKind.i64.wrap ((k : Nat) + 1))]) (fun _ => .plain) 2 0 26 s11 rfl (by kernel_rfl) (Eng.still_stable _) (Or.inr (Eng.still_any _)) ?_ ?_
    ·refine Eng.Steps.cons (fun _ => ?_) (Eng.Steps.cons (fun _ => ?_) (Eng.Steps.nil))
     ·refine Eng.plain rfl rfl fun a w' H => ?_
      refine Eng.val (w1 := w') (v := .int .i64 (IntKind.i64.wrap ((k : Nat) + 1))) ?_ (Below.refl _ _) rfl
      have e0 := ((H.kept 13 (by kernel_rfl)).trans h13_11)
      have e1 : a.eval (.const (.int .i64 1)) = .int .i64 1 := (rfl : a.eval (.const (.int .i64 1)) = .int .i64 1)
      simp only [execOp, resolve, e0, e1]
      go_simp
     ·refine Eng.plain rfl rfl fun a w' H => ?_
      exact Eng.val (w1 := w') (v := .int .i64 (IntKind.i64.wrap ((k : Nat) + 1))) (Eng.run_move rfl (H.dep 0 25 (by kernel_rfl) rfl)) (Below.refl _ _) rfl
    intro act15 w15 T
    have h0_15 := (T.rest 0 (by kernel_rfl)).trans h0_11
    have h1_15 := (T.rest 1 (by kernel_rfl)).trans h1_11
    have h10_15 := (T.rest 10 (by kernel_rfl)).trans h10_11
    have h12_15 := (T.rest 12 (by kernel_rfl)).trans h12_11
    have h13_15 : act15.eval (.tmp 13) = .int .i64 (IntKind.i64.wrap ((k : Nat) + 1)) := T.done 1 13 rfl rfl
    have d15 := T.defers.trans d11
    have s15 := T.size.trans s11
    have bl15 := bl11.trans (T.below.mono bl11.size)
    clear T
    refine Eng.tail_nil ?_
    exact ⟨_, by omega, k + 1, rfl, by omega, Nfa.same_succ hsame hke, d15, s15, bl15, h0_15, h1_15, h10_15, h12_15, (h13_15.trans (by first | rfl | (congr 1; rw [Eng.i64_id (by omega) (by omega)]; omega) | (simp; done)))⟩
  ·
   have c14 := Bq14.symm.trans hq
   clear hq
   have c14 := of_decide_eq_false c14
   refine wp_exit ?_
   refine wp_seq ?_
   refine Eng.regionS (Eng.still [fun u_ => u_ = .bool true]) (fun _ => .plain) 1 0 26 s8 rfl (by kernel_rfl) (Eng.still_stable _) (Or.inr (Eng.still_any _)) ?_ ?_
   ·refine Eng.Steps.cons (fun _ => ?_) (Eng.Steps.nil)
    ·refine Eng.plain rfl rfl fun a w' H => ?_
     exact Eng.val (w1 := w') (v := .bool true) (Eng.run_assign rfl (rfl : a.eval (.const (.bool true)) = .bool true)) (Below.refl _ _) rfl
   intro act17 w17 T
   have h4_17 : act17.eval (.tmp 4) = .bool true := T.done 0 4 rfl rfl
   have d17 := T.defers.trans d8
   have bl17 := bl8.trans (T.below.mono bl8.size)
   clear T
   refine Eng.tail_nil ?_
   refine wp_ret ?_
   repeat (first | refine Eng.in_ret ?_ | refine Eng.then_ret ?_)
   exact Eng.ret1 rfl d17 h4_17 ⟨congrArg _ (congrArg _ (by first | exact (Nfa.eq_len hlen).symm | exact (Nfa.eq_at hke).symm | exact (Nfa.eq_all hlen (fun i hi => hsame i (by omega))).symm)), bl17⟩
end Go.Proofs.YthgafcaoibfchaaDoor.X
end
section
namespace Go.Proofs.YthgafcaoibfchaaDoor.X
open Go Go.RowKit Go.Shelf Go.Proofs
set_option linter.unusedVariables false
set_option linter.unusedSimpArgs false
theorem Nfa.two_rows {w : World} {v0 v1 : Value} {p0 p1 : List Pth.Part} (F0 : Eng.Reads w v0 p0.length 2 (Pth.cellsP p0)) (F1 : Eng.Reads w v1 p1.length 2 (Pth.cellsP p1)) : ∀ k, k < [p0, p1].length → Eng.Reads w ([v0, v1].getD k undef) ([p0, p1].getD k []).length 2 (Pth.cellsP ([p0, p1].getD k []))
  | 0, _ => F0
  | 1, _ => F1
  | k + 2, h => absurd h (by simp)
theorem Nfa.one_row {w : World} {v0 : Value} {p0 : List Pth.Part} (F0 : Eng.Reads w v0 p0.length 2 (Pth.cellsP p0)) : ∀ k, k < [p0].length → Eng.Reads w ([v0].getD k undef) ([p0].getD k []).length 2 (Pth.cellsP ([p0].getD k []))
  | 0, _ => F0
  | k + 1, h => absurd h (by simp)
set_option maxRecDepth 100000 in
theorem Nfa.run_index8 {a : Act} {w : World} {o : Oper} {l : List Int} {x : Operand} (h : l.length = 8) (hop : o.op = .index 74 x (.const (.int .i64 0))) (hx : a.eval x = .agg (List.map (Value.int .u64) l).toArray) : (execOp a.eval o).run Tryd.prog w = .ok (.value (.int .u64 (Nfa.at_ l 0))) w := by
  match l, h with
  | [a0, a1, a2, a3, a4, a5, a6, a7], _ =>
    have hc : a.eval (.const (.int .i64 0)) = .int .i64 0 := rfl
    unfold execOp; rw [hop]
    simp only [hx, hc]
    go_simp
    rfl
namespace Al
def ps1 : List (List Pth.Part) := [[(0, ⟨#[97]⟩)], [(2, ⟨#[]⟩)]]
def ps2 : List (List Pth.Part) := [[(7, ⟨#[]⟩)]]
def bs1 : List Int := [0, 2]
theorem code1 : Nfa.code ps1 = 0 := by kernel_rfl
theorem code2 : Nfa.code ps2 = 5 := by kernel_rfl
theorem many1 : Nfa.many ps1 ps1.length = 4 := by kernel_rfl
theorem begs1 : Nfa.begs ps1 ps1.length = bs1 := by kernel_rfl
theorem hsz1 : ∀ k, k < ps1.length → (ps1.getD k []).length ≤ 5864062014634
  | 0, _ => by decide
  | 1, _ => by decide
  | k + 2, h => absurd h (by simp [ps1])
theorem hsz2 : ∀ k, k < ps2.length → (ps2.getD k []).length ≤ 5864062014634
  | 0, _ => by decide
  | k + 1, h => absurd h (by simp [ps2])
theorem hst1 : ∀ k, k < ps1.length → ∀ p ∈ ps1.getD k [], p.2.size ≤ 9223372036854775807
  | 0, _, p, hp => by obtain rfl : p = _ := List.mem_singleton.1 hp; decide
  | 1, _, p, hp => by obtain rfl : p = _ := List.mem_singleton.1 hp; decide
  | k + 2, h, _, _ => absurd h (by simp [ps1])
theorem hst2 : ∀ k, k < ps2.length → ∀ p ∈ ps2.getD k [], p.2.size ≤ 9223372036854775807
  | 0, _, p, hp => by obtain rfl : p = _ := List.mem_singleton.1 hp; decide
  | k + 1, h, _, _ => absurd h (by simp [ps2])
theorem s50 : (bs1.getD 1 0 == 2) = true := by kernel_rfl
theorem s63 : (Nfa.accept ps1 bs1 (Nfa.run ps1 bs1 [⟨#[97]⟩]) == ([0, 1] : List Int)) = true := by kernel_rfl
theorem s68 : (Nfa.accept ps1 bs1 (Nfa.run ps1 bs1 [⟨#[98]⟩]) == ([1] : List Int)) = true := by kernel_rfl
theorem s73 : (Nfa.at_ (Nfa.start ps1 bs1) 0 == 13) = true := by kernel_rfl
theorem s80 : (Nfa.unionTo (Nfa.start ps1 bs1) (Nfa.start ps1 bs1) 8 == Nfa.start ps1 bs1) = true := by kernel_rfl
theorem s87 : (Nfa.at_ (Nfa.step ps1 bs1 (Nfa.start ps1 bs1) ⟨#[97]⟩) 0 == 14) = true := by kernel_rfl
end Al
end Go.Proofs.YthgafcaoibfchaaDoor.X
end
section
namespace Go.Proofs.YthgafcaoibfchaaDoor.X
open Go Go.RowKit Go.Shelf Go.Proofs
set_option linter.unusedVariables false
set_option linter.unusedSimpArgs false
namespace Nfa
theorem plain26 : Tryd.prog.plainKey 26 = true := by kernel_rfl
theorem eqItems8 (d : Nat) (w : World) (l r : List Int) (hl : l.length = 8) (hr : r.length = 8) : ∀ is : List Nat, (∀ i ∈ is, i < 8) → (Op.eqItems (d + 1) 26 1 (List.map (Value.int .u64) l).toArray (List.map (Value.int .u64) r).toArray is).run Tryd.prog w = .ok (is.all fun i => l.getD i 0 == r.getD i 0) w
  | [], _ => by simp [Op.eqItems]
  | i :: is, h => by
    have hi : i < 8 := h i List.mem_cons_self
    have hp : ∀ q : List Int, q.length = 8 → (part 26 (List.map (Value.int .u64) q).toArray (i * 1)).run Tryd.prog w = .ok (.int .u64 (q.getD i 0)) w := fun q hq =>
      run_part_plain w plain26 (by rw [Nat.mul_one]; simp [List.getD_eq_getElem?_getD, List.getElem?_eq_getElem (show i < q.length by omega)])
    have he := run_equalIn_int (P := Tryd.prog) w d 26 .u64 .u64 (l.getD i 0) (r.getD i 0) Tryd.underlying26
    have ih := eqItems8 d w l r hl hr is fun j hj => h j (List.mem_cons_of_mem _ hj)
    simp only [Op.eqItems, Sem.run_bind, hp l hl, hp r hr, he, Result.andThen_ok, List.all_cons]
    cases hc : (l.getD i 0 == r.getD i 0)
    · simp
    · simp [ih]
theorem all8 (l r : List Int) (hl : l.length = 8) (hr : r.length = 8) : ((List.range 8).all fun i => l.getD i 0 == r.getD i 0) = (l == r) := by
  rw [Bool.eq_iff_iff, beq_iff_eq, List.all_eq_true]
  constructor
  · intro h
    refine List.ext_getElem (by omega) fun i h1 h2 => ?_
    have := h i (List.mem_range.2 (by omega))
    rw [beq_iff_eq, List.getD_eq_getElem?_getD, List.getD_eq_getElem?_getD, List.getElem?_eq_getElem h1, List.getElem?_eq_getElem h2] at this
    exact this
  · rintro rfl i _
    exact beq_self_eq_true _
set_option maxRecDepth 100000 in
theorem run_eq8 {a : Act} {w : World} {o : Oper} {l r : List Int} {x y : Operand} (hop : o.op = .binOp .eql 74 x y 74) (hl : l.length = 8) (hr : r.length = 8) (hx : a.eval x = .agg (List.map (Value.int .u64) l).toArray) (hy : a.eval y = .agg (List.map (Value.int .u64) r).toArray) : (execOp a.eval o).run Tryd.prog w = .ok (.value (.bool (l == r))) w := by
  have hg : (eqGuard .eql 74 x y (.agg (List.map (Value.int .u64) l).toArray) (.agg (List.map (Value.int .u64) r).toArray)).run Tryd.prog w = .ok () w := by
    have h0 : Tryd.prog.eqGuardType Tryd.prog.depth 74 = false := by kernel_rfl
    unfold eqGuard
    simp [Sem.run_bind, Sem.run_pure, h0]
  obtain ⟨i, hi, hz⟩ : ∃ i, Tryd.prog.info? 26 = some i ∧ i.size = 1 := by
    have h0 : (Tryd.prog.info? 26).map (·.size) = some 1 := by kernel_rfl
    cases hq : Tryd.prog.info? 26 with
    | none => simp [hq] at h0
    | some i => exact ⟨i, rfl, by simpa [hq] using h0⟩
  have hc : Tryd.prog.cellsOf 26 = 1 := by kernel_rfl
  have he : (Op.equal 74 (.agg (List.map (Value.int .u64) l).toArray) (.agg (List.map (Value.int .u64) r).toArray)).run Tryd.prog w = .ok (l == r) w := by
    have h1 := run_equalIn_array (P := Tryd.prog) w 9999 (List.map (Value.int .u64) l).toArray (List.map (Value.int .u64) r).toArray Tryd.underlying74 hi
    rw [hc] at h1
    have h2 := eqItems8 9998 w l r hl hr (List.range 8) fun i h => List.mem_range.1 h
    rw [all8 l r hl hr] at h2
    exact h1.trans h2
  unfold execOp; rw [hop]
  simp only [hx, hy, Sem.run_bind, hg, Result.andThen_ok, binOp, he]
  rfl
end Nfa
end Go.Proofs.YthgafcaoibfchaaDoor.X
end
