/- Words and walks that the row of NfaRuns needs: printed by programs, and plain laws. -/
import Derived.Test.YthgafcaoibfchaaDoorM14
import Derived.Test.YthgafcaoibfchaaDoorM13
namespace Go.Proofs.YthgafcaoibfchaaDoorW.PrintWords
end Go.Proofs.YthgafcaoibfchaaDoorW.PrintWords
namespace Go.Proofs.YthgafcaoibfchaaDoorW.PrintLast
end Go.Proofs.YthgafcaoibfchaaDoorW.PrintLast
namespace Go.Proofs.YthgafcaoibfchaaDoorW.PrintMore
end Go.Proofs.YthgafcaoibfchaaDoorW.PrintMore
section
namespace Go.Proofs.YthgafcaoibfchaaDoor.X
open Go.RowKit Go.Shelf Go.Proofs Go.Proofs.YthgafcaoibfchaaDoorW.PrintWords Go.Proofs.YthgafcaoibfchaaDoorW.PrintLast Go.Proofs.YthgafcaoibfchaaDoorW.PrintMore
set_option linter.unusedVariables false
set_option linter.unusedSimpArgs false
set_option maxHeartbeats 4000000 in
set_option maxRecDepth 100000 in
theorem Nfa.with_calls (l : List Int) (m : Int) (w : World) (hg : Nfa.Good l) (h0 : 0 ≤ m) (h1 : m < 512) : Calls Tryd.prog 113 #[.agg ((List.map (Value.int .u64) l).toArray), .int .i64 m] w fun e w' => e = .returned (.agg (List.map (Value.int .u64) (Nfa.put l m)).toArray) ∧ Below w.heap.size w w' := by
 obtain ⟨N64, hN⟩ : ∃ k : Nat, m.toNat / 64 = k := ⟨_, rfl⟩
 obtain ⟨Nr, hR⟩ : ∃ k : Nat, m.toNat % 64 = k := ⟨_, rfl⟩
 have hq64 : 0 ≤ m → m < 512 → IntKind.i64.wrap (m.tdiv 64) = (N64 : Int) := fun h0 h1 => by rw [← hN]; exact Nfa.quo64 h0 h1
 have hr64 : 0 ≤ m → m.tmod 64 = (Nr : Int) := fun h0 => by rw [← hR]; exact Nfa.rem64 h0
 have hN8 : m < 512 → N64 < 8 := by omega
 have hNr : Nr < 64 := by omega
 have hN8' := hN8 h1
 refine Eng.enter Tryd.func113 rfl fun act0 d0 s0 v0 => ?_
 have s0 : act0.tmps.size = 29 := s0
 have h0_0 : act0.eval (.tmp 0) = .agg ((List.map (Value.int .u64) l).toArray) := v0 0 (by simp)
 have h1_0 : act0.eval (.tmp 1) = .int .i64 m := v0 1 (by simp)
 clear v0
 have bl0 : Below w.heap.size w w := Below.refl _ _
 refine wp_seq ?_
 refine Eng.regionS (Eng.still [fun u_ => True, fun u_ => True]) (fun i => ([.alloc 61 ((List.map (Value.int .u64) l).toArray), .alloc 61 ((List.map (Value.int .u64) (List.replicate 8 0)).toArray)] : List Eng.Kind).getD i .plain) 2 0 29 s0 rfl (by kernel_rfl) (Eng.still_stable _) (Or.inr (Eng.still_any _)) ?_ ?_
 ·refine Eng.Steps.cons (fun _ => ?_) (Eng.Steps.cons (fun _ => ?_) (Eng.Steps.nil))
  ·refine Eng.made rfl (by simp) rfl (fun a w' hd ho => ?_) (fun _ _ => trivial)
   exact Eng.run_box rfl ((ho 0 (by kernel_rfl)).trans h0_0)
  ·refine Eng.made rfl (by simp) rfl (fun a w' hd ho => ?_) (fun _ _ => trivial)
   exact Eng.run_alloc rfl (by kernel_rfl)
 intro act1 w1 T
 have h0_1 := (T.rest 0 (by kernel_rfl)).trans h0_0
 have h1_1 := (T.rest 1 (by kernel_rfl)).trans h1_0
 obtain ⟨g2_1, h2_1, rg2_1, lg2_1_1, kg2_1_1⟩ := T.al 0 2 _ _ rfl rfl rfl (by kernel_rfl)
 have og2_1 : w.heap.size ≤ g2_1 := Nat.le_trans bl0.size rg2_1
 obtain ⟨g4_1, h4_1, rg4_1, lg4_1_1, kg4_1_1⟩ := T.al 1 4 _ _ rfl rfl rfl (by kernel_rfl)
 have og4_1 : w.heap.size ≤ g4_1 := Nat.le_trans bl0.size rg4_1
 have ne_g4_1_g2_1 : g2_1 ≠ g4_1 := T.ne 0 1 2 4 rfl rfl rfl rfl rfl rfl h2_1 h4_1 rfl
 have d1 := T.defers.trans d0
 have s1 := T.size.trans s0
 have bl1 := bl0.trans (T.below.mono bl0.size)
 clear T
 refine Eng.tail_nil ?_
 refine wp_seq ?_
 refine wp_seq ?_
 obtain ⟨q9, Bq9⟩ : ∃ b : Bool, b = (Nfa.has l m) := ⟨_, rfl⟩
 refine Eng.regionS (Eng.still [fun u_ => u_ = .agg ((List.map (Value.int .u64) l).toArray), fun u_ => u_ = .int .i64 m, fun u_ => u_ = .bool q9]) (fun _ => .plain) 3 0 29 s1 rfl (by kernel_rfl) (Eng.still_stable _) (Or.inr (Eng.still_any _)) ?_ ?_
 ·refine Eng.Steps.cons (fun _ => ?_) (Eng.Steps.cons (fun _ => ?_) (Eng.Steps.cons (fun _ => ?_) (Eng.Steps.nil)))
  ·refine Eng.plain rfl rfl fun a w' H => ?_
   have kb := (H.below.block _ lg2_1_1).trans kg2_1_1
   refine Eng.val (w1 := w') (v := .agg ((List.map (Value.int .u64) l).toArray)) ?_ (Below.refl _ _) rfl
   exact Eng.run_load_all rfl ((H.kept 2 (by kernel_rfl)).trans h2_1) kb Tryd.underlying61 rfl (by rw [Nfa.cells_size ((hg).len)]; kernel_rfl)
  ·refine Eng.plain rfl rfl fun a w' H => ?_
   exact Eng.val (w1 := w') (v := .int .i64 m) (Eng.run_move rfl ((H.kept 1 (by kernel_rfl)).trans h1_1)) (Below.refl _ _) rfl
  ·refine Eng.plain rfl rfl fun a w' H => ?_
   refine Eng.call Tryd.func115 (by kernel_rfl) (by kernel_rfl) rfl #[.agg ((List.map (Value.int .u64) l).toArray), .int .i64 m] ?_ ?_
   ·have e0 : a.eval (.tmp 7) = .agg ((List.map (Value.int .u64) l).toArray) := (H.dep 0 7 (by kernel_rfl) rfl); have e1 : a.eval (.tmp 8) = .int .i64 m := (H.dep 1 8 (by kernel_rfl) rfl); simp only [List.map_toArray, List.map_cons, List.map_nil, e0, e1]
   refine (Nfa.rhas_calls l m _ (hg)).mono ?_
   rintro e w'' ⟨rfl, hb⟩
   exact ⟨_, rfl, (by show _ = Value.bool q9; rw [Bq9]), hb⟩
 intro act2 w2 T
 have h0_2 := (T.rest 0 (by kernel_rfl)).trans h0_1
 have h1_2 := (T.rest 1 (by kernel_rfl)).trans h1_1
 have h2_2 := (T.rest 2 (by kernel_rfl)).trans h2_1
 have h4_2 := (T.rest 4 (by kernel_rfl)).trans h4_1
 have kg2_1_2 := (T.below.block _ lg2_1_1).trans kg2_1_1
 have lg2_1_2 := Nat.lt_of_lt_of_le lg2_1_1 T.below.size
 have kg4_1_2 := (T.below.block _ lg4_1_1).trans kg4_1_1
 have lg4_1_2 := Nat.lt_of_lt_of_le lg4_1_1 T.below.size
 have h9_2 : act2.eval (.tmp 9) = .bool q9 := T.done 2 9 rfl rfl
 have d2 := T.defers.trans d1
 have s2 := T.size.trans s1
 have bl2 := bl1.trans (T.below.mono bl1.size)
 clear T
 refine Eng.tail_nil ?_
 refine wp_cond_split h9_2 (fun hq => ?_) (fun hq => ?_)
 ·
  have c9 := Bq9.symm.trans hq
  clear hq
  have hyes := c9
  refine wp_seq ?_
  refine Eng.regionS (Eng.still [fun u_ => u_ = .agg ((List.map (Value.int .u64) l).toArray)]) (fun _ => .plain) 1 1 29 s2 rfl (by kernel_rfl) (Eng.still_stable _) (Or.inr (Eng.still_any _)) ?_ ?_
  ·refine Eng.Steps.cons (fun _ => ?_) (Eng.Steps.cons (fun hlt => ?_) (Eng.Steps.nil))
   ·refine Eng.plain rfl rfl fun a w' H => ?_
    have kb := (H.below.block _ lg2_1_2).trans kg2_1_2
    refine Eng.val (w1 := w') (v := .agg ((List.map (Value.int .u64) l).toArray)) ?_ (Below.refl _ _) rfl
    exact Eng.run_load_all rfl ((H.kept 2 (by kernel_rfl)).trans h2_2) kb Tryd.underlying61 rfl (by rw [Nfa.cells_size ((hg).len)]; kernel_rfl)
   ·exact absurd hlt (by decide)
  intro act4 w4 T
  have h4_4 := (T.rest 4 (by kernel_rfl)).trans h4_2
  have kg4_1_4 := (T.below.block _ lg4_1_2).trans kg4_1_2
  have h10_4 : act4.eval (.tmp 10) = .agg ((List.map (Value.int .u64) l).toArray) := T.done 0 10 rfl rfl
  have d4 := T.defers.trans d2
  have bl4 := bl2.trans (T.below.mono bl2.size)
  clear T
  refine Eng.tail_arr rfl rfl rfl rfl h4_4 h10_4 kg4_1_4 (by rw [Nfa.cells_size ((hg).len)]; kernel_rfl) ((Nfa.cells_size ((Nfa.good0).len)).trans (Nfa.cells_size ((hg).len)).symm) (by first | exact Nfa.ones_u _ | simp [Value.oneCell']) fun w5 S => ?_
  have kg4_1_5 := S.new
  have bl5 := S.below bl4 og4_1
  clear S
  refine Eng.tail_nil ?_
  refine wp_ret ?_
  repeat (first | refine Eng.in_ret ?_ | refine Eng.then_ret ?_)
  have kk : w5.heap[g4_1]? = some (.cells (List.map (Value.int .u64) (Nfa.put l m)).toArray 61 (0, 0)) := (kg4_1_5.trans (by rw [Nfa.put_had hg h0 h1 hyes]))
  exact Eng.retc rfl d4 h4_4 kk Tryd.underlying61 rfl (by rw [Nfa.cells_size (Nfa.good_put hg m).len]; kernel_rfl) ⟨rfl, bl5⟩
 ·
  have c9 := Bq9.symm.trans hq
  clear hq
  have hno := c9
  refine wp_skip ?_
  refine wp_seq ?_
  refine Eng.regionS (Eng.still [fun u_ => u_ = .int .u64 1]) (fun _ => .plain) 1 0 29 s2 rfl (by kernel_rfl) (Eng.still_stable _) (Or.inr (Eng.still_any _)) ?_ ?_
  ·refine Eng.Steps.cons (fun _ => ?_) (Eng.Steps.nil)
   ·refine Eng.plain rfl rfl fun a w' H => ?_
    exact Eng.val (w1 := w') (v := .int .u64 1) (Eng.run_assign rfl (rfl : a.eval (.const (.int .u64 1)) = .int .u64 1)) (Below.refl _ _) rfl
  intro act7 w7 T
  have h0_7 := (T.rest 0 (by kernel_rfl)).trans h0_2
  have h1_7 := (T.rest 1 (by kernel_rfl)).trans h1_2
  have h2_7 := (T.rest 2 (by kernel_rfl)).trans h2_2
  have h4_7 := (T.rest 4 (by kernel_rfl)).trans h4_2
  have h9_7 := (T.rest 9 (by kernel_rfl)).trans h9_2
  have kg2_1_7 := (T.below.block _ lg2_1_2).trans kg2_1_2
  have lg2_1_7 := Nat.lt_of_lt_of_le lg2_1_2 T.below.size
  have kg4_1_7 := (T.below.block _ lg4_1_2).trans kg4_1_2
  have lg4_1_7 := Nat.lt_of_lt_of_le lg4_1_2 T.below.size
  have h5_7 : act7.eval (.tmp 5) = .int .u64 1 := T.done 0 5 rfl rfl
  have d7 := T.defers.trans d2
  have s7 := T.size.trans s2
  have bl7 := bl2.trans (T.below.mono bl2.size)
  clear T
  refine Eng.tail_nil ?_
  refine wp_seq ?_
  refine wp_seq ?_
  refine Eng.regionS (Eng.still [fun u_ => u_ = .int .i64 0]) (fun _ => .plain) 1 0 29 s7 rfl (by kernel_rfl) (Eng.still_stable _) (Or.inr (Eng.still_any _)) ?_ ?_
  ·refine Eng.Steps.cons (fun _ => ?_) (Eng.Steps.nil)
   ·refine Eng.plain rfl rfl fun a w' H => ?_
    exact Eng.val (w1 := w') (v := .int .i64 0) (Eng.run_assign rfl (rfl : a.eval (.const (.int .i64 0)) = .int .i64 0)) (Below.refl _ _) rfl
  intro act8 w8 T
  have h0_8 := (T.rest 0 (by kernel_rfl)).trans h0_7
  have h1_8 := (T.rest 1 (by kernel_rfl)).trans h1_7
  have h2_8 := (T.rest 2 (by kernel_rfl)).trans h2_7
  have h4_8 := (T.rest 4 (by kernel_rfl)).trans h4_7
  have h5_8 := (T.rest 5 (by kernel_rfl)).trans h5_7
  have h9_8 := (T.rest 9 (by kernel_rfl)).trans h9_7
  have kg2_1_8 := (T.below.block _ lg2_1_7).trans kg2_1_7
  have lg2_1_8 := Nat.lt_of_lt_of_le lg2_1_7 T.below.size
  have kg4_1_8 := (T.below.block _ lg4_1_7).trans kg4_1_7
  have lg4_1_8 := Nat.lt_of_lt_of_le lg4_1_7 T.below.size
  have h6_8 : act8.eval (.tmp 6) = .int .i64 0 := T.done 0 6 rfl rfl
  have d8 := T.defers.trans d7
  have s8 := T.size.trans s7
  have bl8 := bl7.trans (T.below.mono bl7.size)
  clear T
  refine Eng.tail_nil ?_
  refine wp_block ?_
  refine Eng.loopN (fun n a w' => ∃ (i : Nat) (p : Nat), Nr - i = n ∧ (i ≤ Nr) ∧ (2 ^ i % 18446744073709551616 = p) ∧ a.defers = [] ∧ a.tmps.size = 29 ∧ Below w.heap.size w w' ∧ a.eval (.tmp 0) = .agg ((List.map (Value.int .u64) l).toArray) ∧ a.eval (.tmp 1) = .int .i64 m ∧ a.eval (.tmp 2) = .pointer (some ⟨g2_1, 0, none⟩) ∧ a.eval (.tmp 4) = .pointer (some ⟨g4_1, 0, none⟩) ∧ a.eval (.tmp 5) = .int .u64 (p : Int) ∧ a.eval (.tmp 6) = .int .i64 (i : Nat) ∧ a.eval (.tmp 9) = .bool q9 ∧ w'.heap[g2_1]? = some (.cells ((List.map (Value.int .u64) l).toArray) 61 (0, 0)) ∧ g2_1 < w'.heap.size ∧ w'.heap[g4_1]? = some (.cells ((List.map (Value.int .u64) (List.replicate 8 0)).toArray) 61 (0, 0)) ∧ g4_1 < w'.heap.size) (n0 := Nr - 0) ?_ ?_
  ·exact ⟨0, 1, rfl, by omega, rfl, d8, s8, bl8, h0_8, h1_8, h2_8, h4_8, (h5_8.trans (by first | rfl | (congr 1; rw [Eng.i64_id (by omega) (by omega)]; omega) | (congr 1; exact Nfa.mul2 _) | (simp; done))), (h6_8.trans (by first | rfl | (congr 1; rw [Eng.i64_id (by omega) (by omega)]; omega) | (congr 1; exact Nfa.mul2 _) | (simp; done))), h9_8, kg2_1_8, lg2_1_8, kg4_1_8, lg4_1_8⟩
  rintro n act9 w9 ⟨i, p, rfl, hc0_9, hc1_9, d9, s9, bl9, h0_9, h1_9, h2_9, h4_9, h5_9, h6_9, h9_9, kg2_1_9, lg2_1_9, kg4_1_9, lg4_1_9⟩
  have hi1 := hc0_9
  have hpw := hc1_9
  refine wp_seq ?_
  refine wp_seq ?_
  obtain ⟨q14, Bq14⟩ : ∃ b : Bool, b = (decide ((i : Nat) < (Nr : Int))) := ⟨_, rfl⟩
  refine Eng.regionS (Eng.still [fun u_ => u_ = .int .i64 (i : Nat), fun u_ => u_ = .int .i64 m, fun u_ => u_ = .int .i64 (Nr : Int), fun u_ => u_ = .bool q14]) (fun _ => .plain) 4 0 29 s9 rfl (by kernel_rfl) (Eng.still_stable _) (Or.inr (Eng.still_any _)) ?_ ?_
  ·refine Eng.Steps.cons (fun _ => ?_) (Eng.Steps.cons (fun _ => ?_) (Eng.Steps.cons (fun _ => ?_) (Eng.Steps.cons (fun _ => ?_) (Eng.Steps.nil))))
   ·refine Eng.plain rfl rfl fun a w' H => ?_
    exact Eng.val (w1 := w') (v := .int .i64 (i : Nat)) (Eng.run_move rfl ((H.kept 6 (by kernel_rfl)).trans h6_9)) (Below.refl _ _) rfl
   ·refine Eng.plain rfl rfl fun a w' H => ?_
    exact Eng.val (w1 := w') (v := .int .i64 m) (Eng.run_move rfl ((H.kept 1 (by kernel_rfl)).trans h1_9)) (Below.refl _ _) rfl
   ·refine Eng.plain rfl rfl fun a w' H => ?_
    refine Eng.val (w1 := w') (v := .int .i64 (Nr : Int)) ?_ (Below.refl _ _) rfl
    have e0 : a.eval (.tmp 12) = .int .i64 m := (H.dep 1 12 (by kernel_rfl) rfl)
    have e1 : a.eval (.const (.int .i64 64)) = .int .i64 64 := (rfl : a.eval (.const (.int .i64 64)) = .int .i64 64)
    simp only [execOp, resolve, e0, e1]
    go_simp
    all_goals first | rfl | (exact hr64 h0) | (rw [hr64 h0]; done) | skip
   ·refine Eng.plain rfl rfl fun a w' H => ?_
    refine Eng.val (w1 := w') (v := .bool (decide ((i : Nat) < (Nr : Int)))) ?_ (Below.refl _ _) (by show _ = Value.bool q14; rw [Bq14])
    have e0 : a.eval (.tmp 11) = .int .i64 (i : Nat) := (H.dep 0 11 (by kernel_rfl) rfl)
    have e1 : a.eval (.tmp 13) = .int .i64 (Nr : Int) := (H.dep 2 13 (by kernel_rfl) rfl)
    simp only [execOp, resolve, e0, e1]
    go_simp
  intro act10 w10 T
  have h0_10 := (T.rest 0 (by kernel_rfl)).trans h0_9
  have h1_10 := (T.rest 1 (by kernel_rfl)).trans h1_9
  have h2_10 := (T.rest 2 (by kernel_rfl)).trans h2_9
  have h4_10 := (T.rest 4 (by kernel_rfl)).trans h4_9
  have h5_10 := (T.rest 5 (by kernel_rfl)).trans h5_9
  have h6_10 := (T.rest 6 (by kernel_rfl)).trans h6_9
  have h9_10 := (T.rest 9 (by kernel_rfl)).trans h9_9
  have kg2_1_10 := (T.below.block _ lg2_1_9).trans kg2_1_9
  have lg2_1_10 := Nat.lt_of_lt_of_le lg2_1_9 T.below.size
  have kg4_1_10 := (T.below.block _ lg4_1_9).trans kg4_1_9
  have lg4_1_10 := Nat.lt_of_lt_of_le lg4_1_9 T.below.size
  have h14_10 : act10.eval (.tmp 14) = .bool q14 := T.done 3 14 rfl rfl
  have d10 := T.defers.trans d9
  have s10 := T.size.trans s9
  have bl10 := bl9.trans (T.below.mono bl9.size)
  clear T
  refine Eng.tail_nil ?_
  refine wp_cond_split h14_10 (fun hq => ?_) (fun hq => ?_)
  ·
   have c14 := Bq14.symm.trans hq
   clear hq
   have c14 := of_decide_eq_true c14
   refine wp_skip ?_
   refine wp_seq ?_
   refine wp_block ?_
   refine Eng.regionS (Eng.still [fun u_ => u_ = .int .u64 (p : Int), fun u_ => u_ = .int .u64 (IntKind.u64.wrap ((p : Int) * 2)), fun u_ => u_ = .int .u64 (IntKind.u64.wrap ((p : Int) * 2))]) (fun _ => .plain) 3 0 29 s10 rfl (by kernel_rfl) (Eng.still_stable _) (Or.inr (Eng.still_any _)) ?_ ?_
   ·refine Eng.Steps.cons (fun _ => ?_) (Eng.Steps.cons (fun _ => ?_) (Eng.Steps.cons (fun _ => ?_) (Eng.Steps.nil)))
    ·refine Eng.plain rfl rfl fun a w' H => ?_
     exact Eng.val (w1 := w') (v := .int .u64 (p : Int)) (Eng.run_move rfl ((H.kept 5 (by kernel_rfl)).trans h5_10)) (Below.refl _ _) rfl
    ·refine Eng.plain rfl rfl fun a w' H => ?_
     refine Eng.val (w1 := w') (v := .int .u64 (IntKind.u64.wrap ((p : Int) * 2))) ?_ (Below.refl _ _) rfl
     have e0 : a.eval (.tmp 17) = .int .u64 (p : Int) := (H.dep 0 17 (by kernel_rfl) rfl)
     have e1 : a.eval (.const (.int .u64 2)) = .int .u64 2 := (rfl : a.eval (.const (.int .u64 2)) = .int .u64 2)
     simp only [execOp, resolve, e0, e1]
     go_simp
    ·refine Eng.plain rfl rfl fun a w' H => ?_
     exact Eng.val (w1 := w') (v := .int .u64 (IntKind.u64.wrap ((p : Int) * 2))) (Eng.run_assign rfl (H.dep 1 18 (by kernel_rfl) rfl)) (Below.refl _ _) rfl
   intro act12 w12 T
   have h0_12 := (T.rest 0 (by kernel_rfl)).trans h0_10
   have h1_12 := (T.rest 1 (by kernel_rfl)).trans h1_10
   have h2_12 := (T.rest 2 (by kernel_rfl)).trans h2_10
   have h4_12 := (T.rest 4 (by kernel_rfl)).trans h4_10
   have h6_12 := (T.rest 6 (by kernel_rfl)).trans h6_10
   have h9_12 := (T.rest 9 (by kernel_rfl)).trans h9_10
   have kg2_1_12 := (T.below.block _ lg2_1_10).trans kg2_1_10
   have lg2_1_12 := Nat.lt_of_lt_of_le lg2_1_10 T.below.size
   have kg4_1_12 := (T.below.block _ lg4_1_10).trans kg4_1_10
   have lg4_1_12 := Nat.lt_of_lt_of_le lg4_1_10 T.below.size
   have h5_12 : act12.eval (.tmp 5) = .int .u64 (IntKind.u64.wrap ((p : Int) * 2)) := T.done 2 5 rfl rfl
   have d12 := T.defers.trans d10
   have s12 := T.size.trans s10
   have bl12 := bl10.trans (T.below.mono bl10.size)
   clear T
   refine Eng.tail_nil ?_
   refine Eng.regionS (Eng.still [fun u_ => u_ = .int .i64 (i : Nat), fun u_ => u_ = .int .i64 (IntKind.i64.wrap ((i : Nat) + 1)), fun u_ => u_ = .int .i64 (IntKind.i64.wrap ((i : Nat) + 1))]) (fun _ => .plain) 3 0 29 s12 rfl (by kernel_rfl) (Eng.still_stable _) (Or.inr (Eng.still_any _)) ?_ ?_
   ·refine Eng.Steps.cons (fun _ => ?_) (Eng.Steps.cons (fun _ => ?_) (Eng.Steps.cons (fun _ => ?_) (Eng.Steps.nil)))
    ·refine Eng.plain rfl rfl fun a w' H => ?_
     exact Eng.val (w1 := w') (v := .int .i64 (i : Nat)) (Eng.run_move rfl ((H.kept 6 (by kernel_rfl)).trans h6_12)) (Below.refl _ _) rfl
    ·refine Eng.plain rfl rfl fun a w' H => ?_
     refine Eng.val (w1 := w') (v := .int .i64 (IntKind.i64.wrap ((i : Nat) + 1))) ?_ (Below.refl _ _) rfl
     have e0 : a.eval (.tmp 15) = .int .i64 (i : Nat) := (H.dep 0 15 (by kernel_rfl) rfl)
     have e1 : a.eval (.const (.int .i64 1)) = .int .i64 1 := (rfl : a.eval (.const (.int .i64 1)) = .int .i64 1)
     simp only [execOp, resolve, e0, e1]
     go_simp
    ·refine Eng.plain rfl rfl fun a w' H => ?_
     exact Eng.val (w1 := w') (v := .int .i64 (IntKind.i64.wrap ((i : Nat) + 1))) (Eng.run_assign rfl (H.dep 1 16 (by kernel_rfl) rfl)) (Below.refl _ _) rfl
   intro act13 w13 T
   have h0_13 := (T.rest 0 (by kernel_rfl)).trans h0_12
   have h1_13 := (T.rest 1 (by kernel_rfl)).trans h1_12
   have h2_13 := (T.rest 2 (by kernel_rfl)).trans h2_12
   have h4_13 := (T.rest 4 (by kernel_rfl)).trans h4_12
   have h5_13 := (T.rest 5 (by kernel_rfl)).trans h5_12
   have h9_13 := (T.rest 9 (by kernel_rfl)).trans h9_12
   have kg2_1_13 := (T.below.block _ lg2_1_12).trans kg2_1_12
   have lg2_1_13 := Nat.lt_of_lt_of_le lg2_1_12 T.below.size
   have kg4_1_13 := (T.below.block _ lg4_1_12).trans kg4_1_12
   have lg4_1_13 := Nat.lt_of_lt_of_le lg4_1_12 T.below.size
   have h6_13 : act13.eval (.tmp 6) = .int .i64 (IntKind.i64.wrap ((i : Nat) + 1)) := T.done 2 6 rfl rfl
   have d13 := T.defers.trans d12
   have s13 := T.size.trans s12
   have bl13 := bl12.trans (T.below.mono bl12.size)
   clear T
   refine Eng.tail_nil ?_
   exact ⟨_, by omega, i + 1, p * 2 % 18446744073709551616, rfl, by omega, (Nfa.pow_next hpw.symm).symm, d13, s13, bl13, h0_13, h1_13, h2_13, h4_13, (h5_13.trans (by first | rfl | (congr 1; rw [Eng.i64_id (by omega) (by omega)]; omega) | (congr 1; exact Nfa.mul2 _) | (simp; done))), (h6_13.trans (by first | rfl | (congr 1; rw [Eng.i64_id (by omega) (by omega)]; omega) | (congr 1; exact Nfa.mul2 _) | (simp; done))), h9_13, kg2_1_13, lg2_1_13, kg4_1_13, lg4_1_13⟩
  ·
   have c14 := Bq14.symm.trans hq
   clear hq
   have c14 := of_decide_eq_false c14
   obtain rfl : i = Nr := by omega
   refine wp_exit ?_
   refine wp_seq ?_
   refine Eng.regionS (Eng.still [fun u_ => u_ = .int .i64 m, fun u_ => u_ = .int .i64 (N64 : Int), fun u_ => u_ = .int .i64 m, fun u_ => u_ = .int .i64 (N64 : Int), fun u_ => u_ = .pointer (some ⟨g2_1, N64, none⟩), fun u_ => u_ = .int .u64 (Nfa.at_ l (N64)), fun u_ => u_ = .int .u64 (p : Int), fun u_ => u_ = .int .u64 (IntKind.u64.wrap ((Nfa.at_ l (N64)) + (p : Int))), fun u_ => u_ = .pointer (some ⟨g2_1, N64, none⟩)]) (fun _ => .plain) 9 1 29 s10 rfl (by kernel_rfl) (Eng.still_stable _) (Or.inr (Eng.still_any _)) ?_ ?_
   ·refine Eng.Steps.cons (fun _ => ?_) (Eng.Steps.cons (fun _ => ?_) (Eng.Steps.cons (fun _ => ?_) (Eng.Steps.cons (fun _ => ?_) (Eng.Steps.cons (fun _ => ?_) (Eng.Steps.cons (fun _ => ?_) (Eng.Steps.cons (fun _ => ?_) (Eng.Steps.cons (fun _ => ?_) (Eng.Steps.cons (fun _ => ?_) (Eng.Steps.cons (fun hlt => ?_) (Eng.Steps.nil))))))))))
    ·refine Eng.plain rfl rfl fun a w' H => ?_
     exact Eng.val (w1 := w') (v := .int .i64 m) (Eng.run_move rfl ((H.kept 1 (by kernel_rfl)).trans h1_10)) (Below.refl _ _) rfl
    ·refine Eng.plain rfl rfl fun a w' H => ?_
     refine Eng.val (w1 := w') (v := .int .i64 (N64 : Int)) ?_ (Below.refl _ _) rfl
     have e0 : a.eval (.tmp 19) = .int .i64 m := (H.dep 0 19 (by kernel_rfl) rfl)
     have e1 : a.eval (.const (.int .i64 64)) = .int .i64 64 := (rfl : a.eval (.const (.int .i64 64)) = .int .i64 64)
     simp only [execOp, resolve, e0, e1]
     go_simp
     all_goals first | rfl | (exact hq64 h0 h1) | (rw [hq64 h0 h1]; done) | skip
    ·refine Eng.plain rfl rfl fun a w' H => ?_
     exact Eng.val (w1 := w') (v := .int .i64 m) (Eng.run_move rfl ((H.kept 1 (by kernel_rfl)).trans h1_10)) (Below.refl _ _) rfl
    ·refine Eng.plain rfl rfl fun a w' H => ?_
     refine Eng.val (w1 := w') (v := .int .i64 (N64 : Int)) ?_ (Below.refl _ _) rfl
     have e0 : a.eval (.tmp 21) = .int .i64 m := (H.dep 2 21 (by kernel_rfl) rfl)
     have e1 : a.eval (.const (.int .i64 64)) = .int .i64 64 := (rfl : a.eval (.const (.int .i64 64)) = .int .i64 64)
     simp only [execOp, resolve, e0, e1]
     go_simp
     all_goals first | rfl | (exact hq64 h0 h1) | (rw [hq64 h0 h1]; done) | skip
    ·refine Eng.plain rfl rfl fun a w' H => ?_
     refine Eng.val (w1 := w') (v := .pointer (some ⟨g2_1, N64, none⟩)) ?_ (Below.refl _ _) rfl
     exact Eng.run_indexAddr rfl Tryd.underlying61 (by kernel_rfl) ((H.kept 2 (by kernel_rfl)).trans h2_10) ((H.dep 3 22 (by kernel_rfl) rfl).trans (congrArg (Value.int _) (show (N64 : Int) = ((N64 : Nat) : Int) from by first | rfl | omega))) (by decide) (by first | rfl | omega)
    ·refine Eng.plain rfl rfl fun a w' H => ?_
     have kb := (H.below.block _ lg2_1_10).trans kg2_1_10
     have z0 : w'.cell? ⟨g2_1, N64, none⟩ = some (.int .u64 (Nfa.at_ l (N64))) := (Eng.cells kb (N64)).trans (Nfa.cell_at ((hg).len) (by omega))
     refine Eng.val (w1 := w') (v := .int .u64 (Nfa.at_ l (N64))) ?_ (Below.refl _ _) rfl
     have e0 : a.eval (.tmp 23) = .pointer (some ⟨g2_1, N64, none⟩) := (H.dep 4 23 (by kernel_rfl) rfl)
     simp only [execOp, resolve, e0]
     go_simp
    ·refine Eng.plain rfl rfl fun a w' H => ?_
     exact Eng.val (w1 := w') (v := .int .u64 (p : Int)) (Eng.run_move rfl ((H.kept 5 (by kernel_rfl)).trans h5_10)) (Below.refl _ _) rfl
    ·refine Eng.plain rfl rfl fun a w' H => ?_
     refine Eng.val (w1 := w') (v := .int .u64 (IntKind.u64.wrap ((Nfa.at_ l (N64)) + (p : Int)))) ?_ (Below.refl _ _) rfl
     have e0 : a.eval (.tmp 24) = .int .u64 (Nfa.at_ l (N64)) := (H.dep 5 24 (by kernel_rfl) rfl)
     have e1 : a.eval (.tmp 25) = .int .u64 (p : Int) := (H.dep 6 25 (by kernel_rfl) rfl)
     simp only [execOp, resolve, e0, e1]
     go_simp
    ·refine Eng.plain rfl rfl fun a w' H => ?_
     refine Eng.val (w1 := w') (v := .pointer (some ⟨g2_1, N64, none⟩)) ?_ (Below.refl _ _) rfl
     exact Eng.run_indexAddr rfl Tryd.underlying61 (by kernel_rfl) ((H.kept 2 (by kernel_rfl)).trans h2_10) ((H.dep 1 20 (by kernel_rfl) rfl).trans (congrArg (Value.int _) (show (N64 : Int) = ((N64 : Nat) : Int) from by first | rfl | omega))) (by decide) (by first | rfl | omega)
    ·exact absurd hlt (by decide)
   intro act15 w15 T
   have h2_15 := (T.rest 2 (by kernel_rfl)).trans h2_10
   have h4_15 := (T.rest 4 (by kernel_rfl)).trans h4_10
   have kg2_1_15 := (T.below.block _ lg2_1_10).trans kg2_1_10
   have lg2_1_15 := Nat.lt_of_lt_of_le lg2_1_10 T.below.size
   have kg4_1_15 := (T.below.block _ lg4_1_10).trans kg4_1_10
   have lg4_1_15 := Nat.lt_of_lt_of_le lg4_1_10 T.below.size
   have h26_15 : act15.eval (.tmp 26) = .int .u64 (IntKind.u64.wrap ((Nfa.at_ l (N64)) + (p : Int))) := T.done 7 26 rfl rfl
   have h27_15 : act15.eval (.tmp 27) = .pointer (some ⟨g2_1, N64, none⟩) := T.done 8 27 rfl rfl
   have d15 := T.defers.trans d10
   have s15 := T.size.trans s10
   have bl15 := bl10.trans (T.below.mono bl10.size)
   clear T
   refine Eng.tail_set (n := N64) (v := .int .u64 (IntKind.u64.wrap ((Nfa.at_ l (N64)) + (p : Int)))) (new := (List.map (Value.int .u64) (l.set (N64) (IntKind.u64.wrap ((Nfa.at_ l (N64)) + (p : Int))))).toArray) rfl rfl rfl kg2_1_15 (Nfa.cell_set l (N64) (IntKind.u64.wrap ((Nfa.at_ l (N64)) + (p : Int)))) ?_ fun w16 S => ?_
   ·have e0 : act15.eval (.tmp 27) = .pointer (some ⟨g2_1, N64, none⟩) := h27_15
    have e1 : act15.eval (.tmp 26) = .int .u64 (IntKind.u64.wrap ((Nfa.at_ l (N64)) + (p : Int))) := h26_15
    have z0 := (Eng.cells kg2_1_15 (N64)).trans (Nfa.cell_at ((hg).len) (by omega))
    have f0 := Eng.unfrozen kg2_1_15 (N64)
    simp only [execOp]
    rw [e0, e1]
    go_simp
   have kg2_1_16 := S.new
   have lg2_1_16 := Nat.lt_of_lt_of_eq lg2_1_15 S.size.symm
   have kg4_1_16 := (S.far _ ne_g4_1_g2_1.symm).trans kg4_1_15
   have lg4_1_16 := Nat.lt_of_lt_of_eq lg4_1_15 S.size.symm
   have bl16 := S.below bl15 og2_1
   clear S
   refine Eng.tail_nil ?_
   refine wp_seq ?_
   refine Eng.regionS (Eng.still [fun u_ => u_ = .agg ((List.map (Value.int .u64) (l.set (N64) (IntKind.u64.wrap ((Nfa.at_ l (N64)) + (p : Int))))).toArray)]) (fun _ => .plain) 1 1 29 s15 rfl (by kernel_rfl) (Eng.still_stable _) (Or.inr (Eng.still_any _)) ?_ ?_
   ·refine Eng.Steps.cons (fun _ => ?_) (Eng.Steps.cons (fun hlt => ?_) (Eng.Steps.nil))
    ·refine Eng.plain rfl rfl fun a w' H => ?_
     have kb := (H.below.block _ lg2_1_16).trans kg2_1_16
     refine Eng.val (w1 := w') (v := .agg ((List.map (Value.int .u64) (l.set (N64) (IntKind.u64.wrap ((Nfa.at_ l (N64)) + (p : Int))))).toArray)) ?_ (Below.refl _ _) rfl
     exact Eng.run_load_all rfl ((H.kept 2 (by kernel_rfl)).trans h2_15) kb Tryd.underlying61 rfl (by rw [Nfa.cells_size (List.length_set.trans (hg).len)]; kernel_rfl)
    ·exact absurd hlt (by decide)
   intro act17 w17 T
   have h4_17 := (T.rest 4 (by kernel_rfl)).trans h4_15
   have kg4_1_17 := (T.below.block _ lg4_1_16).trans kg4_1_16
   have h28_17 : act17.eval (.tmp 28) = .agg ((List.map (Value.int .u64) (l.set (N64) (IntKind.u64.wrap ((Nfa.at_ l (N64)) + (p : Int))))).toArray) := T.done 0 28 rfl rfl
   have d17 := T.defers.trans d15
   have bl17 := bl16.trans (T.below.mono bl16.size)
   clear T
   refine Eng.tail_arr rfl rfl rfl rfl h4_17 h28_17 kg4_1_17 (by rw [Nfa.cells_size (List.length_set.trans (hg).len)]; kernel_rfl) ((Nfa.cells_size ((Nfa.good0).len)).trans (Nfa.cells_size (List.length_set.trans (hg).len)).symm) (by first | exact Nfa.ones_u _ | simp [Value.oneCell']) fun w18 S => ?_
   have kg4_1_18 := S.new
   have bl18 := S.below bl17 og4_1
   clear S
   refine Eng.tail_nil ?_
   refine wp_ret ?_
   repeat (first | refine Eng.in_ret ?_ | refine Eng.then_ret ?_)
   have kk : w18.heap[g4_1]? = some (.cells (List.map (Value.int .u64) (Nfa.put l m)).toArray 61 (0, 0)) := (kg4_1_18.trans (by rw [Nfa.put_add hg h0 h1 hN hR hpw.symm hno]))
   exact Eng.retc rfl d17 h4_17 kk Tryd.underlying61 rfl (by rw [Nfa.cells_size (Nfa.good_put hg m).len]; kernel_rfl) ⟨rfl, bl18⟩
end Go.Proofs.YthgafcaoibfchaaDoor.X
end
section
namespace Go.Proofs.YthgafcaoibfchaaDoor.X
open Go.RowKit Go.Shelf Go.Proofs Go.Proofs.YthgafcaoibfchaaDoorW.PrintWords Go.Proofs.YthgafcaoibfchaaDoorW.PrintLast Go.Proofs.YthgafcaoibfchaaDoorW.PrintMore
set_option linter.unusedVariables false
set_option linter.unusedSimpArgs false
set_option maxHeartbeats 4000000 in
set_option maxRecDepth 100000 in
theorem Nfa.rclosed_calls (pv bv : Value) (many : Int) (ps : List (List Pth.Part)) (bs : List Int) (vs : List Value) (s : List Int) (w : World) (hg : Nfa.Good s) (hvl : vs.length = ps.length) (hp : Eng.Reads w pv ps.length 1 vs) (hin : ∀ k, k < ps.length → Eng.Reads w (vs.getD k undef) (ps.getD k []).length 2 (Pth.cellsP (ps.getD k []))) (hb : Eng.Reads w bv bs.length 1 (Nfa.ints bs)) (hL : Nfa.Lie ps bs) : Calls Tryd.prog 114 #[.agg #[pv, bv, .int .i64 many], .agg ((List.map (Value.int .u64) s).toArray)] w fun e w' => e = .returned (.agg (List.map (Value.int .u64) (Nfa.closeF s (Nfa.items ps bs))).toArray) ∧ Below w.heap.size w w' := by
 have hu157 := Tryd.underlying157
 have hm := Eng.Reads.len_le hp
 have hbl := hL.1
 refine Eng.enter Tryd.func114 rfl fun act0 d0 s0 v0 => ?_
 have s0 : act0.tmps.size = 56 := s0
 have h0_0 : act0.eval (.tmp 0) = .agg #[pv, bv, .int .i64 many] := v0 0 (by simp)
 have h1_0 : act0.eval (.tmp 1) = .agg ((List.map (Value.int .u64) s).toArray) := v0 1 (by simp)
 clear v0
 have bl0 : Below w.heap.size w w := Below.refl _ _
 refine wp_seq ?_
 refine Eng.regionS (Eng.still [fun u_ => True, fun u_ => True, fun u_ => True]) (fun i => ([.alloc 71 #[pv, bv, .int .i64 many], .alloc 61 ((List.map (Value.int .u64) s).toArray), .alloc 61 ((List.map (Value.int .u64) (List.replicate 8 0)).toArray)] : List Eng.Kind).getD i .plain) 3 0 56 s0 rfl (by kernel_rfl) (Eng.still_stable _) (Or.inr (Eng.still_any _)) ?_ ?_
 ·refine Eng.Steps.cons (fun _ => ?_) (Eng.Steps.cons (fun _ => ?_) (Eng.Steps.cons (fun _ => ?_) (Eng.Steps.nil)))
  ·refine Eng.made rfl (by simp) rfl (fun a w' hd ho => ?_) (fun _ _ => trivial)
   exact Eng.run_box rfl ((ho 0 (by kernel_rfl)).trans h0_0)
  ·refine Eng.made rfl (by simp) rfl (fun a w' hd ho => ?_) (fun _ _ => trivial)
   exact Eng.run_box rfl ((ho 1 (by kernel_rfl)).trans h1_0)
  ·refine Eng.made rfl (by simp) rfl (fun a w' hd ho => ?_) (fun _ _ => trivial)
   exact Eng.run_alloc rfl (by kernel_rfl)
 intro act1 w1 T
 have h0_1 := (T.rest 0 (by kernel_rfl)).trans h0_0
 have h1_1 := (T.rest 1 (by kernel_rfl)).trans h1_0
 obtain ⟨g2_1, h2_1, rg2_1, lg2_1_1, kg2_1_1⟩ := T.al 0 2 _ _ rfl rfl rfl (by kernel_rfl)
 obtain ⟨g3_1, h3_1, rg3_1, lg3_1_1, kg3_1_1⟩ := T.al 1 3 _ _ rfl rfl rfl (by kernel_rfl)
 have og3_1 : w.heap.size ≤ g3_1 := Nat.le_trans bl0.size rg3_1
 have ne_g3_1_g2_1 : g2_1 ≠ g3_1 := T.ne 0 1 2 3 rfl rfl rfl rfl rfl rfl h2_1 h3_1 rfl
 obtain ⟨g4_1, h4_1, rg4_1, lg4_1_1, kg4_1_1⟩ := T.al 2 4 _ _ rfl rfl rfl (by kernel_rfl)
 have og4_1 : w.heap.size ≤ g4_1 := Nat.le_trans bl0.size rg4_1
 have ne_g4_1_g3_1 : g3_1 ≠ g4_1 := T.ne 1 2 3 4 rfl rfl rfl rfl rfl rfl h3_1 h4_1 rfl
 have d1 := T.defers.trans d0
 have s1 := T.size.trans s0
 have bl1 := bl0.trans (T.below.mono bl0.size)
 clear T
 refine Eng.tail_nil ?_
 refine wp_seq ?_
 refine wp_seq ?_
 refine Eng.regionS (Eng.still [fun u_ => u_ = .int .i64 0]) (fun _ => .plain) 1 0 56 s1 rfl (by kernel_rfl) (Eng.still_stable _) (Or.inr (Eng.still_any _)) ?_ ?_
 ·refine Eng.Steps.cons (fun _ => ?_) (Eng.Steps.nil)
  ·refine Eng.plain rfl rfl fun a w' H => ?_
   exact Eng.val (w1 := w') (v := .int .i64 0) (Eng.run_assign rfl (rfl : a.eval (.const (.int .i64 0)) = .int .i64 0)) (Below.refl _ _) rfl
 intro act2 w2 T
 have h0_2 := (T.rest 0 (by kernel_rfl)).trans h0_1
 have h1_2 := (T.rest 1 (by kernel_rfl)).trans h1_1
 have h2_2 := (T.rest 2 (by kernel_rfl)).trans h2_1
 have h3_2 := (T.rest 3 (by kernel_rfl)).trans h3_1
 have h4_2 := (T.rest 4 (by kernel_rfl)).trans h4_1
 have kg2_1_2 := (T.below.block _ lg2_1_1).trans kg2_1_1
 have lg2_1_2 := Nat.lt_of_lt_of_le lg2_1_1 T.below.size
 have kg3_1_2 := (T.below.block _ lg3_1_1).trans kg3_1_1
 have lg3_1_2 := Nat.lt_of_lt_of_le lg3_1_1 T.below.size
 have kg4_1_2 := (T.below.block _ lg4_1_1).trans kg4_1_1
 have lg4_1_2 := Nat.lt_of_lt_of_le lg4_1_1 T.below.size
 have h5_2 : act2.eval (.tmp 5) = .int .i64 0 := T.done 0 5 rfl rfl
 have d2 := T.defers.trans d1
 have s2 := T.size.trans s1
 have bl2 := bl1.trans (T.below.mono bl1.size)
 clear T
 refine Eng.tail_nil ?_
 refine wp_block ?_
 refine Eng.loopN (fun n a w' => ∃ (k : Nat), ps.length - k = n ∧ (k ≤ ps.length) ∧ a.defers = [] ∧ a.tmps.size = 56 ∧ Below w.heap.size w w' ∧ a.eval (.tmp 0) = .agg #[pv, bv, .int .i64 many] ∧ a.eval (.tmp 1) = .agg ((List.map (Value.int .u64) s).toArray) ∧ a.eval (.tmp 2) = .pointer (some ⟨g2_1, 0, none⟩) ∧ a.eval (.tmp 3) = .pointer (some ⟨g3_1, 0, none⟩) ∧ a.eval (.tmp 4) = .pointer (some ⟨g4_1, 0, none⟩) ∧ a.eval (.tmp 5) = .int .i64 (k : Nat) ∧ w'.heap[g2_1]? = some (.cells (#[pv, bv, .int .i64 many]) 71 (0, 0)) ∧ g2_1 < w'.heap.size ∧ w'.heap[g3_1]? = some (.cells ((List.map (Value.int .u64) (Nfa.closeF s (Nfa.itemsTo ps bs k 0))).toArray) 61 (0, 0)) ∧ g3_1 < w'.heap.size ∧ w'.heap[g4_1]? = some (.cells ((List.map (Value.int .u64) (List.replicate 8 0)).toArray) 61 (0, 0)) ∧ g4_1 < w'.heap.size) (n0 := ps.length - 0) ?_ ?_
 ·exact ⟨0, rfl, by omega, d2, s2, bl2, h0_2, h1_2, h2_2, h3_2, h4_2, (h5_2.trans (by first | rfl | (congr 1; rw [Eng.i64_id (by omega) (by omega)]; omega) | (simp; done))), kg2_1_2, lg2_1_2, (kg3_1_2.trans (by first | rfl | (rw [Nfa.itemsTo_zero]; rfl) | (rw [← Nfa.itemsTo_end, hje]; done) | (rw [hje, Nfa.itemsTo_end]; done))), lg3_1_2, kg4_1_2, lg4_1_2⟩
 rintro n act3 w3 ⟨k, rfl, hc0_3, d3, s3, bl3, h0_3, h1_3, h2_3, h3_3, h4_3, h5_3, kg2_1_3, lg2_1_3, kg3_1_3, lg3_1_3, kg4_1_3, lg4_1_3⟩
 have Fpp_3 := Eng.Reads.below hp bl3
 have hk1 := hc0_3
 refine wp_seq ?_
 refine wp_seq ?_
 obtain ⟨q11, Bq11⟩ : ∃ b : Bool, b = (decide ((k : Nat) < ((ps.length : Nat) : Int))) := ⟨_, rfl⟩
 refine Eng.regionS (Eng.still [fun u_ => u_ = .int .i64 (k : Nat), fun u_ => u_ = .pointer (some ⟨g2_1, 0, none⟩), fun u_ => u_ = pv, fun u_ => u_ = .int .i64 ((ps.length : Nat) : Int), fun u_ => u_ = .bool q11]) (fun _ => .plain) 5 0 56 s3 rfl (by kernel_rfl) (Eng.still_stable _) (Or.inr (Eng.still_any _)) ?_ ?_
 ·refine Eng.Steps.cons (fun _ => ?_) (Eng.Steps.cons (fun _ => ?_) (Eng.Steps.cons (fun _ => ?_) (Eng.Steps.cons (fun _ => ?_) (Eng.Steps.cons (fun _ => ?_) (Eng.Steps.nil)))))
  ·refine Eng.plain rfl rfl fun a w' H => ?_
   exact Eng.val (w1 := w') (v := .int .i64 (k : Nat)) (Eng.run_move rfl ((H.kept 5 (by kernel_rfl)).trans h5_3)) (Below.refl _ _) rfl
  ·refine Eng.plain rfl rfl fun a w' H => ?_
   refine Eng.val (w1 := w') (v := .pointer (some ⟨g2_1, 0, none⟩)) ?_ (Below.refl _ _) rfl
   have e0 := ((H.kept 2 (by kernel_rfl)).trans h2_3)
   simp only [execOp, resolve, e0]
   go_simp
  ·refine Eng.plain rfl rfl fun a w' H => ?_
   have kb := (H.below.block _ lg2_1_3).trans kg2_1_3
   have z0 : w'.cell? ⟨g2_1, 0, none⟩ = some (pv) := (Eng.cells kb 0).trans rfl
   refine Eng.val (w1 := w') (v := pv) ?_ (Below.refl _ _) rfl
   have e0 : a.eval (.tmp 8) = .pointer (some ⟨g2_1, 0, none⟩) := (H.dep 1 8 (by kernel_rfl) rfl)
   simp only [execOp, resolve, e0]
   go_simp
  ·refine Eng.plain rfl rfl fun a w' H => ?_
   refine Eng.val (w1 := w') (v := .int .i64 ((ps.length : Nat) : Int)) ?_ (Below.refl _ _) rfl
   exact Eng.run_len_sl rfl Tryd.underlying59 (show a.eval (.tmp 9) = pv from (H.dep 2 9 (by kernel_rfl) rfl)) (Eng.Reads.below Fpp_3 H.below)
  ·refine Eng.plain rfl rfl fun a w' H => ?_
   refine Eng.val (w1 := w') (v := .bool (decide ((k : Nat) < ((ps.length : Nat) : Int)))) ?_ (Below.refl _ _) (by show _ = Value.bool q11; rw [Bq11])
   have e0 : a.eval (.tmp 7) = .int .i64 (k : Nat) := (H.dep 0 7 (by kernel_rfl) rfl)
   have e1 : a.eval (.tmp 10) = .int .i64 ((ps.length : Nat) : Int) := (H.dep 3 10 (by kernel_rfl) rfl)
   simp only [execOp, resolve, e0, e1]
   go_simp
 intro act4 w4 T
 have h0_4 := (T.rest 0 (by kernel_rfl)).trans h0_3
 have h1_4 := (T.rest 1 (by kernel_rfl)).trans h1_3
 have h2_4 := (T.rest 2 (by kernel_rfl)).trans h2_3
 have h3_4 := (T.rest 3 (by kernel_rfl)).trans h3_3
 have h4_4 := (T.rest 4 (by kernel_rfl)).trans h4_3
 have h5_4 := (T.rest 5 (by kernel_rfl)).trans h5_3
 have kg2_1_4 := (T.below.block _ lg2_1_3).trans kg2_1_3
 have lg2_1_4 := Nat.lt_of_lt_of_le lg2_1_3 T.below.size
 have kg3_1_4 := (T.below.block _ lg3_1_3).trans kg3_1_3
 have lg3_1_4 := Nat.lt_of_lt_of_le lg3_1_3 T.below.size
 have kg4_1_4 := (T.below.block _ lg4_1_3).trans kg4_1_3
 have lg4_1_4 := Nat.lt_of_lt_of_le lg4_1_3 T.below.size
 have h11_4 : act4.eval (.tmp 11) = .bool q11 := T.done 4 11 rfl rfl
 have d4 := T.defers.trans d3
 have s4 := T.size.trans s3
 have bl4 := bl3.trans (T.below.mono bl3.size)
 clear T
 refine Eng.tail_nil ?_
 refine wp_cond_split h11_4 (fun hq => ?_) (fun hq => ?_)
 ·
  have c11 := Bq11.symm.trans hq
  clear hq
  have c11 := of_decide_eq_true c11
  have hk0 : k < ps.length := by omega
  have Fin0 := hin k hk0
  have hmi := Eng.Reads.len_le Fin0
  have Finn6 := Eng.Reads.below Fin0 bl4
  have hkb : k < bs.length := by omega
  refine wp_skip ?_
  refine wp_seq ?_
  refine wp_block ?_
  refine wp_seq ?_
  refine Eng.regionS (Eng.still [fun u_ => u_ = .int .i64 0]) (fun _ => .plain) 1 0 56 s4 rfl (by kernel_rfl) (Eng.still_stable _) (Or.inr (Eng.still_any _)) ?_ ?_
  ·refine Eng.Steps.cons (fun _ => ?_) (Eng.Steps.nil)
   ·refine Eng.plain rfl rfl fun a w' H => ?_
    exact Eng.val (w1 := w') (v := .int .i64 0) (Eng.run_assign rfl (rfl : a.eval (.const (.int .i64 0)) = .int .i64 0)) (Below.refl _ _) rfl
  intro act7 w7 T
  have h0_7 := (T.rest 0 (by kernel_rfl)).trans h0_4
  have h1_7 := (T.rest 1 (by kernel_rfl)).trans h1_4
  have h2_7 := (T.rest 2 (by kernel_rfl)).trans h2_4
  have h3_7 := (T.rest 3 (by kernel_rfl)).trans h3_4
  have h4_7 := (T.rest 4 (by kernel_rfl)).trans h4_4
  have h5_7 := (T.rest 5 (by kernel_rfl)).trans h5_4
  have h11_7 := (T.rest 11 (by kernel_rfl)).trans h11_4
  have kg2_1_7 := (T.below.block _ lg2_1_4).trans kg2_1_4
  have lg2_1_7 := Nat.lt_of_lt_of_le lg2_1_4 T.below.size
  have kg3_1_7 := (T.below.block _ lg3_1_4).trans kg3_1_4
  have lg3_1_7 := Nat.lt_of_lt_of_le lg3_1_4 T.below.size
  have kg4_1_7 := (T.below.block _ lg4_1_4).trans kg4_1_4
  have lg4_1_7 := Nat.lt_of_lt_of_le lg4_1_4 T.below.size
  have h6_7 : act7.eval (.tmp 6) = .int .i64 0 := T.done 0 6 rfl rfl
  have d7 := T.defers.trans d4
  have s7 := T.size.trans s4
  have bl7 := bl4.trans (T.below.mono bl4.size)
  clear T
  refine Eng.tail_nil ?_
  refine wp_block ?_
  refine Eng.loopN (fun n a w' => ∃ (j : Nat), (ps.getD k []).length - j = n ∧ (j ≤ (ps.getD k []).length) ∧ a.defers = [] ∧ a.tmps.size = 56 ∧ Below w.heap.size w w' ∧ a.eval (.tmp 0) = .agg #[pv, bv, .int .i64 many] ∧ a.eval (.tmp 1) = .agg ((List.map (Value.int .u64) s).toArray) ∧ a.eval (.tmp 2) = .pointer (some ⟨g2_1, 0, none⟩) ∧ a.eval (.tmp 3) = .pointer (some ⟨g3_1, 0, none⟩) ∧ a.eval (.tmp 4) = .pointer (some ⟨g4_1, 0, none⟩) ∧ a.eval (.tmp 5) = .int .i64 (k : Nat) ∧ a.eval (.tmp 6) = .int .i64 (j : Nat) ∧ a.eval (.tmp 11) = .bool q11 ∧ w'.heap[g2_1]? = some (.cells (#[pv, bv, .int .i64 many]) 71 (0, 0)) ∧ g2_1 < w'.heap.size ∧ w'.heap[g3_1]? = some (.cells ((List.map (Value.int .u64) (Nfa.closeF s (Nfa.itemsTo ps bs k j))).toArray) 61 (0, 0)) ∧ g3_1 < w'.heap.size ∧ w'.heap[g4_1]? = some (.cells ((List.map (Value.int .u64) (List.replicate 8 0)).toArray) 61 (0, 0)) ∧ g4_1 < w'.heap.size) (n0 := (ps.getD k []).length - 0) ?_ ?_
  ·exact ⟨0, rfl, by omega, d7, s7, bl7, h0_7, h1_7, h2_7, h3_7, h4_7, h5_7, (h6_7.trans (by first | rfl | (congr 1; rw [Eng.i64_id (by omega) (by omega)]; omega) | (simp; done))), h11_7, kg2_1_7, lg2_1_7, (kg3_1_7.trans (by first | rfl | (rw [Nfa.close_on hkb hon]; done) | (rw [Nfa.close_off hkb hon]; done))), lg3_1_7, kg4_1_7, lg4_1_7⟩
  rintro n act8 w8 ⟨j, rfl, hc0_8, d8, s8, bl8, h0_8, h1_8, h2_8, h3_8, h4_8, h5_8, h6_8, h11_8, kg2_1_8, lg2_1_8, kg3_1_8, lg3_1_8, kg4_1_8, lg4_1_8⟩
  have Fpp_8 := Eng.Reads.below hp bl8
  have Fbb_8 := Eng.Reads.below hb bl8
  have Finn_8 := Eng.Reads.below Fin0 bl8
  have hj1 := hc0_8
  refine wp_seq ?_
  refine wp_seq ?_
  obtain ⟨q21, Bq21⟩ : ∃ b : Bool, b = (decide ((j : Nat) < (((ps.getD k []).length : Nat) : Int))) := ⟨_, rfl⟩
  refine Eng.regionS (Eng.still [fun u_ => u_ = .int .i64 (j : Nat), fun u_ => u_ = .pointer (some ⟨g2_1, 0, none⟩), fun u_ => u_ = pv, fun u_ => u_ = .int .i64 (k : Nat), fun u_ => u_ = Eng.elemPtr pv (k * 1), fun u_ => u_ = (vs.getD k undef), fun u_ => u_ = .int .i64 (((ps.getD k []).length : Nat) : Int), fun u_ => u_ = .bool q21]) (fun _ => .plain) 8 0 56 s8 rfl (by kernel_rfl) (Eng.still_stable _) (Or.inr (Eng.still_any _)) ?_ ?_
  ·refine Eng.Steps.cons (fun _ => ?_) (Eng.Steps.cons (fun _ => ?_) (Eng.Steps.cons (fun _ => ?_) (Eng.Steps.cons (fun _ => ?_) (Eng.Steps.cons (fun _ => ?_) (Eng.Steps.cons (fun _ => ?_) (Eng.Steps.cons (fun _ => ?_) (Eng.Steps.cons (fun _ => ?_) (Eng.Steps.nil))))))))
   ·refine Eng.plain rfl rfl fun a w' H => ?_
    exact Eng.val (w1 := w') (v := .int .i64 (j : Nat)) (Eng.run_move rfl ((H.kept 6 (by kernel_rfl)).trans h6_8)) (Below.refl _ _) rfl
   ·refine Eng.plain rfl rfl fun a w' H => ?_
    refine Eng.val (w1 := w') (v := .pointer (some ⟨g2_1, 0, none⟩)) ?_ (Below.refl _ _) rfl
    have e0 := ((H.kept 2 (by kernel_rfl)).trans h2_8)
    simp only [execOp, resolve, e0]
    go_simp
   ·refine Eng.plain rfl rfl fun a w' H => ?_
    have kb := (H.below.block _ lg2_1_8).trans kg2_1_8
    have z0 : w'.cell? ⟨g2_1, 0, none⟩ = some (pv) := (Eng.cells kb 0).trans rfl
    refine Eng.val (w1 := w') (v := pv) ?_ (Below.refl _ _) rfl
    have e0 : a.eval (.tmp 15) = .pointer (some ⟨g2_1, 0, none⟩) := (H.dep 1 15 (by kernel_rfl) rfl)
    simp only [execOp, resolve, e0]
    go_simp
   ·refine Eng.plain rfl rfl fun a w' H => ?_
    exact Eng.val (w1 := w') (v := .int .i64 (k : Nat)) (Eng.run_move rfl ((H.kept 5 (by kernel_rfl)).trans h5_8)) (Below.refl _ _) rfl
   ·refine Eng.plain rfl rfl fun a w' H => ?_
    refine Eng.val (w1 := w') (v := Eng.elemPtr pv (k * 1)) ?_ (Below.refl _ _) rfl
    exact Eng.run_index_sl rfl Tryd.underlying59 (by kernel_rfl) (show a.eval (.tmp 16) = pv from (H.dep 2 16 (by kernel_rfl) rfl)) ((show a.eval (.tmp 17) = .int .i64 (k : Nat) from (H.dep 3 17 (by kernel_rfl) rfl)).trans (congrArg (Value.int _) (show (k : Nat) = ((k : Nat) : Int) from by omega))) (Eng.Reads.below Fpp_8 H.below) (by omega) rfl
   ·refine Eng.plain rfl rfl fun a w' H => ?_
    refine Eng.val (w1 := w') (v := (vs.getD k undef)) ?_ (Below.refl _ _) rfl
    exact Eng.run_load_el ((vs.getD k undef)) rfl (show a.eval (.tmp 18) = Eng.elemPtr pv (k * 1) from (H.dep 4 18 (by kernel_rfl) rfl)) (Eng.Reads.below Fpp_8 H.below) (Nfa.at_one vs hvl (by omega)) (by kernel_rfl)
   ·refine Eng.plain rfl rfl fun a w' H => ?_
    refine Eng.val (w1 := w') (v := .int .i64 (((ps.getD k []).length : Nat) : Int)) ?_ (Below.refl _ _) rfl
    exact Eng.run_len_sl rfl Tryd.underlying118 (show a.eval (.tmp 19) = (vs.getD k undef) from (H.dep 5 19 (by kernel_rfl) rfl)) (Eng.Reads.below Finn_8 H.below)
   ·refine Eng.plain rfl rfl fun a w' H => ?_
    refine Eng.val (w1 := w') (v := .bool (decide ((j : Nat) < (((ps.getD k []).length : Nat) : Int)))) ?_ (Below.refl _ _) (by show _ = Value.bool q21; rw [Bq21])
    have e0 : a.eval (.tmp 14) = .int .i64 (j : Nat) := (H.dep 0 14 (by kernel_rfl) rfl)
    have e1 : a.eval (.tmp 20) = .int .i64 (((ps.getD k []).length : Nat) : Int) := (H.dep 6 20 (by kernel_rfl) rfl)
    simp only [execOp, resolve, e0, e1]
    go_simp
  intro act9 w9 T
  have h0_9 := (T.rest 0 (by kernel_rfl)).trans h0_8
  have h1_9 := (T.rest 1 (by kernel_rfl)).trans h1_8
  have h2_9 := (T.rest 2 (by kernel_rfl)).trans h2_8
  have h3_9 := (T.rest 3 (by kernel_rfl)).trans h3_8
  have h4_9 := (T.rest 4 (by kernel_rfl)).trans h4_8
  have h5_9 := (T.rest 5 (by kernel_rfl)).trans h5_8
  have h6_9 := (T.rest 6 (by kernel_rfl)).trans h6_8
  have h11_9 := (T.rest 11 (by kernel_rfl)).trans h11_8
  have kg2_1_9 := (T.below.block _ lg2_1_8).trans kg2_1_8
  have lg2_1_9 := Nat.lt_of_lt_of_le lg2_1_8 T.below.size
  have kg3_1_9 := (T.below.block _ lg3_1_8).trans kg3_1_8
  have lg3_1_9 := Nat.lt_of_lt_of_le lg3_1_8 T.below.size
  have kg4_1_9 := (T.below.block _ lg4_1_8).trans kg4_1_8
  have lg4_1_9 := Nat.lt_of_lt_of_le lg4_1_8 T.below.size
  have Fpp_9 := Eng.Reads.below Fpp_8 T.below
  have Fbb_9 := Eng.Reads.below Fbb_8 T.below
  have Finn_9 := Eng.Reads.below Finn_8 T.below
  have h21_9 : act9.eval (.tmp 21) = .bool q21 := T.done 7 21 rfl rfl
  have d9 := T.defers.trans d8
  have s9 := T.size.trans s8
  have bl9 := bl8.trans (T.below.mono bl8.size)
  clear T
  refine Eng.tail_nil ?_
  refine wp_cond_split h21_9 (fun hq => ?_) (fun hq => ?_)
  ·
   have c21 := Bq21.symm.trans hq
   clear hq
   have c21 := of_decide_eq_true c21
   have hj0 : j < (ps.getD k []).length := by omega
   refine wp_skip ?_
   refine wp_seq ?_
   refine wp_block ?_
   refine wp_seq ?_
   obtain ⟨q33, Bq33⟩ : ∃ b : Bool, b = ((((ps.getD k []).getD j default).1) == 2) := ⟨_, rfl⟩
   obtain ⟨q43, Bq43⟩ : ∃ b : Bool, b = (Nfa.has (Nfa.closeF s (Nfa.itemsTo ps bs k j)) (IntKind.i64.wrap ((bs.getD k 0) + (j : Nat)))) := ⟨_, rfl⟩
   obtain ⟨q44, Bq44⟩ : ∃ b : Bool, b = (q33 && q43) := ⟨_, rfl⟩
   refine Eng.regionD (Eng.still [fun u_ => u_ = .pointer (some ⟨g2_1, 0, none⟩), fun u_ => u_ = pv, fun u_ => u_ = .int .i64 (k : Nat), fun u_ => u_ = Eng.elemPtr pv (k * 1), fun u_ => u_ = (vs.getD k undef), fun u_ => u_ = .int .i64 (j : Nat), fun u_ => u_ = Eng.elemPtr (vs.getD k undef) (j * 2), fun u_ => u_ = Eng.elemPtr (vs.getD k undef) (j * 2 + 0), fun u_ => u_ = .int .i64 (((ps.getD k []).getD j default).1), fun u_ => u_ = .bool q33, fun u_ => u_ = .bool q33, fun u_ => u_ = bif (q33 == true) then (.agg ((List.map (Value.int .u64) (Nfa.closeF s (Nfa.itemsTo ps bs k j))).toArray)) else undef, fun u_ => u_ = bif (q33 == true) then (.pointer (some ⟨g2_1, 1, none⟩)) else undef, fun u_ => u_ = bif (q33 == true) then (bv) else undef, fun u_ => u_ = bif (q33 == true) then (.int .i64 (k : Nat)) else undef, fun u_ => u_ = bif (q33 == true) then (Eng.elemPtr bv (k * 1)) else undef, fun u_ => u_ = bif (q33 == true) then (.int .i64 (bs.getD k 0)) else undef, fun u_ => u_ = bif (q33 == true) then (.int .i64 (j : Nat)) else undef, fun u_ => u_ = bif (q33 == true) then (.int .i64 (IntKind.i64.wrap ((bs.getD k 0) + (j : Nat)))) else undef, fun u_ => u_ = bif (q33 == true) then (.bool q43) else undef, fun u_ => u_ = .bool q44]) (fun _ => .plain) 21 0 56 (by kernel_rfl) s9 rfl (by kernel_rfl) (Eng.still_stable _) (Or.inr (Eng.still_any _)) ?_ ?_
   ·refine Eng.Steps.cons (fun _ => ?_) (Eng.Steps.cons (fun _ => ?_) (Eng.Steps.cons (fun _ => ?_) (Eng.Steps.cons (fun _ => ?_) (Eng.Steps.cons (fun _ => ?_) (Eng.Steps.cons (fun _ => ?_) (Eng.Steps.cons (fun _ => ?_) (Eng.Steps.cons (fun _ => ?_) (Eng.Steps.cons (fun _ => ?_) (Eng.Steps.cons (fun _ => ?_) (Eng.Steps.cons (fun _ => ?_) (Eng.Steps.cons (fun _ => ?_) (Eng.Steps.cons (fun _ => ?_) (Eng.Steps.cons (fun _ => ?_) (Eng.Steps.cons (fun _ => ?_) (Eng.Steps.cons (fun _ => ?_) (Eng.Steps.cons (fun _ => ?_) (Eng.Steps.cons (fun _ => ?_) (Eng.Steps.cons (fun _ => ?_) (Eng.Steps.cons (fun _ => ?_) (Eng.Steps.cons (fun _ => ?_) (Eng.Steps.nil)))))))))))))))))))))
    ·refine Eng.plain rfl rfl fun a w' H => ?_
     refine Eng.val (w1 := w') (v := .pointer (some ⟨g2_1, 0, none⟩)) ?_ (Below.refl _ _) rfl
     have e0 := ((H.kept 2 (by kernel_rfl)).trans h2_9)
     simp only [execOp, resolve, e0]
     go_simp
    ·refine Eng.plain rfl rfl fun a w' H => ?_
     have kb := (H.below.block _ lg2_1_9).trans kg2_1_9
     have z0 : w'.cell? ⟨g2_1, 0, none⟩ = some (pv) := (Eng.cells kb 0).trans rfl
     refine Eng.val (w1 := w') (v := pv) ?_ (Below.refl _ _) rfl
     have e0 : a.eval (.tmp 24) = .pointer (some ⟨g2_1, 0, none⟩) := (H.dep 0 24 (by kernel_rfl) rfl)
     simp only [execOp, resolve, e0]
     go_simp
    ·refine Eng.plain rfl rfl fun a w' H => ?_
     exact Eng.val (w1 := w') (v := .int .i64 (k : Nat)) (Eng.run_move rfl ((H.kept 5 (by kernel_rfl)).trans h5_9)) (Below.refl _ _) rfl
    ·refine Eng.plain rfl rfl fun a w' H => ?_
     refine Eng.val (w1 := w') (v := Eng.elemPtr pv (k * 1)) ?_ (Below.refl _ _) rfl
     exact Eng.run_index_sl rfl Tryd.underlying59 (by kernel_rfl) (show a.eval (.tmp 25) = pv from (H.dep 1 25 (by kernel_rfl) rfl)) ((show a.eval (.tmp 26) = .int .i64 (k : Nat) from (H.dep 2 26 (by kernel_rfl) rfl)).trans (congrArg (Value.int _) (show (k : Nat) = ((k : Nat) : Int) from by omega))) (Eng.Reads.below Fpp_9 H.below) (by omega) rfl
    ·refine Eng.plain rfl rfl fun a w' H => ?_
     refine Eng.val (w1 := w') (v := (vs.getD k undef)) ?_ (Below.refl _ _) rfl
     exact Eng.run_load_el ((vs.getD k undef)) rfl (show a.eval (.tmp 27) = Eng.elemPtr pv (k * 1) from (H.dep 3 27 (by kernel_rfl) rfl)) (Eng.Reads.below Fpp_9 H.below) (Nfa.at_one vs hvl (by omega)) (by kernel_rfl)
    ·refine Eng.plain rfl rfl fun a w' H => ?_
     exact Eng.val (w1 := w') (v := .int .i64 (j : Nat)) (Eng.run_move rfl ((H.kept 6 (by kernel_rfl)).trans h6_9)) (Below.refl _ _) rfl
    ·refine Eng.plain rfl rfl fun a w' H => ?_
     refine Eng.val (w1 := w') (v := Eng.elemPtr (vs.getD k undef) (j * 2)) ?_ (Below.refl _ _) rfl
     exact Eng.run_index_sl rfl Tryd.underlying118 (by kernel_rfl) (show a.eval (.tmp 28) = (vs.getD k undef) from (H.dep 4 28 (by kernel_rfl) rfl)) ((show a.eval (.tmp 29) = .int .i64 (j : Nat) from (H.dep 5 29 (by kernel_rfl) rfl)).trans (congrArg (Value.int _) (show (j : Nat) = ((j : Nat) : Int) from by omega))) (Eng.Reads.below Finn_9 H.below) (by omega) rfl
    ·refine Eng.plain rfl rfl fun a w' H => ?_
     refine Eng.val (w1 := w') (v := Eng.elemPtr (vs.getD k undef) (j * 2 + 0)) ?_ (Below.refl _ _) rfl
     exact Eng.run_field_el rfl Tryd.underlying157 0 (by kernel_rfl) (show a.eval (.tmp 30) = Eng.elemPtr (vs.getD k undef) (j * 2) from (H.dep 6 30 (by kernel_rfl) rfl)) (Eng.Reads.below Finn_9 H.below) (by have h_ : j < (ps.getD k []).length := (by omega); omega)
    ·refine Eng.plain rfl rfl fun a w' H => ?_
     refine Eng.val (w1 := w') (v := .int .i64 (((ps.getD k []).getD j default).1)) ?_ (Below.refl _ _) rfl
     exact Eng.run_load_el (.int .i64 (((ps.getD k []).getD j default).1)) rfl (show a.eval (.tmp 31) = Eng.elemPtr (vs.getD k undef) (j * 2 + 0) from (H.dep 7 31 (by kernel_rfl) rfl)) (Eng.Reads.below Finn_9 H.below) (Pth.cell0 (l := (ps.getD k [])) (j := j) (by omega)) (by kernel_rfl)
    ·refine Eng.plain rfl rfl fun a w' H => ?_
     refine Eng.val (w1 := w') (v := .bool ((((ps.getD k []).getD j default).1) == 2)) ?_ (Below.refl _ _) (by show _ = Value.bool q33; rw [Bq33])
     have e0 : a.eval (.tmp 32) = .int .i64 (((ps.getD k []).getD j default).1) := (H.dep 8 32 (by kernel_rfl) rfl)
     have e1 : a.eval (.const (.int .i64 2)) = .int .i64 2 := (rfl : a.eval (.const (.int .i64 2)) = .int .i64 2)
     simp only [execOp, resolve, e0, e1]
     go_simp
    ·refine Eng.plain rfl rfl fun a w' H => ?_
     exact Eng.val (w1 := w') (v := .bool q33) (Eng.run_move rfl (H.dep 9 33 (by kernel_rfl) rfl)) (Below.refl _ _) rfl
    ·refine Eng.guarded1 (j := 10) (d := 34) (b := q33) rfl rfl (by kernel_rfl) rfl (fun v w h => h) (fun hG w => Eng.off hG) fun hG a w' H => ?_
     have kb := (H.below.block _ lg3_1_9).trans kg3_1_9
     refine Eng.val (w1 := w') (v := .agg ((List.map (Value.int .u64) (Nfa.closeF s (Nfa.itemsTo ps bs k j))).toArray)) ?_ (Below.refl _ _) (Eng.off' hG rfl)
     exact Eng.run_load_all rfl ((H.kept 3 (by kernel_rfl)).trans h3_9) kb Tryd.underlying61 rfl (by rw [Nfa.cells_size ((Nfa.closeF_good hg _).len)]; kernel_rfl)
    ·refine Eng.guarded1 (j := 10) (d := 34) (b := q33) rfl rfl (by kernel_rfl) rfl (fun v w h => h) (fun hG w => Eng.off hG) fun hG a w' H => ?_
     refine Eng.val (w1 := w') (v := .pointer (some ⟨g2_1, 1, none⟩)) ?_ (Below.refl _ _) (Eng.off' hG rfl)
     have e0 := ((H.kept 2 (by kernel_rfl)).trans h2_9)
     simp only [execOp, resolve, e0]
     go_simp
    ·refine Eng.guarded1 (j := 10) (d := 34) (b := q33) rfl rfl (by kernel_rfl) rfl (fun v w h => h) (fun hG w => Eng.off hG) fun hG a w' H => ?_
     have kb := (H.below.block _ lg2_1_9).trans kg2_1_9
     have z0 : w'.cell? ⟨g2_1, 1, none⟩ = some (bv) := (Eng.cells kb 1).trans rfl
     refine Eng.val (w1 := w') (v := bv) ?_ (Below.refl _ _) (Eng.off' hG rfl)
     have e0 : a.eval (.tmp 36) = .pointer (some ⟨g2_1, 1, none⟩) := (Eng.on (H.dep 12 36 (by kernel_rfl) rfl) hG)
     simp only [execOp, resolve, e0]
     go_simp
    ·refine Eng.guarded1 (j := 10) (d := 34) (b := q33) rfl rfl (by kernel_rfl) rfl (fun v w h => h) (fun hG w => Eng.off hG) fun hG a w' H => ?_
     exact Eng.val (w1 := w') (v := .int .i64 (k : Nat)) (Eng.run_move rfl ((H.kept 5 (by kernel_rfl)).trans h5_9)) (Below.refl _ _) (Eng.off' hG rfl)
    ·refine Eng.guarded1 (j := 10) (d := 34) (b := q33) rfl rfl (by kernel_rfl) rfl (fun v w h => h) (fun hG w => Eng.off hG) fun hG a w' H => ?_
     refine Eng.val (w1 := w') (v := Eng.elemPtr bv (k * 1)) ?_ (Below.refl _ _) (Eng.off' hG rfl)
     exact Eng.run_index_sl rfl Tryd.underlying63 (by kernel_rfl) (show a.eval (.tmp 37) = bv from (Eng.on (H.dep 13 37 (by kernel_rfl) rfl) hG)) ((show a.eval (.tmp 38) = .int .i64 (k : Nat) from (Eng.on (H.dep 14 38 (by kernel_rfl) rfl) hG)).trans (congrArg (Value.int _) (show (k : Nat) = ((k : Nat) : Int) from by omega))) (Eng.Reads.below Fbb_9 H.below) (by omega) rfl
    ·refine Eng.guarded1 (j := 10) (d := 34) (b := q33) rfl rfl (by kernel_rfl) rfl (fun v w h => h) (fun hG w => Eng.off hG) fun hG a w' H => ?_
     refine Eng.val (w1 := w') (v := .int .i64 (bs.getD k 0)) ?_ (Below.refl _ _) (Eng.off' hG rfl)
     exact Eng.run_load_el (.int .i64 (bs.getD k 0)) rfl (show a.eval (.tmp 39) = Eng.elemPtr bv (k * 1) from (Eng.on (H.dep 15 39 (by kernel_rfl) rfl) hG)) (Eng.Reads.below Fbb_9 H.below) (Nfa.ints_at bs k (by omega)) (by kernel_rfl)
    ·refine Eng.guarded1 (j := 10) (d := 34) (b := q33) rfl rfl (by kernel_rfl) rfl (fun v w h => h) (fun hG w => Eng.off hG) fun hG a w' H => ?_
     exact Eng.val (w1 := w') (v := .int .i64 (j : Nat)) (Eng.run_move rfl ((H.kept 6 (by kernel_rfl)).trans h6_9)) (Below.refl _ _) (Eng.off' hG rfl)
    ·refine Eng.guarded1 (j := 10) (d := 34) (b := q33) rfl rfl (by kernel_rfl) rfl (fun v w h => h) (fun hG w => Eng.off hG) fun hG a w' H => ?_
     refine Eng.val (w1 := w') (v := .int .i64 (IntKind.i64.wrap ((bs.getD k 0) + (j : Nat)))) ?_ (Below.refl _ _) (Eng.off' hG rfl)
     have e0 : a.eval (.tmp 40) = .int .i64 (bs.getD k 0) := (Eng.on (H.dep 16 40 (by kernel_rfl) rfl) hG)
     have e1 : a.eval (.tmp 41) = .int .i64 (j : Nat) := (Eng.on (H.dep 17 41 (by kernel_rfl) rfl) hG)
     simp only [execOp, resolve, e0, e1]
     go_simp
    ·refine Eng.guarded1 (j := 10) (d := 34) (b := q33) rfl rfl (by kernel_rfl) rfl (fun v w h => h) (fun hG w => Eng.off hG) fun hG a w' H => ?_
     refine Eng.call Tryd.func115 (by kernel_rfl) (by kernel_rfl) rfl #[.agg ((List.map (Value.int .u64) (Nfa.closeF s (Nfa.itemsTo ps bs k j))).toArray), .int .i64 (IntKind.i64.wrap ((bs.getD k 0) + (j : Nat)))] ?_ ?_
     ·have e0 : a.eval (.tmp 35) = .agg ((List.map (Value.int .u64) (Nfa.closeF s (Nfa.itemsTo ps bs k j))).toArray) := (Eng.on (H.dep 11 35 (by kernel_rfl) rfl) hG); have e1 : a.eval (.tmp 42) = .int .i64 (IntKind.i64.wrap ((bs.getD k 0) + (j : Nat))) := (Eng.on (H.dep 18 42 (by kernel_rfl) rfl) hG); simp only [List.map_toArray, List.map_cons, List.map_nil, e0, e1]
     refine (Nfa.rhas_calls (Nfa.closeF s (Nfa.itemsTo ps bs k j)) (IntKind.i64.wrap ((bs.getD k 0) + (j : Nat))) _ (Nfa.closeF_good hg _)).mono ?_
     rintro e w'' ⟨rfl, hb⟩
     exact ⟨_, rfl, (Eng.off' hG (by rw [Bq43])), hb⟩
    ·refine Eng.plain rfl rfl fun a w' H => ?_
     exact Eng.val (w1 := w') (v := .bool (q33 && q43)) (Eng.run_and rfl rfl (G := true) (H.dep 10 34 (by kernel_rfl) rfl) (fun hb => (Eng.on (H.dep 19 43 (by kernel_rfl) rfl) (Eng.mk1 hb)))) (Below.refl _ _) (by show _ = Value.bool q44; rw [Bq44])
   intro act11 w11 T
   have h0_11 := (T.rest 0 (by kernel_rfl)).trans h0_9
   have h1_11 := (T.rest 1 (by kernel_rfl)).trans h1_9
   have h2_11 := (T.rest 2 (by kernel_rfl)).trans h2_9
   have h3_11 := (T.rest 3 (by kernel_rfl)).trans h3_9
   have h4_11 := (T.rest 4 (by kernel_rfl)).trans h4_9
   have h5_11 := (T.rest 5 (by kernel_rfl)).trans h5_9
   have h6_11 := (T.rest 6 (by kernel_rfl)).trans h6_9
   have h11_11 := (T.rest 11 (by kernel_rfl)).trans h11_9
   have kg2_1_11 := (T.below.block _ lg2_1_9).trans kg2_1_9
   have lg2_1_11 := Nat.lt_of_lt_of_le lg2_1_9 T.below.size
   have kg3_1_11 := (T.below.block _ lg3_1_9).trans kg3_1_9
   have lg3_1_11 := Nat.lt_of_lt_of_le lg3_1_9 T.below.size
   have kg4_1_11 := (T.below.block _ lg4_1_9).trans kg4_1_9
   have lg4_1_11 := Nat.lt_of_lt_of_le lg4_1_9 T.below.size
   have Fbb_11 := Eng.Reads.below Fbb_9 T.below
   have h44_11 : act11.eval (.tmp 44) = .bool q44 := T.done 20 44 rfl rfl
   have d11 := T.defers.trans d9
   have s11 := T.size.trans s9
   have bl11 := bl9.trans (T.below.mono bl9.size)
   clear T
   refine Eng.tail_nil ?_
   refine wp_cond_split h44_11 (fun hq => ?_) (fun hq => ?_)
   ·
    have c44 := Bq44.symm.trans hq
    clear hq
    have hon := c44
    rw [Bq33, Bq43] at hon
    refine Eng.regionD (Eng.still [fun u_ => u_ = .agg ((List.map (Value.int .u64) (Nfa.closeF s (Nfa.itemsTo ps bs k j))).toArray), fun u_ => u_ = .pointer (some ⟨g2_1, 1, none⟩), fun u_ => u_ = bv, fun u_ => u_ = .int .i64 (k : Nat), fun u_ => u_ = Eng.elemPtr bv (k * 1), fun u_ => u_ = .int .i64 (bs.getD k 0), fun u_ => u_ = .int .i64 (j : Nat), fun u_ => u_ = .int .i64 (IntKind.i64.wrap ((bs.getD k 0) + (j : Nat))), fun u_ => u_ = .int .i64 (IntKind.i64.wrap ((IntKind.i64.wrap ((bs.getD k 0) + (j : Nat))) + 1)), fun u_ => u_ = .agg ((List.map (Value.int .u64) (Nfa.put (Nfa.closeF s (Nfa.itemsTo ps bs k j)) (IntKind.i64.wrap ((IntKind.i64.wrap ((bs.getD k 0) + (j : Nat))) + 1)))).toArray)]) (fun _ => .plain) 10 1 56 (by kernel_rfl) s11 rfl (by kernel_rfl) (Eng.still_stable _) (Or.inr (Eng.still_any _)) ?_ ?_
    ·refine Eng.Steps.cons (fun _ => ?_) (Eng.Steps.cons (fun _ => ?_) (Eng.Steps.cons (fun _ => ?_) (Eng.Steps.cons (fun _ => ?_) (Eng.Steps.cons (fun _ => ?_) (Eng.Steps.cons (fun _ => ?_) (Eng.Steps.cons (fun _ => ?_) (Eng.Steps.cons (fun _ => ?_) (Eng.Steps.cons (fun _ => ?_) (Eng.Steps.cons (fun _ => ?_) (Eng.Steps.cons (fun hlt => ?_) (Eng.Steps.nil)))))))))))
     ·refine Eng.plain rfl rfl fun a w' H => ?_
      have kb := (H.below.block _ lg3_1_11).trans kg3_1_11
      refine Eng.val (w1 := w') (v := .agg ((List.map (Value.int .u64) (Nfa.closeF s (Nfa.itemsTo ps bs k j))).toArray)) ?_ (Below.refl _ _) rfl
      exact Eng.run_load_all rfl ((H.kept 3 (by kernel_rfl)).trans h3_11) kb Tryd.underlying61 rfl (by rw [Nfa.cells_size ((Nfa.closeF_good hg _).len)]; kernel_rfl)
     ·refine Eng.plain rfl rfl fun a w' H => ?_
      refine Eng.val (w1 := w') (v := .pointer (some ⟨g2_1, 1, none⟩)) ?_ (Below.refl _ _) rfl
      have e0 := ((H.kept 2 (by kernel_rfl)).trans h2_11)
      simp only [execOp, resolve, e0]
      go_simp
     ·refine Eng.plain rfl rfl fun a w' H => ?_
      have kb := (H.below.block _ lg2_1_11).trans kg2_1_11
      have z0 : w'.cell? ⟨g2_1, 1, none⟩ = some (bv) := (Eng.cells kb 1).trans rfl
      refine Eng.val (w1 := w') (v := bv) ?_ (Below.refl _ _) rfl
      have e0 : a.eval (.tmp 46) = .pointer (some ⟨g2_1, 1, none⟩) := (H.dep 1 46 (by kernel_rfl) rfl)
      simp only [execOp, resolve, e0]
      go_simp
     ·refine Eng.plain rfl rfl fun a w' H => ?_
      exact Eng.val (w1 := w') (v := .int .i64 (k : Nat)) (Eng.run_move rfl ((H.kept 5 (by kernel_rfl)).trans h5_11)) (Below.refl _ _) rfl
     ·refine Eng.plain rfl rfl fun a w' H => ?_
      refine Eng.val (w1 := w') (v := Eng.elemPtr bv (k * 1)) ?_ (Below.refl _ _) rfl
      exact Eng.run_index_sl rfl Tryd.underlying63 (by kernel_rfl) (show a.eval (.tmp 47) = bv from (H.dep 2 47 (by kernel_rfl) rfl)) ((show a.eval (.tmp 48) = .int .i64 (k : Nat) from (H.dep 3 48 (by kernel_rfl) rfl)).trans (congrArg (Value.int _) (show (k : Nat) = ((k : Nat) : Int) from by omega))) (Eng.Reads.below Fbb_11 H.below) (by omega) rfl
     ·refine Eng.plain rfl rfl fun a w' H => ?_
      refine Eng.val (w1 := w') (v := .int .i64 (bs.getD k 0)) ?_ (Below.refl _ _) rfl
      exact Eng.run_load_el (.int .i64 (bs.getD k 0)) rfl (show a.eval (.tmp 49) = Eng.elemPtr bv (k * 1) from (H.dep 4 49 (by kernel_rfl) rfl)) (Eng.Reads.below Fbb_11 H.below) (Nfa.ints_at bs k (by omega)) (by kernel_rfl)
     ·refine Eng.plain rfl rfl fun a w' H => ?_
      exact Eng.val (w1 := w') (v := .int .i64 (j : Nat)) (Eng.run_move rfl ((H.kept 6 (by kernel_rfl)).trans h6_11)) (Below.refl _ _) rfl
     ·refine Eng.plain rfl rfl fun a w' H => ?_
      refine Eng.val (w1 := w') (v := .int .i64 (IntKind.i64.wrap ((bs.getD k 0) + (j : Nat)))) ?_ (Below.refl _ _) rfl
      have e0 : a.eval (.tmp 50) = .int .i64 (bs.getD k 0) := (H.dep 5 50 (by kernel_rfl) rfl)
      have e1 : a.eval (.tmp 51) = .int .i64 (j : Nat) := (H.dep 6 51 (by kernel_rfl) rfl)
      simp only [execOp, resolve, e0, e1]
      go_simp
     ·refine Eng.plain rfl rfl fun a w' H => ?_
      refine Eng.val (w1 := w') (v := .int .i64 (IntKind.i64.wrap ((IntKind.i64.wrap ((bs.getD k 0) + (j : Nat))) + 1))) ?_ (Below.refl _ _) rfl
      have e0 : a.eval (.tmp 52) = .int .i64 (IntKind.i64.wrap ((bs.getD k 0) + (j : Nat))) := (H.dep 7 52 (by kernel_rfl) rfl)
      have e1 : a.eval (.const (.int .i64 1)) = .int .i64 1 := (rfl : a.eval (.const (.int .i64 1)) = .int .i64 1)
      simp only [execOp, resolve, e0, e1]
      go_simp
     ·refine Eng.plain rfl rfl fun a w' H => ?_
      refine Eng.call Tryd.func113 (by kernel_rfl) (by kernel_rfl) rfl #[.agg ((List.map (Value.int .u64) (Nfa.closeF s (Nfa.itemsTo ps bs k j))).toArray), .int .i64 (IntKind.i64.wrap ((IntKind.i64.wrap ((bs.getD k 0) + (j : Nat))) + 1))] ?_ ?_
      ·have e0 : a.eval (.tmp 45) = .agg ((List.map (Value.int .u64) (Nfa.closeF s (Nfa.itemsTo ps bs k j))).toArray) := (H.dep 0 45 (by kernel_rfl) rfl); have e1 : a.eval (.tmp 53) = .int .i64 (IntKind.i64.wrap ((IntKind.i64.wrap ((bs.getD k 0) + (j : Nat))) + 1)) := (H.dep 8 53 (by kernel_rfl) rfl); simp only [List.map_toArray, List.map_cons, List.map_nil, e0, e1]
      refine (Nfa.with_calls (Nfa.closeF s (Nfa.itemsTo ps bs k j)) (IntKind.i64.wrap ((IntKind.i64.wrap ((bs.getD k 0) + (j : Nat))) + 1)) _ (Nfa.closeF_good hg _) (hL.next hk0 hj0).1 (hL.next hk0 hj0).2).mono ?_
      rintro e w'' ⟨rfl, hb⟩
      exact ⟨_, rfl, rfl, hb⟩
     ·exact absurd hlt (by decide)
    intro act13 w13 T
    have h0_13 := (T.rest 0 (by kernel_rfl)).trans h0_11
    have h1_13 := (T.rest 1 (by kernel_rfl)).trans h1_11
    have h2_13 := (T.rest 2 (by kernel_rfl)).trans h2_11
    have h3_13 := (T.rest 3 (by kernel_rfl)).trans h3_11
    have h4_13 := (T.rest 4 (by kernel_rfl)).trans h4_11
    have h5_13 := (T.rest 5 (by kernel_rfl)).trans h5_11
    have h6_13 := (T.rest 6 (by kernel_rfl)).trans h6_11
    have h11_13 := (T.rest 11 (by kernel_rfl)).trans h11_11
    have kg2_1_13 := (T.below.block _ lg2_1_11).trans kg2_1_11
    have lg2_1_13 := Nat.lt_of_lt_of_le lg2_1_11 T.below.size
    have kg3_1_13 := (T.below.block _ lg3_1_11).trans kg3_1_11
    have lg3_1_13 := Nat.lt_of_lt_of_le lg3_1_11 T.below.size
    have kg4_1_13 := (T.below.block _ lg4_1_11).trans kg4_1_11
    have lg4_1_13 := Nat.lt_of_lt_of_le lg4_1_11 T.below.size
    have h54_13 : act13.eval (.tmp 54) = .agg ((List.map (Value.int .u64) (Nfa.put (Nfa.closeF s (Nfa.itemsTo ps bs k j)) (IntKind.i64.wrap ((IntKind.i64.wrap ((bs.getD k 0) + (j : Nat))) + 1)))).toArray) := T.done 9 54 rfl rfl
    have d13 := T.defers.trans d11
    have s13 := T.size.trans s11
    have bl13 := bl11.trans (T.below.mono bl11.size)
    clear T
    refine Eng.tail_arr rfl rfl rfl rfl h3_13 h54_13 kg3_1_13 (by rw [Nfa.cells_size ((Nfa.good_put (Nfa.closeF_good hg _) _).len)]; kernel_rfl) ((Nfa.cells_size ((Nfa.closeF_good hg _).len)).trans (Nfa.cells_size ((Nfa.good_put (Nfa.closeF_good hg _) _).len)).symm) (by first | exact Nfa.ones_u _ | simp [Value.oneCell']) fun w14 S => ?_
    have kg2_1_14 := (S.far _ ne_g3_1_g2_1).trans kg2_1_13
    have lg2_1_14 := Nat.lt_of_lt_of_eq lg2_1_13 S.size.symm
    have kg3_1_14 := S.new
    have lg3_1_14 := Nat.lt_of_lt_of_eq lg3_1_13 S.size.symm
    have kg4_1_14 := (S.far _ ne_g4_1_g3_1.symm).trans kg4_1_13
    have lg4_1_14 := Nat.lt_of_lt_of_eq lg4_1_13 S.size.symm
    have bl14 := S.below bl13 og3_1
    clear S
    refine Eng.tail_nil ?_
    refine Eng.regionS (Eng.still [fun u_ => u_ = .int .i64 (j : Nat), fun u_ => u_ = .int .i64 (IntKind.i64.wrap ((j : Nat) + 1)), fun u_ => u_ = .int .i64 (IntKind.i64.wrap ((j : Nat) + 1))]) (fun _ => .plain) 3 0 56 s13 rfl (by kernel_rfl) (Eng.still_stable _) (Or.inr (Eng.still_any _)) ?_ ?_
    ·refine Eng.Steps.cons (fun _ => ?_) (Eng.Steps.cons (fun _ => ?_) (Eng.Steps.cons (fun _ => ?_) (Eng.Steps.nil)))
     ·refine Eng.plain rfl rfl fun a w' H => ?_
      exact Eng.val (w1 := w') (v := .int .i64 (j : Nat)) (Eng.run_move rfl ((H.kept 6 (by kernel_rfl)).trans h6_13)) (Below.refl _ _) rfl
     ·refine Eng.plain rfl rfl fun a w' H => ?_
      refine Eng.val (w1 := w') (v := .int .i64 (IntKind.i64.wrap ((j : Nat) + 1))) ?_ (Below.refl _ _) rfl
      have e0 : a.eval (.tmp 22) = .int .i64 (j : Nat) := (H.dep 0 22 (by kernel_rfl) rfl)
      have e1 : a.eval (.const (.int .i64 1)) = .int .i64 1 := (rfl : a.eval (.const (.int .i64 1)) = .int .i64 1)
      simp only [execOp, resolve, e0, e1]
      go_simp
     ·refine Eng.plain rfl rfl fun a w' H => ?_
      exact Eng.val (w1 := w') (v := .int .i64 (IntKind.i64.wrap ((j : Nat) + 1))) (Eng.run_assign rfl (H.dep 1 23 (by kernel_rfl) rfl)) (Below.refl _ _) rfl
    intro act15 w15 T
    have h0_15 := (T.rest 0 (by kernel_rfl)).trans h0_13
    have h1_15 := (T.rest 1 (by kernel_rfl)).trans h1_13
    have h2_15 := (T.rest 2 (by kernel_rfl)).trans h2_13
    have h3_15 := (T.rest 3 (by kernel_rfl)).trans h3_13
    have h4_15 := (T.rest 4 (by kernel_rfl)).trans h4_13
    have h5_15 := (T.rest 5 (by kernel_rfl)).trans h5_13
    have h11_15 := (T.rest 11 (by kernel_rfl)).trans h11_13
    have kg2_1_15 := (T.below.block _ lg2_1_14).trans kg2_1_14
    have lg2_1_15 := Nat.lt_of_lt_of_le lg2_1_14 T.below.size
    have kg3_1_15 := (T.below.block _ lg3_1_14).trans kg3_1_14
    have lg3_1_15 := Nat.lt_of_lt_of_le lg3_1_14 T.below.size
    have kg4_1_15 := (T.below.block _ lg4_1_14).trans kg4_1_14
    have lg4_1_15 := Nat.lt_of_lt_of_le lg4_1_14 T.below.size
    have h6_15 : act15.eval (.tmp 6) = .int .i64 (IntKind.i64.wrap ((j : Nat) + 1)) := T.done 2 6 rfl rfl
    have d15 := T.defers.trans d13
    have s15 := T.size.trans s13
    have bl15 := bl14.trans (T.below.mono bl14.size)
    clear T
    refine Eng.tail_nil ?_
    exact ⟨_, by omega, j + 1, rfl, by omega, d15, s15, bl15, h0_15, h1_15, h2_15, h3_15, h4_15, h5_15, (h6_15.trans (by first | rfl | (congr 1; rw [Eng.i64_id (by omega) (by omega)]; omega) | (simp; done))), h11_15, kg2_1_15, lg2_1_15, (kg3_1_15.trans (by first | rfl | (rw [Nfa.close_on hkb hon]; done) | (rw [Nfa.close_off hkb hon]; done))), lg3_1_15, kg4_1_15, lg4_1_15⟩
   ·
    have c44 := Bq44.symm.trans hq
    clear hq
    have hon := c44
    rw [Bq33, Bq43] at hon
    refine wp_skip ?_
    refine Eng.regionS (Eng.still [fun u_ => u_ = .int .i64 (j : Nat), fun u_ => u_ = .int .i64 (IntKind.i64.wrap ((j : Nat) + 1)), fun u_ => u_ = .int .i64 (IntKind.i64.wrap ((j : Nat) + 1))]) (fun _ => .plain) 3 0 56 s11 rfl (by kernel_rfl) (Eng.still_stable _) (Or.inr (Eng.still_any _)) ?_ ?_
    ·refine Eng.Steps.cons (fun _ => ?_) (Eng.Steps.cons (fun _ => ?_) (Eng.Steps.cons (fun _ => ?_) (Eng.Steps.nil)))
     ·refine Eng.plain rfl rfl fun a w' H => ?_
      exact Eng.val (w1 := w') (v := .int .i64 (j : Nat)) (Eng.run_move rfl ((H.kept 6 (by kernel_rfl)).trans h6_11)) (Below.refl _ _) rfl
     ·refine Eng.plain rfl rfl fun a w' H => ?_
      refine Eng.val (w1 := w') (v := .int .i64 (IntKind.i64.wrap ((j : Nat) + 1))) ?_ (Below.refl _ _) rfl
      have e0 : a.eval (.tmp 22) = .int .i64 (j : Nat) := (H.dep 0 22 (by kernel_rfl) rfl)
      have e1 : a.eval (.const (.int .i64 1)) = .int .i64 1 := (rfl : a.eval (.const (.int .i64 1)) = .int .i64 1)
      simp only [execOp, resolve, e0, e1]
      go_simp
     ·refine Eng.plain rfl rfl fun a w' H => ?_
      exact Eng.val (w1 := w') (v := .int .i64 (IntKind.i64.wrap ((j : Nat) + 1))) (Eng.run_assign rfl (H.dep 1 23 (by kernel_rfl) rfl)) (Below.refl _ _) rfl
    intro act17 w17 T
    have h0_17 := (T.rest 0 (by kernel_rfl)).trans h0_11
    have h1_17 := (T.rest 1 (by kernel_rfl)).trans h1_11
    have h2_17 := (T.rest 2 (by kernel_rfl)).trans h2_11
    have h3_17 := (T.rest 3 (by kernel_rfl)).trans h3_11
    have h4_17 := (T.rest 4 (by kernel_rfl)).trans h4_11
    have h5_17 := (T.rest 5 (by kernel_rfl)).trans h5_11
    have h11_17 := (T.rest 11 (by kernel_rfl)).trans h11_11
    have kg2_1_17 := (T.below.block _ lg2_1_11).trans kg2_1_11
    have lg2_1_17 := Nat.lt_of_lt_of_le lg2_1_11 T.below.size
    have kg3_1_17 := (T.below.block _ lg3_1_11).trans kg3_1_11
    have lg3_1_17 := Nat.lt_of_lt_of_le lg3_1_11 T.below.size
    have kg4_1_17 := (T.below.block _ lg4_1_11).trans kg4_1_11
    have lg4_1_17 := Nat.lt_of_lt_of_le lg4_1_11 T.below.size
    have h6_17 : act17.eval (.tmp 6) = .int .i64 (IntKind.i64.wrap ((j : Nat) + 1)) := T.done 2 6 rfl rfl
    have d17 := T.defers.trans d11
    have s17 := T.size.trans s11
    have bl17 := bl11.trans (T.below.mono bl11.size)
    clear T
    refine Eng.tail_nil ?_
    exact ⟨_, by omega, j + 1, rfl, by omega, d17, s17, bl17, h0_17, h1_17, h2_17, h3_17, h4_17, h5_17, (h6_17.trans (by first | rfl | (congr 1; rw [Eng.i64_id (by omega) (by omega)]; omega) | (simp; done))), h11_17, kg2_1_17, lg2_1_17, (kg3_1_17.trans (by first | rfl | (rw [Nfa.close_on hkb hon]; done) | (rw [Nfa.close_off hkb hon]; done))), lg3_1_17, kg4_1_17, lg4_1_17⟩
  ·
   have c21 := Bq21.symm.trans hq
   clear hq
   have c21 := of_decide_eq_false c21
   have hje : j = (ps.getD k []).length := by omega
   refine wp_exit ?_
   refine Eng.regionS (Eng.still [fun u_ => u_ = .int .i64 (k : Nat), fun u_ => u_ = .int .i64 (IntKind.i64.wrap ((k : Nat) + 1)), fun u_ => u_ = .int .i64 (IntKind.i64.wrap ((k : Nat) + 1))]) (fun _ => .plain) 3 0 56 s9 rfl (by kernel_rfl) (Eng.still_stable _) (Or.inr (Eng.still_any _)) ?_ ?_
   ·refine Eng.Steps.cons (fun _ => ?_) (Eng.Steps.cons (fun _ => ?_) (Eng.Steps.cons (fun _ => ?_) (Eng.Steps.nil)))
    ·refine Eng.plain rfl rfl fun a w' H => ?_
     exact Eng.val (w1 := w') (v := .int .i64 (k : Nat)) (Eng.run_move rfl ((H.kept 5 (by kernel_rfl)).trans h5_9)) (Below.refl _ _) rfl
    ·refine Eng.plain rfl rfl fun a w' H => ?_
     refine Eng.val (w1 := w') (v := .int .i64 (IntKind.i64.wrap ((k : Nat) + 1))) ?_ (Below.refl _ _) rfl
     have e0 : a.eval (.tmp 12) = .int .i64 (k : Nat) := (H.dep 0 12 (by kernel_rfl) rfl)
     have e1 : a.eval (.const (.int .i64 1)) = .int .i64 1 := (rfl : a.eval (.const (.int .i64 1)) = .int .i64 1)
     simp only [execOp, resolve, e0, e1]
     go_simp
    ·refine Eng.plain rfl rfl fun a w' H => ?_
     exact Eng.val (w1 := w') (v := .int .i64 (IntKind.i64.wrap ((k : Nat) + 1))) (Eng.run_assign rfl (H.dep 1 13 (by kernel_rfl) rfl)) (Below.refl _ _) rfl
   intro act19 w19 T
   have h0_19 := (T.rest 0 (by kernel_rfl)).trans h0_9
   have h1_19 := (T.rest 1 (by kernel_rfl)).trans h1_9
   have h2_19 := (T.rest 2 (by kernel_rfl)).trans h2_9
   have h3_19 := (T.rest 3 (by kernel_rfl)).trans h3_9
   have h4_19 := (T.rest 4 (by kernel_rfl)).trans h4_9
   have kg2_1_19 := (T.below.block _ lg2_1_9).trans kg2_1_9
   have lg2_1_19 := Nat.lt_of_lt_of_le lg2_1_9 T.below.size
   have kg3_1_19 := (T.below.block _ lg3_1_9).trans kg3_1_9
   have lg3_1_19 := Nat.lt_of_lt_of_le lg3_1_9 T.below.size
   have kg4_1_19 := (T.below.block _ lg4_1_9).trans kg4_1_9
   have lg4_1_19 := Nat.lt_of_lt_of_le lg4_1_9 T.below.size
   have h5_19 : act19.eval (.tmp 5) = .int .i64 (IntKind.i64.wrap ((k : Nat) + 1)) := T.done 2 5 rfl rfl
   have d19 := T.defers.trans d9
   have s19 := T.size.trans s9
   have bl19 := bl9.trans (T.below.mono bl9.size)
   clear T
   refine Eng.tail_nil ?_
   exact ⟨_, by omega, k + 1, rfl, by omega, d19, s19, bl19, h0_19, h1_19, h2_19, h3_19, h4_19, (h5_19.trans (by first | rfl | (congr 1; rw [Eng.i64_id (by omega) (by omega)]; omega) | (simp; done))), kg2_1_19, lg2_1_19, (kg3_1_19.trans (by first | rfl | (rw [Nfa.itemsTo_zero]; rfl) | (rw [← Nfa.itemsTo_end, hje]; done) | (rw [hje, Nfa.itemsTo_end]; done))), lg3_1_19, kg4_1_19, lg4_1_19⟩
 ·
  have c11 := Bq11.symm.trans hq
  clear hq
  have c11 := of_decide_eq_false c11
  refine wp_exit ?_
  refine wp_seq ?_
  refine Eng.regionS (Eng.still [fun u_ => u_ = .agg ((List.map (Value.int .u64) (Nfa.closeF s (Nfa.itemsTo ps bs k 0))).toArray)]) (fun _ => .plain) 1 1 56 s4 rfl (by kernel_rfl) (Eng.still_stable _) (Or.inr (Eng.still_any _)) ?_ ?_
  ·refine Eng.Steps.cons (fun _ => ?_) (Eng.Steps.cons (fun hlt => ?_) (Eng.Steps.nil))
   ·refine Eng.plain rfl rfl fun a w' H => ?_
    have kb := (H.below.block _ lg3_1_4).trans kg3_1_4
    refine Eng.val (w1 := w') (v := .agg ((List.map (Value.int .u64) (Nfa.closeF s (Nfa.itemsTo ps bs k 0))).toArray)) ?_ (Below.refl _ _) rfl
    exact Eng.run_load_all rfl ((H.kept 3 (by kernel_rfl)).trans h3_4) kb Tryd.underlying61 rfl (by rw [Nfa.cells_size ((Nfa.closeF_good hg _).len)]; kernel_rfl)
   ·exact absurd hlt (by decide)
  intro act21 w21 T
  have h4_21 := (T.rest 4 (by kernel_rfl)).trans h4_4
  have kg4_1_21 := (T.below.block _ lg4_1_4).trans kg4_1_4
  have h55_21 : act21.eval (.tmp 55) = .agg ((List.map (Value.int .u64) (Nfa.closeF s (Nfa.itemsTo ps bs k 0))).toArray) := T.done 0 55 rfl rfl
  have d21 := T.defers.trans d4
  have bl21 := bl4.trans (T.below.mono bl4.size)
  clear T
  refine Eng.tail_arr rfl rfl rfl rfl h4_21 h55_21 kg4_1_21 (by rw [Nfa.cells_size ((Nfa.closeF_good hg _).len)]; kernel_rfl) ((Nfa.cells_size ((Nfa.good0).len)).trans (Nfa.cells_size ((Nfa.closeF_good hg _).len)).symm) (by first | exact Nfa.ones_u _ | simp [Value.oneCell']) fun w22 S => ?_
  have kg4_1_22 := S.new
  have bl22 := S.below bl21 og4_1
  clear S
  refine Eng.tail_nil ?_
  refine wp_ret ?_
  repeat (first | refine Eng.in_ret ?_ | refine Eng.then_ret ?_)
  obtain rfl : k = ps.length := by omega
  have kk : w22.heap[g4_1]? = some (.cells (List.map (Value.int .u64) (Nfa.closeF s (Nfa.items ps bs))).toArray 61 (0, 0)) := kg4_1_22.trans (by rw [Nfa.itemsTo_all])
  exact Eng.retc rfl d21 h4_21 kk Tryd.underlying61 rfl (by rw [Nfa.cells_size (Nfa.closeF_good hg _).len]; kernel_rfl) ⟨rfl, bl22⟩
end Go.Proofs.YthgafcaoibfchaaDoor.X
end
