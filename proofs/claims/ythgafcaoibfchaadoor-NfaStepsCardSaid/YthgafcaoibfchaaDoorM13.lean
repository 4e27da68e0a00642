/- Words and walks that the row of NfaSteps needs: printed by programs, and plain laws. -/
import Derived.Test.YthgafcaoibfchaaDoorM3
import Derived.Test.YthgafcaoibfchaaDoorM4
section
namespace Go.Proofs.YthgafcaoibfchaaDoor.X
open Go.RowKit Go.Shelf Go.Proofs Go.Proofs.YthgafcaoibfchaaDoorW.PrintWords Go.Proofs.YthgafcaoibfchaaDoorW.PrintLast Go.Proofs.YthgafcaoibfchaaDoorW.PrintMore
set_option linter.unusedVariables false
set_option linter.unusedSimpArgs false
attribute [local go_sem] max2_int min2_int max_two min_two
set_option maxHeartbeats 4000000 in
set_option maxRecDepth 100000 in
theorem Nfa.grow_calls (n : Nat) (w : World) (hn : n ≤ 1000000000000) : Calls Tryd.prog 92 #[.slice none 0 0, .int .i64 (n : Nat)] w fun e w' => ∃ v, e = .returned v ∧ w'.ownsRow w.heap.size 9 1 v 0 (Nfa.strs []) ∧ Below w.heap.size w w' := by
  refine Eng.enter Tryd.func92 rfl fun act0 d0 s0 v0 => ?_
  have s0 : act0.tmps.size = 27 := s0
  have h0_0 : act0.eval (.tmp 0) = .slice none 0 0 := v0 0 (by simp)
  have h1_0 : act0.eval (.tmp 1) = .int .i64 (n : Nat) := v0 1 (by simp)
  clear v0
  have bl0 : Below w.heap.size w w := Below.refl _ _
  refine wp_seq ?_
  refine Eng.regionS (Eng.still [fun u_ => u_ = .slice none 0 0]) (fun i => ([.plain] : List Eng.Kind).getD i .plain) 1 0 27 s0 rfl (by kernel_rfl) (Eng.still_stable _) (Or.inr (Eng.still_any _)) ?_ ?_
  · refine Eng.Steps.cons (fun _ => ?_) (Eng.Steps.nil)
    · refine Eng.plain rfl rfl fun a w' H => ?_
      exact Eng.val (w1 := w') (v := .slice none 0 0) (Eng.run_assign rfl (rfl : a.eval (.const (.slice none 0 0)) = .slice none 0 0)) (Below.refl _ _) rfl
  intro act1 w1 T
  have h0_1 : act1.eval (.tmp 0) = .slice none 0 0 := (T.rest 0 (by kernel_rfl)).trans h0_0
  have h1_1 : act1.eval (.tmp 1) = .int .i64 (n : Nat) := (T.rest 1 (by kernel_rfl)).trans h1_0
  have h4_1 : act1.eval (.tmp 4) = .slice none 0 0 := T.done 0 4 rfl rfl
  have d1 := T.defers.trans d0
  have s1 := T.size.trans s0
  have bl1 := bl0.trans (T.below.mono bl0.size)
  clear T
  refine Eng.tail_nil ?_
  first | show Code.wp Tryd.prog _ _ _ _ | skip
  refine wp_seq ?_
  refine wp_seq ?_
  obtain ⟨q6, Bq6⟩ : ∃ b : Bool, b = (decide ((n : Nat) < 0)) := ⟨_, rfl⟩
  refine Eng.regionS (Eng.still [fun u_ => u_ = .int .i64 (n : Nat), fun u_ => u_ = .bool q6]) (fun i => ([.plain, .plain] : List Eng.Kind).getD i .plain) 2 0 27 s1 rfl (by kernel_rfl) (Eng.still_stable _) (Or.inr (Eng.still_any _)) ?_ ?_
  · refine Eng.Steps.cons (fun _ => ?_) (Eng.Steps.cons (fun _ => ?_) (Eng.Steps.nil))
    · refine Eng.plain rfl rfl fun a w' H => ?_
      exact Eng.val (w1 := w') (v := .int .i64 (n : Nat)) (Eng.run_move rfl ((H.kept 1 (by kernel_rfl)).trans h1_1)) (Below.refl _ _) rfl
    · refine Eng.plain rfl rfl fun a w' H => ?_
      refine Eng.val (w1 := w') (v := .bool (decide ((n : Nat) < 0))) ?_ (Below.refl _ _) (by show _ = Value.bool q6; rw [Bq6])
      have e0 : a.eval (.tmp 5) = .int .i64 (n : Nat) := (H.dep 0 5 (by kernel_rfl) rfl)
      have e1 : a.eval (.const (.int .i64 0)) = .int .i64 0 := (rfl : a.eval (.const (.int .i64 0)) = .int .i64 0)
      simp only [execOp, resolve, List.map_toArray, List.map_cons, List.map_nil, e0, e1]
      go_simp
      all_goals first | rfl | (simp; done) | (rw [Bool.eq_iff_iff]; simp; done) | omega | skip
  intro act2 w2 T
  have h0_2 : act2.eval (.tmp 0) = .slice none 0 0 := (T.rest 0 (by kernel_rfl)).trans h0_1
  have h1_2 : act2.eval (.tmp 1) = .int .i64 (n : Nat) := (T.rest 1 (by kernel_rfl)).trans h1_1
  have h4_2 : act2.eval (.tmp 4) = .slice none 0 0 := (T.rest 4 (by kernel_rfl)).trans h4_1
  have h6_2 : act2.eval (.tmp 6) = .bool q6 := T.done 1 6 rfl rfl
  have d2 := T.defers.trans d1
  have s2 := T.size.trans s1
  have bl2 := bl1.trans (T.below.mono bl1.size)
  clear T
  refine Eng.tail_nil ?_
  first | show Code.wp Tryd.prog _ _ _ _ | skip
  have n6 : q6 = false := by
    try simp only [Bq6]
    have : ¬ ((n : Int) < 0) := by omega
    simp [this]
  refine wp_cond_false (h6_2.trans (by rw [n6])) ?_
  refine wp_skip ?_
  first | show Code.wp Tryd.prog _ _ _ _ | skip
  refine wp_seq ?_
  refine wp_seq ?_
  refine Eng.regionS (Eng.still [fun u_ => u_ = .int .i64 (n : Nat), fun u_ => u_ = .slice none 0 0, fun u_ => u_ = .int .i64 0, fun u_ => u_ = .slice none 0 0, fun u_ => u_ = .int .i64 0, fun u_ => u_ = .int .i64 (IntKind.i64.wrap (0 - 0)), fun u_ => u_ = .int .i64 (IntKind.i64.wrap ((n : Nat) - (IntKind.i64.wrap (0 - 0)))), fun u_ => u_ = .int .i64 (IntKind.i64.wrap ((n : Nat) - (IntKind.i64.wrap (0 - 0))))]) (fun i => ([.plain, .plain, .plain, .plain, .plain, .plain, .plain, .plain] : List Eng.Kind).getD i .plain) 8 0 27 s2 rfl (by kernel_rfl) (Eng.still_stable _) (Or.inr (Eng.still_any _)) ?_ ?_
  · refine Eng.Steps.cons (fun _ => ?_) (Eng.Steps.cons (fun _ => ?_) (Eng.Steps.cons (fun _ => ?_) (Eng.Steps.cons (fun _ => ?_) (Eng.Steps.cons (fun _ => ?_) (Eng.Steps.cons (fun _ => ?_) (Eng.Steps.cons (fun _ => ?_) (Eng.Steps.cons (fun _ => ?_) (Eng.Steps.nil))))))))
    · refine Eng.plain rfl rfl fun a w' H => ?_
      exact Eng.val (w1 := w') (v := .int .i64 (n : Nat)) (Eng.run_move rfl ((H.kept 1 (by kernel_rfl)).trans h1_2)) (Below.refl _ _) rfl
    · refine Eng.plain rfl rfl fun a w' H => ?_
      exact Eng.val (w1 := w') (v := .slice none 0 0) (Eng.run_move rfl ((H.kept 0 (by kernel_rfl)).trans h0_2)) (Below.refl _ _) rfl
    · refine Eng.plain rfl rfl fun a w' H => ?_
      exact Eng.val (w1 := w') (v := .int .i64 0) (Eng.run_cap_nil rfl Tryd.underlying43 (H.dep 1 9 (by kernel_rfl) rfl)) (Below.refl _ _) rfl
    · refine Eng.plain rfl rfl fun a w' H => ?_
      exact Eng.val (w1 := w') (v := .slice none 0 0) (Eng.run_move rfl ((H.kept 0 (by kernel_rfl)).trans h0_2)) (Below.refl _ _) rfl
    · refine Eng.plain rfl rfl fun a w' H => ?_
      exact Eng.val (w1 := w') (v := .int .i64 0) (Eng.run_len_nil rfl Tryd.underlying43 (H.dep 3 11 (by kernel_rfl) rfl)) (Below.refl _ _) rfl
    · refine Eng.plain rfl rfl fun a w' H => ?_
      refine Eng.val (w1 := w') (v := .int .i64 (IntKind.i64.wrap (0 - 0))) ?_ (Below.refl _ _) rfl
      have e0 : a.eval (.tmp 10) = .int .i64 0 := (H.dep 2 10 (by kernel_rfl) rfl)
      have e1 : a.eval (.tmp 12) = .int .i64 0 := (H.dep 4 12 (by kernel_rfl) rfl)
      simp only [execOp, resolve, List.map_toArray, List.map_cons, List.map_nil, e0, e1]
      go_simp
      all_goals first | rfl | (simp; done) | (rw [Bool.eq_iff_iff]; simp; done) | omega | skip
    · refine Eng.plain rfl rfl fun a w' H => ?_
      refine Eng.val (w1 := w') (v := .int .i64 (IntKind.i64.wrap ((n : Nat) - (IntKind.i64.wrap (0 - 0))))) ?_ (Below.refl _ _) rfl
      have e0 : a.eval (.tmp 8) = .int .i64 (n : Nat) := (H.dep 0 8 (by kernel_rfl) rfl)
      have e1 : a.eval (.tmp 13) = .int .i64 (IntKind.i64.wrap (0 - 0)) := (H.dep 5 13 (by kernel_rfl) rfl)
      simp only [execOp, resolve, List.map_toArray, List.map_cons, List.map_nil, e0, e1]
      go_simp
      all_goals first | rfl | (simp; done) | (rw [Bool.eq_iff_iff]; simp; done) | omega | skip
    · refine Eng.plain rfl rfl fun a w' H => ?_
      exact Eng.val (w1 := w') (v := .int .i64 (IntKind.i64.wrap ((n : Nat) - (IntKind.i64.wrap (0 - 0))))) (Eng.run_assign rfl (H.dep 6 14 (by kernel_rfl) rfl)) (Below.refl _ _) rfl
  intro act3 w3 T
  have h0_3 : act3.eval (.tmp 0) = .slice none 0 0 := (T.rest 0 (by kernel_rfl)).trans h0_2
  have h4_3 : act3.eval (.tmp 4) = .slice none 0 0 := (T.rest 4 (by kernel_rfl)).trans h4_2
  have h6_3 : act3.eval (.tmp 6) = .bool q6 := (T.rest 6 (by kernel_rfl)).trans h6_2
  have h1_3 : act3.eval (.tmp 1) = .int .i64 (IntKind.i64.wrap ((n : Nat) - (IntKind.i64.wrap (0 - 0)))) := T.done 7 1 rfl rfl
  have d3 := T.defers.trans d2
  have s3 := T.size.trans s2
  have bl3 := bl2.trans (T.below.mono bl2.size)
  clear T
  refine Eng.tail_nil ?_
  first | show Code.wp Tryd.prog _ _ _ _ | skip
  refine wp_seq ?_
  obtain ⟨q16, Bq16⟩ : ∃ b : Bool, b = (decide ((IntKind.i64.wrap ((n : Nat) - (IntKind.i64.wrap (0 - 0)))) > 0)) := ⟨_, rfl⟩
  refine Eng.regionS (Eng.still [fun u_ => u_ = .int .i64 (IntKind.i64.wrap ((n : Nat) - (IntKind.i64.wrap (0 - 0)))), fun u_ => u_ = .bool q16]) (fun i => ([.plain, .plain] : List Eng.Kind).getD i .plain) 2 0 27 s3 rfl (by kernel_rfl) (Eng.still_stable _) (Or.inr (Eng.still_any _)) ?_ ?_
  · refine Eng.Steps.cons (fun _ => ?_) (Eng.Steps.cons (fun _ => ?_) (Eng.Steps.nil))
    · refine Eng.plain rfl rfl fun a w' H => ?_
      exact Eng.val (w1 := w') (v := .int .i64 (IntKind.i64.wrap ((n : Nat) - (IntKind.i64.wrap (0 - 0))))) (Eng.run_move rfl ((H.kept 1 (by kernel_rfl)).trans h1_3)) (Below.refl _ _) rfl
    · refine Eng.plain rfl rfl fun a w' H => ?_
      refine Eng.val (w1 := w') (v := .bool (decide ((IntKind.i64.wrap ((n : Nat) - (IntKind.i64.wrap (0 - 0)))) > 0))) ?_ (Below.refl _ _) (by show _ = Value.bool q16; rw [Bq16])
      have e0 : a.eval (.tmp 15) = .int .i64 (IntKind.i64.wrap ((n : Nat) - (IntKind.i64.wrap (0 - 0)))) := (H.dep 0 15 (by kernel_rfl) rfl)
      have e1 : a.eval (.const (.int .i64 0)) = .int .i64 0 := (rfl : a.eval (.const (.int .i64 0)) = .int .i64 0)
      simp only [execOp, resolve, List.map_toArray, List.map_cons, List.map_nil, e0, e1]
      go_simp
      all_goals first | rfl | (simp; done) | (rw [Bool.eq_iff_iff]; simp; done) | omega | skip
  intro act4 w4 T
  have h0_4 : act4.eval (.tmp 0) = .slice none 0 0 := (T.rest 0 (by kernel_rfl)).trans h0_3
  have h1_4 : act4.eval (.tmp 1) = .int .i64 (IntKind.i64.wrap ((n : Nat) - (IntKind.i64.wrap (0 - 0)))) := (T.rest 1 (by kernel_rfl)).trans h1_3
  have h4_4 : act4.eval (.tmp 4) = .slice none 0 0 := (T.rest 4 (by kernel_rfl)).trans h4_3
  have h6_4 : act4.eval (.tmp 6) = .bool q6 := (T.rest 6 (by kernel_rfl)).trans h6_3
  have h16_4 : act4.eval (.tmp 16) = .bool q16 := T.done 1 16 rfl rfl
  have d4 := T.defers.trans d3
  have s4 := T.size.trans s3
  have bl4 := bl3.trans (T.below.mono bl3.size)
  clear T
  refine Eng.tail_nil ?_
  first | show Code.wp Tryd.prog _ _ _ _ | skip
  refine wp_cond_split h16_4 (fun hq => ?_) (fun hq => ?_)
  ·
    have kn5 := hq
    have c16 := Bq16.symm.trans hq
    clear hq
    have c16 := of_decide_eq_true c16
    have hz0 : IntKind.i64.wrap (0 - 0) = 0 := by decide
    have hsub : IntKind.i64.wrap (n - IntKind.i64.wrap (0 - 0)) = ((n : Nat) : Int) := by rw [hz0, Eng.i64_id (by omega) (by omega)]; omega
    have hn0 : 0 < n := by rw [hsub] at c16; omega
    refine Eng.regionT (n := 10) rfl ?_
    refine Eng.tail_val rfl rfl rfl (Eng.run_move rfl h0_4) s4 rfl fun act6 d6 s6 hv hr => ?_
    have h0_6 : act6.eval (.tmp 0) = .slice none 0 0 := (hr 0 rfl).trans h0_4
    have h1_6 : act6.eval (.tmp 1) = .int .i64 (IntKind.i64.wrap ((n : Nat) - (IntKind.i64.wrap (0 - 0)))) := (hr 1 rfl).trans h1_4
    have h4_6 : act6.eval (.tmp 4) = .slice none 0 0 := (hr 4 rfl).trans h4_4
    have h6_6 : act6.eval (.tmp 6) = .bool q6 := (hr 6 rfl).trans h6_4
    have h16_6 : act6.eval (.tmp 16) = .bool q16 := (hr 16 rfl).trans h16_4
    have h17_6 : act6.eval (.tmp 17) = .slice none 0 0 := hv
    have d6 := d6.trans d4
    clear hv hr
    refine Eng.tail_val rfl rfl rfl (Eng.run_move rfl h0_6) s6 rfl fun act7 d7 s7 hv hr => ?_
    have h0_7 : act7.eval (.tmp 0) = .slice none 0 0 := (hr 0 rfl).trans h0_6
    have h1_7 : act7.eval (.tmp 1) = .int .i64 (IntKind.i64.wrap ((n : Nat) - (IntKind.i64.wrap (0 - 0)))) := (hr 1 rfl).trans h1_6
    have h4_7 : act7.eval (.tmp 4) = .slice none 0 0 := (hr 4 rfl).trans h4_6
    have h6_7 : act7.eval (.tmp 6) = .bool q6 := (hr 6 rfl).trans h6_6
    have h16_7 : act7.eval (.tmp 16) = .bool q16 := (hr 16 rfl).trans h16_6
    have h17_7 : act7.eval (.tmp 17) = .slice none 0 0 := (hr 17 rfl).trans h17_6
    have h18_7 : act7.eval (.tmp 18) = .slice none 0 0 := hv
    have d7 := d7.trans d6
    clear hv hr
    refine Eng.tail_val rfl rfl rfl (Eng.run_cap_nil rfl Tryd.underlying43 h18_7) s7 rfl fun act8 d8 s8 hv hr => ?_
    have h0_8 : act8.eval (.tmp 0) = .slice none 0 0 := (hr 0 rfl).trans h0_7
    have h1_8 : act8.eval (.tmp 1) = .int .i64 (IntKind.i64.wrap ((n : Nat) - (IntKind.i64.wrap (0 - 0)))) := (hr 1 rfl).trans h1_7
    have h4_8 : act8.eval (.tmp 4) = .slice none 0 0 := (hr 4 rfl).trans h4_7
    have h6_8 : act8.eval (.tmp 6) = .bool q6 := (hr 6 rfl).trans h6_7
    have h16_8 : act8.eval (.tmp 16) = .bool q16 := (hr 16 rfl).trans h16_7
    have h17_8 : act8.eval (.tmp 17) = .slice none 0 0 := (hr 17 rfl).trans h17_7
    have h18_8 : act8.eval (.tmp 18) = .slice none 0 0 := (hr 18 rfl).trans h18_7
    have h19_8 : act8.eval (.tmp 19) = .int .i64 0 := hv
    have d8 := d8.trans d7
    clear hv hr
    refine Eng.tail_val rfl rfl rfl (Eng.run_cut_nil rfl Tryd.underlying43 (by kernel_rfl) h17_8 h19_8) s8 rfl fun act9 d9 s9 hv hr => ?_
    have h0_9 : act9.eval (.tmp 0) = .slice none 0 0 := (hr 0 rfl).trans h0_8
    have h1_9 : act9.eval (.tmp 1) = .int .i64 (IntKind.i64.wrap ((n : Nat) - (IntKind.i64.wrap (0 - 0)))) := (hr 1 rfl).trans h1_8
    have h4_9 : act9.eval (.tmp 4) = .slice none 0 0 := (hr 4 rfl).trans h4_8
    have h6_9 : act9.eval (.tmp 6) = .bool q6 := (hr 6 rfl).trans h6_8
    have h16_9 : act9.eval (.tmp 16) = .bool q16 := (hr 16 rfl).trans h16_8
    have h17_9 : act9.eval (.tmp 17) = .slice none 0 0 := (hr 17 rfl).trans h17_8
    have h18_9 : act9.eval (.tmp 18) = .slice none 0 0 := (hr 18 rfl).trans h18_8
    have h19_9 : act9.eval (.tmp 19) = .int .i64 0 := (hr 19 rfl).trans h19_8
    have h20_9 : act9.eval (.tmp 20) = .slice none 0 0 := hv
    have d9 := d9.trans d8
    clear hv hr
    refine Eng.tail_val rfl rfl rfl (Eng.run_move rfl h1_9) s9 rfl fun act10 d10 s10 hv hr => ?_
    have h0_10 : act10.eval (.tmp 0) = .slice none 0 0 := (hr 0 rfl).trans h0_9
    have h1_10 : act10.eval (.tmp 1) = .int .i64 (IntKind.i64.wrap ((n : Nat) - (IntKind.i64.wrap (0 - 0)))) := (hr 1 rfl).trans h1_9
    have h4_10 : act10.eval (.tmp 4) = .slice none 0 0 := (hr 4 rfl).trans h4_9
    have h6_10 : act10.eval (.tmp 6) = .bool q6 := (hr 6 rfl).trans h6_9
    have h16_10 : act10.eval (.tmp 16) = .bool q16 := (hr 16 rfl).trans h16_9
    have h17_10 : act10.eval (.tmp 17) = .slice none 0 0 := (hr 17 rfl).trans h17_9
    have h18_10 : act10.eval (.tmp 18) = .slice none 0 0 := (hr 18 rfl).trans h18_9
    have h19_10 : act10.eval (.tmp 19) = .int .i64 0 := (hr 19 rfl).trans h19_9
    have h20_10 : act10.eval (.tmp 20) = .slice none 0 0 := (hr 20 rfl).trans h20_9
    have h21_10 : act10.eval (.tmp 21) = .int .i64 (IntKind.i64.wrap ((n : Nat) - (IntKind.i64.wrap (0 - 0)))) := hv
    have d10 := d10.trans d9
    clear hv hr
    refine Eng.tail_ex rfl rfl rfl (Eng.run_grow (z := .string ⟨#[]⟩) (size := 1) (n := n) rfl Tryd.underlying43 Tryd.underlying3 (by kernel_rfl) rfl rfl h20_10 (h21_10.trans (congrArg _ hsub)) hn0 hn) s10 rfl fun v_11 w11 act11 R d11 s11 hv hr => ?_
    obtain ⟨⟨c_11, ev_11, hnc_11, hcm_11, O_11⟩, b_11⟩ := R
    have h0_11 : act11.eval (.tmp 0) = .slice none 0 0 := (hr 0 rfl).trans h0_10
    have h1_11 : act11.eval (.tmp 1) = .int .i64 (IntKind.i64.wrap ((n : Nat) - (IntKind.i64.wrap (0 - 0)))) := (hr 1 rfl).trans h1_10
    have h4_11 : act11.eval (.tmp 4) = .slice none 0 0 := (hr 4 rfl).trans h4_10
    have h6_11 : act11.eval (.tmp 6) = .bool q6 := (hr 6 rfl).trans h6_10
    have h16_11 : act11.eval (.tmp 16) = .bool q16 := (hr 16 rfl).trans h16_10
    have h17_11 : act11.eval (.tmp 17) = .slice none 0 0 := (hr 17 rfl).trans h17_10
    have h18_11 : act11.eval (.tmp 18) = .slice none 0 0 := (hr 18 rfl).trans h18_10
    have h19_11 : act11.eval (.tmp 19) = .int .i64 0 := (hr 19 rfl).trans h19_10
    have h20_11 : act11.eval (.tmp 20) = .slice none 0 0 := (hr 20 rfl).trans h20_10
    have h21_11 : act11.eval (.tmp 21) = .int .i64 (IntKind.i64.wrap ((n : Nat) - (IntKind.i64.wrap (0 - 0)))) := (hr 21 rfl).trans h21_10
    have h22_11 : act11.eval (.tmp 22) = v_11 := hv
    have d11 := d11.trans d10
    clear hv hr
    rw [ev_11] at h22_11
    have Og := Eng.own_mono O_11 bl4.size
    have bl11 := bl4.trans (b_11.mono bl4.size)
    refine Eng.tail_val rfl rfl rfl (Eng.run_move rfl h0_11) s11 rfl fun act12 d12 s12 hv hr => ?_
    have h0_12 : act12.eval (.tmp 0) = .slice none 0 0 := (hr 0 rfl).trans h0_11
    have h1_12 : act12.eval (.tmp 1) = .int .i64 (IntKind.i64.wrap ((n : Nat) - (IntKind.i64.wrap (0 - 0)))) := (hr 1 rfl).trans h1_11
    have h4_12 : act12.eval (.tmp 4) = .slice none 0 0 := (hr 4 rfl).trans h4_11
    have h6_12 : act12.eval (.tmp 6) = .bool q6 := (hr 6 rfl).trans h6_11
    have h16_12 : act12.eval (.tmp 16) = .bool q16 := (hr 16 rfl).trans h16_11
    have h17_12 : act12.eval (.tmp 17) = .slice none 0 0 := (hr 17 rfl).trans h17_11
    have h18_12 : act12.eval (.tmp 18) = .slice none 0 0 := (hr 18 rfl).trans h18_11
    have h19_12 : act12.eval (.tmp 19) = .int .i64 0 := (hr 19 rfl).trans h19_11
    have h20_12 : act12.eval (.tmp 20) = .slice none 0 0 := (hr 20 rfl).trans h20_11
    have h21_12 : act12.eval (.tmp 21) = .int .i64 (IntKind.i64.wrap ((n : Nat) - (IntKind.i64.wrap (0 - 0)))) := (hr 21 rfl).trans h21_11
    have h22_12 : act12.eval (.tmp 22) = .slice (some ⟨w4.heap.size, 0, none⟩) n c_11 := (hr 22 rfl).trans h22_11
    have h23_12 : act12.eval (.tmp 23) = .slice none 0 0 := hv
    have d12 := d12.trans d11
    clear hv hr
    refine Eng.tail_val rfl rfl rfl (Eng.run_len_nil rfl Tryd.underlying43 h23_12) s12 rfl fun act13 d13 s13 hv hr => ?_
    have h0_13 : act13.eval (.tmp 0) = .slice none 0 0 := (hr 0 rfl).trans h0_12
    have h1_13 : act13.eval (.tmp 1) = .int .i64 (IntKind.i64.wrap ((n : Nat) - (IntKind.i64.wrap (0 - 0)))) := (hr 1 rfl).trans h1_12
    have h4_13 : act13.eval (.tmp 4) = .slice none 0 0 := (hr 4 rfl).trans h4_12
    have h6_13 : act13.eval (.tmp 6) = .bool q6 := (hr 6 rfl).trans h6_12
    have h16_13 : act13.eval (.tmp 16) = .bool q16 := (hr 16 rfl).trans h16_12
    have h17_13 : act13.eval (.tmp 17) = .slice none 0 0 := (hr 17 rfl).trans h17_12
    have h18_13 : act13.eval (.tmp 18) = .slice none 0 0 := (hr 18 rfl).trans h18_12
    have h19_13 : act13.eval (.tmp 19) = .int .i64 0 := (hr 19 rfl).trans h19_12
    have h20_13 : act13.eval (.tmp 20) = .slice none 0 0 := (hr 20 rfl).trans h20_12
    have h21_13 : act13.eval (.tmp 21) = .int .i64 (IntKind.i64.wrap ((n : Nat) - (IntKind.i64.wrap (0 - 0)))) := (hr 21 rfl).trans h21_12
    have h22_13 : act13.eval (.tmp 22) = .slice (some ⟨w4.heap.size, 0, none⟩) n c_11 := (hr 22 rfl).trans h22_12
    have h23_13 : act13.eval (.tmp 23) = .slice none 0 0 := (hr 23 rfl).trans h23_12
    have h24_13 : act13.eval (.tmp 24) = .int .i64 0 := hv
    have d13 := d13.trans d12
    clear hv hr
    refine Eng.tail_val rfl rfl rfl (Eng.run_cut0 rfl Tryd.underlying43 (by kernel_rfl) h22_13 h24_13 (by omega)) s13 rfl fun act14 d14 s14 hv hr => ?_
    have h0_14 : act14.eval (.tmp 0) = .slice none 0 0 := (hr 0 rfl).trans h0_13
    have h1_14 : act14.eval (.tmp 1) = .int .i64 (IntKind.i64.wrap ((n : Nat) - (IntKind.i64.wrap (0 - 0)))) := (hr 1 rfl).trans h1_13
    have h4_14 : act14.eval (.tmp 4) = .slice none 0 0 := (hr 4 rfl).trans h4_13
    have h6_14 : act14.eval (.tmp 6) = .bool q6 := (hr 6 rfl).trans h6_13
    have h16_14 : act14.eval (.tmp 16) = .bool q16 := (hr 16 rfl).trans h16_13
    have h17_14 : act14.eval (.tmp 17) = .slice none 0 0 := (hr 17 rfl).trans h17_13
    have h18_14 : act14.eval (.tmp 18) = .slice none 0 0 := (hr 18 rfl).trans h18_13
    have h19_14 : act14.eval (.tmp 19) = .int .i64 0 := (hr 19 rfl).trans h19_13
    have h20_14 : act14.eval (.tmp 20) = .slice none 0 0 := (hr 20 rfl).trans h20_13
    have h21_14 : act14.eval (.tmp 21) = .int .i64 (IntKind.i64.wrap ((n : Nat) - (IntKind.i64.wrap (0 - 0)))) := (hr 21 rfl).trans h21_13
    have h22_14 : act14.eval (.tmp 22) = .slice (some ⟨w4.heap.size, 0, none⟩) n c_11 := (hr 22 rfl).trans h22_13
    have h23_14 : act14.eval (.tmp 23) = .slice none 0 0 := (hr 23 rfl).trans h23_13
    have h24_14 : act14.eval (.tmp 24) = .int .i64 0 := (hr 24 rfl).trans h24_13
    have h25_14 : act14.eval (.tmp 25) = .slice (some ⟨w4.heap.size, 0, none⟩) 0 c_11 := hv
    have d14 := d14.trans d13
    clear hv hr
    refine Eng.tail_val rfl rfl rfl (Eng.run_assign rfl h25_14) s14 rfl fun act15 d15 s15 hv hr => ?_
    have h1_15 : act15.eval (.tmp 1) = .int .i64 (IntKind.i64.wrap ((n : Nat) - (IntKind.i64.wrap (0 - 0)))) := (hr 1 rfl).trans h1_14
    have h4_15 : act15.eval (.tmp 4) = .slice none 0 0 := (hr 4 rfl).trans h4_14
    have h6_15 : act15.eval (.tmp 6) = .bool q6 := (hr 6 rfl).trans h6_14
    have h16_15 : act15.eval (.tmp 16) = .bool q16 := (hr 16 rfl).trans h16_14
    have h17_15 : act15.eval (.tmp 17) = .slice none 0 0 := (hr 17 rfl).trans h17_14
    have h18_15 : act15.eval (.tmp 18) = .slice none 0 0 := (hr 18 rfl).trans h18_14
    have h19_15 : act15.eval (.tmp 19) = .int .i64 0 := (hr 19 rfl).trans h19_14
    have h20_15 : act15.eval (.tmp 20) = .slice none 0 0 := (hr 20 rfl).trans h20_14
    have h21_15 : act15.eval (.tmp 21) = .int .i64 (IntKind.i64.wrap ((n : Nat) - (IntKind.i64.wrap (0 - 0)))) := (hr 21 rfl).trans h21_14
    have h22_15 : act15.eval (.tmp 22) = .slice (some ⟨w4.heap.size, 0, none⟩) n c_11 := (hr 22 rfl).trans h22_14
    have h23_15 : act15.eval (.tmp 23) = .slice none 0 0 := (hr 23 rfl).trans h23_14
    have h24_15 : act15.eval (.tmp 24) = .int .i64 0 := (hr 24 rfl).trans h24_14
    have h25_15 : act15.eval (.tmp 25) = .slice (some ⟨w4.heap.size, 0, none⟩) 0 c_11 := (hr 25 rfl).trans h25_14
    have h0_15 : act15.eval (.tmp 0) = .slice (some ⟨w4.heap.size, 0, none⟩) 0 c_11 := hv
    have d15 := d15.trans d14
    clear hv hr
    refine Eng.tail_nil ?_
    first | show Code.wp Tryd.prog _ _ _ _ | skip
    refine wp_seq ?_
    refine Eng.regionS (Eng.still [fun u_ => u_ = .slice (some ⟨w4.heap.size, 0, none⟩) 0 c_11, fun u_ => u_ = .slice (some ⟨w4.heap.size, 0, none⟩) 0 c_11]) (fun i => ([.plain, .plain] : List Eng.Kind).getD i .plain) 2 0 27 s15 rfl (by kernel_rfl) (Eng.still_stable _) (Or.inr (Eng.still_any _)) ?_ ?_
    · refine Eng.Steps.cons (fun _ => ?_) (Eng.Steps.cons (fun _ => ?_) (Eng.Steps.nil))
      · refine Eng.plain rfl rfl fun a w' H => ?_
        exact Eng.val (w1 := w') (v := .slice (some ⟨w4.heap.size, 0, none⟩) 0 c_11) (Eng.run_move rfl ((H.kept 0 (by kernel_rfl)).trans h0_15)) (Below.refl _ _) rfl
      · refine Eng.plain rfl rfl fun a w' H => ?_
        exact Eng.val (w1 := w') (v := .slice (some ⟨w4.heap.size, 0, none⟩) 0 c_11) (Eng.run_assign rfl (H.dep 0 26 (by kernel_rfl) rfl)) (Below.refl _ _) rfl
    intro act16 w16 T
    have h0_16 : act16.eval (.tmp 0) = .slice (some ⟨w4.heap.size, 0, none⟩) 0 c_11 := (T.rest 0 (by kernel_rfl)).trans h0_15
    have h1_16 : act16.eval (.tmp 1) = .int .i64 (IntKind.i64.wrap ((n : Nat) - (IntKind.i64.wrap (0 - 0)))) := (T.rest 1 (by kernel_rfl)).trans h1_15
    have h6_16 : act16.eval (.tmp 6) = .bool q6 := (T.rest 6 (by kernel_rfl)).trans h6_15
    have h16_16 : act16.eval (.tmp 16) = .bool q16 := (T.rest 16 (by kernel_rfl)).trans h16_15
    have Fgr_16 := Eng.Reads.below (Eng.Reads.of_own Og) T.below
    have Ogr_16 := Eng.own_below Og T.below
    have h4_16 : act16.eval (.tmp 4) = .slice (some ⟨w4.heap.size, 0, none⟩) 0 c_11 := T.done 1 4 rfl rfl
    have d16 := T.defers.trans d15
    have s16 := T.size.trans s15
    have bl16 := bl11.trans (T.below.mono bl11.size)
    clear T
    refine Eng.tail_nil ?_
    first | show Code.wp Tryd.prog _ _ _ _ | skip
    refine wp_ret ?_
    repeat (first | refine Eng.in_ret ?_ | refine Eng.then_ret ?_)
    exact Eng.ret1 rfl d16 h4_16 ⟨_, rfl, Ogr_16, bl16⟩
  ·
    have kn17 := hq
    have c16 := Bq16.symm.trans hq
    clear hq
    have c16 := of_decide_eq_false c16
    refine wp_skip ?_
    first | show Code.wp Tryd.prog _ _ _ _ | skip
    refine wp_seq ?_
    refine Eng.regionS (Eng.still [fun u_ => u_ = .slice none 0 0, fun u_ => u_ = .slice none 0 0]) (fun i => ([.plain, .plain] : List Eng.Kind).getD i .plain) 2 0 27 s4 rfl (by kernel_rfl) (Eng.still_stable _) (Or.inr (Eng.still_any _)) ?_ ?_
    · refine Eng.Steps.cons (fun _ => ?_) (Eng.Steps.cons (fun _ => ?_) (Eng.Steps.nil))
      · refine Eng.plain rfl rfl fun a w' H => ?_
        exact Eng.val (w1 := w') (v := .slice none 0 0) (Eng.run_move rfl ((H.kept 0 (by kernel_rfl)).trans h0_4)) (Below.refl _ _) rfl
      · refine Eng.plain rfl rfl fun a w' H => ?_
        exact Eng.val (w1 := w') (v := .slice none 0 0) (Eng.run_assign rfl (H.dep 0 26 (by kernel_rfl) rfl)) (Below.refl _ _) rfl
    intro act18 w18 T
    have h0_18 : act18.eval (.tmp 0) = .slice none 0 0 := (T.rest 0 (by kernel_rfl)).trans h0_4
    have h1_18 : act18.eval (.tmp 1) = .int .i64 (IntKind.i64.wrap ((n : Nat) - (IntKind.i64.wrap (0 - 0)))) := (T.rest 1 (by kernel_rfl)).trans h1_4
    have h6_18 : act18.eval (.tmp 6) = .bool q6 := (T.rest 6 (by kernel_rfl)).trans h6_4
    have h16_18 : act18.eval (.tmp 16) = .bool q16 := (T.rest 16 (by kernel_rfl)).trans h16_4
    have h4_18 : act18.eval (.tmp 4) = .slice none 0 0 := T.done 1 4 rfl rfl
    have d18 := T.defers.trans d4
    have s18 := T.size.trans s4
    have bl18 := bl4.trans (T.below.mono bl4.size)
    clear T
    refine Eng.tail_nil ?_
    first | show Code.wp Tryd.prog _ _ _ _ | skip
    refine wp_ret ?_
    repeat (first | refine Eng.in_ret ?_ | refine Eng.then_ret ?_)
    exact Eng.ret1 rfl d18 h4_18 ⟨_, rfl, World.ownsRow_nil _ _ _ _, bl18⟩
end Go.Proofs.YthgafcaoibfchaaDoor.X
end
section
namespace Go.Proofs.YthgafcaoibfchaaDoor.X
open Go Go.RowKit Go.Shelf Go.Proofs
set_option linter.unusedVariables false
namespace Nfa
theorem take_flat {α : Type} (ls : List (List α)) {k : Nat} (h : k < ls.length) : List.flatten (List.take (k + 1) ls) = List.flatten (List.take k ls) ++ ls.getD k [] := by
  rw [List.take_add_one, List.getElem?_eq_getElem h, List.flatten_append, List.getD_eq_getElem?_getD, List.getElem?_eq_getElem h]; simp
theorem flat_take {α : Type} (ls : List (List α)) {k : Nat} (h : k < ls.length) : (List.flatten (List.take (k + 1) ls)).length = (List.flatten (List.take k ls)).length + (ls.getD k []).length := by
  rw [take_flat ls h, List.length_append]
theorem flat_le {α : Type} (ls : List (List α)) (k : Nat) : (List.flatten (List.take k ls)).length ≤ ls.flatten.length := by
  have h : ls.flatten = List.flatten (List.take k ls) ++ List.flatten (List.drop k ls) := by rw [← List.flatten_append, List.take_append_drop]
  rw [h, List.length_append]; omega
theorem flat_all {α : Type} (ls : List (List α)) : List.flatten (List.take ls.length ls) = ls.flatten := by rw [List.take_length]
theorem strs_one (l : List ByteArray) : ∀ u ∈ strs l, u.oneCell' = true := by
  intro u hu
  obtain ⟨x, _, rfl⟩ := List.mem_map.1 hu
  rfl
theorem strs_cat {w : World} {B : Nat} {e : TypeId} {v : Value} {l r : List ByteArray} (O : w.ownsRow B e 1 v (l.length + r.length) (strs l ++ strs r)) : w.ownsRow B e 1 v (l ++ r).length (strs (l ++ r)) := by
  rw [List.length_append]
  unfold strs at O ⊢
  rw [List.map_append]; exact O
end Nfa
end Go.Proofs.YthgafcaoibfchaaDoor.X
end
section
namespace Go.Proofs.YthgafcaoibfchaaDoor.X
open Go.RowKit Go.Shelf Go.Proofs Go.Proofs.YthgafcaoibfchaaDoorW.PrintWords Go.Proofs.YthgafcaoibfchaaDoorW.PrintLast Go.Proofs.YthgafcaoibfchaaDoorW.PrintMore
set_option linter.unusedVariables false
set_option linter.unusedSimpArgs false
attribute [local go_sem] max2_int min2_int max_two min_two
set_option maxHeartbeats 4000000 in
set_option maxRecDepth 100000 in
theorem Nfa.concat_calls (lv : Value) (ls : List (List ByteArray)) (us : List Value) (w : World) (hul : us.length = ls.length) (hp : Eng.Reads w lv ls.length 1 us) (hin : ∀ k, k < ls.length → Eng.Reads w (us.getD k undef) (ls.getD k []).length 1 (Nfa.strs (ls.getD k []))) (hfl0 : ls.flatten.length ≤ 1000000) : Calls Tryd.prog 49 #[lv] w fun e w' => ∃ v, e = .returned v ∧ w'.ownsRow w.heap.size 9 1 v ls.flatten.length (Nfa.strs ls.flatten) ∧ Below w.heap.size w w' := by
  have hm := Eng.Reads.len_le hp
  refine Eng.enter Tryd.func49 rfl fun act0 d0 s0 v0 => ?_
  have s0 : act0.tmps.size = 36 := s0
  have h0_0 : act0.eval (.tmp 0) = lv := v0 0 (by simp)
  clear v0
  have bl0 : Below w.heap.size w w := Below.refl _ _
  refine wp_seq ?_
  refine Eng.regionS (Eng.still [fun u_ => u_ = .slice none 0 0]) (fun i => ([.plain] : List Eng.Kind).getD i .plain) 1 0 36 s0 rfl (by kernel_rfl) (Eng.still_stable _) (Or.inr (Eng.still_any _)) ?_ ?_
  · refine Eng.Steps.cons (fun _ => ?_) (Eng.Steps.nil)
    · refine Eng.plain rfl rfl fun a w' H => ?_
      exact Eng.val (w1 := w') (v := .slice none 0 0) (Eng.run_assign rfl (rfl : a.eval (.const (.slice none 0 0)) = .slice none 0 0)) (Below.refl _ _) rfl
  intro act1 w1 T
  have h0_1 : act1.eval (.tmp 0) = lv := (T.rest 0 (by kernel_rfl)).trans h0_0
  have Fll_1 := Eng.Reads.below hp T.below
  have h2_1 : act1.eval (.tmp 2) = .slice none 0 0 := T.done 0 2 rfl rfl
  have d1 := T.defers.trans d0
  have s1 := T.size.trans s0
  have bl1 := bl0.trans (T.below.mono bl0.size)
  clear T
  refine Eng.tail_nil ?_
  first | show Code.wp Tryd.prog _ _ _ _ | skip
  refine wp_seq ?_
  refine Eng.regionS (Eng.still [fun u_ => u_ = .int .i64 0]) (fun i => ([.plain] : List Eng.Kind).getD i .plain) 1 0 36 s1 rfl (by kernel_rfl) (Eng.still_stable _) (Or.inr (Eng.still_any _)) ?_ ?_
  · refine Eng.Steps.cons (fun _ => ?_) (Eng.Steps.nil)
    · refine Eng.plain rfl rfl fun a w' H => ?_
      exact Eng.val (w1 := w') (v := .int .i64 0) (Eng.run_assign rfl (rfl : a.eval (.const (.int .i64 0)) = .int .i64 0)) (Below.refl _ _) rfl
  intro act2 w2 T
  have h0_2 : act2.eval (.tmp 0) = lv := (T.rest 0 (by kernel_rfl)).trans h0_1
  have h2_2 : act2.eval (.tmp 2) = .slice none 0 0 := (T.rest 2 (by kernel_rfl)).trans h2_1
  have Fll_2 := Eng.Reads.below Fll_1 T.below
  have h3_2 : act2.eval (.tmp 3) = .int .i64 0 := T.done 0 3 rfl rfl
  have d2 := T.defers.trans d1
  have s2 := T.size.trans s1
  have bl2 := bl1.trans (T.below.mono bl1.size)
  clear T
  refine Eng.tail_nil ?_
  first | show Code.wp Tryd.prog _ _ _ _ | skip
  refine wp_seq ?_
  refine wp_seq ?_
  refine Eng.regionS (Eng.still [fun u_ => u_ = lv, fun u_ => u_ = .int .i64 ((ls.length : Nat) : Int), fun u_ => u_ = .int .i64 0]) (fun i => ([.plain, .plain, .plain] : List Eng.Kind).getD i .plain) 3 0 36 s2 rfl (by kernel_rfl) (Eng.still_stable _) (Or.inr (Eng.still_any _)) ?_ ?_
  · refine Eng.Steps.cons (fun _ => ?_) (Eng.Steps.cons (fun _ => ?_) (Eng.Steps.cons (fun _ => ?_) (Eng.Steps.nil)))
    · refine Eng.plain rfl rfl fun a w' H => ?_
      exact Eng.val (w1 := w') (v := lv) (Eng.run_move rfl ((H.kept 0 (by kernel_rfl)).trans h0_2)) (Below.refl _ _) rfl
    · refine Eng.plain rfl rfl fun a w' H => ?_
      refine Eng.val (w1 := w') (v := .int .i64 ((ls.length : Nat) : Int)) ?_ (Below.refl _ _) rfl
      exact Eng.run_len_sl rfl Tryd.underlying132 (show a.eval (.tmp 9) = lv from (H.dep 0 9 (by kernel_rfl) rfl)) (Eng.Reads.below Fll_2 H.below)
    · refine Eng.plain rfl rfl fun a w' H => ?_
      exact Eng.val (w1 := w') (v := .int .i64 0) (Eng.run_move rfl (rfl : a.eval (.const (.int .i64 0)) = .int .i64 0)) (Below.refl _ _) rfl
  intro act3 w3 T
  have h0_3 : act3.eval (.tmp 0) = lv := (T.rest 0 (by kernel_rfl)).trans h0_2
  have h2_3 : act3.eval (.tmp 2) = .slice none 0 0 := (T.rest 2 (by kernel_rfl)).trans h2_2
  have h3_3 : act3.eval (.tmp 3) = .int .i64 0 := (T.rest 3 (by kernel_rfl)).trans h3_2
  have Fll_3 := Eng.Reads.below Fll_2 T.below
  have h9_3 : act3.eval (.tmp 9) = lv := T.done 0 9 rfl rfl
  have h10_3 : act3.eval (.tmp 10) = .int .i64 ((ls.length : Nat) : Int) := T.done 1 10 rfl rfl
  have h11_3 : act3.eval (.tmp 11) = .int .i64 0 := T.done 2 11 rfl rfl
  have d3 := T.defers.trans d2
  have s3 := T.size.trans s2
  have bl3 := bl2.trans (T.below.mono bl2.size)
  clear T
  refine Eng.tail_nil ?_
  first | show Code.wp Tryd.prog _ _ _ _ | skip
  refine wp_block ?_
  refine Eng.loopN (fun n a w' => ∃ (k : Nat), ls.length - k = n ∧ (k ≤ ls.length) ∧ a.defers = [] ∧ a.tmps.size = 36 ∧ Below w.heap.size w w' ∧ a.eval (.tmp 0) = lv ∧ a.eval (.tmp 2) = .slice none 0 0 ∧ a.eval (.tmp 3) = .int .i64 ((List.flatten (List.take k ls)).length : Nat) ∧ a.eval (.tmp 9) = lv ∧ a.eval (.tmp 10) = .int .i64 ((ls.length : Nat) : Int) ∧ a.eval (.tmp 11) = .int .i64 (k : Nat)) (n0 := ls.length - 0) ?_ ?_
  · exact ⟨0, rfl, by omega, d3, s3, bl3, h0_3, h2_3, (h3_3.trans (by first | rfl | (congr 1; rw [Eng.i64_id (by omega) (by omega)]; omega) | (simp; done))), h9_3, h10_3, (h11_3.trans (by first | rfl | (congr 1; rw [Eng.i64_id (by omega) (by omega)]; omega) | (simp; done)))⟩
  rintro n act4 w4 ⟨k, rfl, hc0_4, d4, s4, bl4, h0_4, h2_4, h3_4, h9_4, h10_4, h11_4⟩
  have Fll_4 := Eng.Reads.below hp bl4
  have hk1 := hc0_4
  have hfk := Nfa.flat_le ls k
  refine wp_seq ?_
  obtain ⟨q12, Bq12⟩ : ∃ b : Bool, b = (decide ((k : Nat) < ((ls.length : Nat) : Int))) := ⟨_, rfl⟩
  refine Eng.regionS (Eng.still [fun u_ => u_ = .bool q12]) (fun i => ([.plain] : List Eng.Kind).getD i .plain) 1 0 36 s4 rfl (by kernel_rfl) (Eng.still_stable _) (Or.inr (Eng.still_any _)) ?_ ?_
  · refine Eng.Steps.cons (fun _ => ?_) (Eng.Steps.nil)
    · refine Eng.plain rfl rfl fun a w' H => ?_
      refine Eng.val (w1 := w') (v := .bool (decide ((k : Nat) < ((ls.length : Nat) : Int)))) ?_ (Below.refl _ _) (by show _ = Value.bool q12; rw [Bq12])
      have e0 : a.eval (.tmp 11) = .int .i64 (k : Nat) := ((H.kept 11 (by kernel_rfl)).trans h11_4)
      have e1 : a.eval (.tmp 10) = .int .i64 ((ls.length : Nat) : Int) := ((H.kept 10 (by kernel_rfl)).trans h10_4)
      simp only [execOp, resolve, List.map_toArray, List.map_cons, List.map_nil, e0, e1]
      go_simp
      all_goals first | rfl | (simp; done) | (rw [Bool.eq_iff_iff]; simp; done) | omega | skip
  intro act5 w5 T
  have h0_5 : act5.eval (.tmp 0) = lv := (T.rest 0 (by kernel_rfl)).trans h0_4
  have h2_5 : act5.eval (.tmp 2) = .slice none 0 0 := (T.rest 2 (by kernel_rfl)).trans h2_4
  have h3_5 : act5.eval (.tmp 3) = .int .i64 ((List.flatten (List.take k ls)).length : Nat) := (T.rest 3 (by kernel_rfl)).trans h3_4
  have h9_5 : act5.eval (.tmp 9) = lv := (T.rest 9 (by kernel_rfl)).trans h9_4
  have h10_5 : act5.eval (.tmp 10) = .int .i64 ((ls.length : Nat) : Int) := (T.rest 10 (by kernel_rfl)).trans h10_4
  have h11_5 : act5.eval (.tmp 11) = .int .i64 (k : Nat) := (T.rest 11 (by kernel_rfl)).trans h11_4
  have Fll_5 := Eng.Reads.below Fll_4 T.below
  have h12_5 : act5.eval (.tmp 12) = .bool q12 := T.done 0 12 rfl rfl
  have d5 := T.defers.trans d4
  have s5 := T.size.trans s4
  have bl5 := bl4.trans (T.below.mono bl4.size)
  clear T
  refine Eng.tail_nil ?_
  first | show Code.wp Tryd.prog _ _ _ _ | skip
  refine wp_seq ?_
  refine wp_cond_split h12_5 (fun hq => ?_) (fun hq => ?_)
  ·
    have kn6 := hq
    have c12 := Bq12.symm.trans hq
    clear hq
    have c12 := of_decide_eq_true c12
    have hk0 : k < ls.length := by omega
    have Fin0 := hin k hk0
    have hfl := Nfa.flat_take ls hk0
    have hfm := Nfa.flat_le ls (k + 1)
    have Finn7 := Eng.Reads.below Fin0 bl5
    refine wp_skip ?_
    first | show Code.wp Tryd.prog _ _ _ _ | skip
    refine wp_seq ?_
    refine wp_block ?_
    refine wp_seq ?_
    refine Eng.regionS (Eng.still [fun u_ => u_ = Eng.elemPtr lv (k * 1), fun u_ => u_ = (us.getD k undef), fun u_ => u_ = (us.getD k undef)]) (fun i => ([.plain, .plain, .plain] : List Eng.Kind).getD i .plain) 3 0 36 s5 rfl (by kernel_rfl) (Eng.still_stable _) (Or.inr (Eng.still_any _)) ?_ ?_
    · refine Eng.Steps.cons (fun _ => ?_) (Eng.Steps.cons (fun _ => ?_) (Eng.Steps.cons (fun _ => ?_) (Eng.Steps.nil)))
      · refine Eng.plain rfl rfl fun a w' H => ?_
        refine Eng.val (w1 := w') (v := Eng.elemPtr lv (k * 1)) ?_ (Below.refl _ _) rfl
        exact Eng.run_index_sl rfl Tryd.underlying132 (by kernel_rfl) (show a.eval (.tmp 9) = lv from ((H.kept 9 (by kernel_rfl)).trans h9_5)) ((show a.eval (.tmp 11) = .int .i64 (k : Nat) from ((H.kept 11 (by kernel_rfl)).trans h11_5)).trans (congrArg (Value.int _) (show (k : Nat) = ((k : Nat) : Int) from by omega))) (Eng.Reads.below Fll_5 H.below) (by omega) rfl
      · refine Eng.plain rfl rfl fun a w' H => ?_
        refine Eng.val (w1 := w') (v := (us.getD k undef)) ?_ (Below.refl _ _) rfl
        exact Eng.run_load_el ((us.getD k undef)) rfl (show a.eval (.tmp 13) = Eng.elemPtr lv (k * 1) from (H.dep 0 13 (by kernel_rfl) rfl)) (Eng.Reads.below Fll_5 H.below) (Nfa.at_one us hul (by omega)) (by kernel_rfl)
      · refine Eng.plain rfl rfl fun a w' H => ?_
        exact Eng.val (w1 := w') (v := (us.getD k undef)) (Eng.run_assign rfl (H.dep 1 14 (by kernel_rfl) rfl)) (Below.refl _ _) rfl
    intro act8 w8 T
    have h0_8 : act8.eval (.tmp 0) = lv := (T.rest 0 (by kernel_rfl)).trans h0_5
    have h2_8 : act8.eval (.tmp 2) = .slice none 0 0 := (T.rest 2 (by kernel_rfl)).trans h2_5
    have h3_8 : act8.eval (.tmp 3) = .int .i64 ((List.flatten (List.take k ls)).length : Nat) := (T.rest 3 (by kernel_rfl)).trans h3_5
    have h9_8 : act8.eval (.tmp 9) = lv := (T.rest 9 (by kernel_rfl)).trans h9_5
    have h10_8 : act8.eval (.tmp 10) = .int .i64 ((ls.length : Nat) : Int) := (T.rest 10 (by kernel_rfl)).trans h10_5
    have h11_8 : act8.eval (.tmp 11) = .int .i64 (k : Nat) := (T.rest 11 (by kernel_rfl)).trans h11_5
    have h12_8 : act8.eval (.tmp 12) = .bool q12 := (T.rest 12 (by kernel_rfl)).trans h12_5
    have Fll_8 := Eng.Reads.below Fll_5 T.below
    have Finn_8 := Eng.Reads.below Finn7 T.below
    have h5_8 : act8.eval (.tmp 5) = (us.getD k undef) := T.done 2 5 rfl rfl
    have d8 := T.defers.trans d5
    have s8 := T.size.trans s5
    have bl8 := bl5.trans (T.below.mono bl5.size)
    clear T
    refine Eng.tail_nil ?_
    first | show Code.wp Tryd.prog _ _ _ _ | skip
    refine wp_seq ?_
    refine Eng.regionS (Eng.still [fun u_ => u_ = .int .i64 ((List.flatten (List.take k ls)).length : Nat), fun u_ => u_ = (us.getD k undef), fun u_ => u_ = .int .i64 (((ls.getD k []).length : Nat) : Int), fun u_ => u_ = .int .i64 (IntKind.i64.wrap (((List.flatten (List.take k ls)).length : Nat) + (((ls.getD k []).length : Nat) : Int))), fun u_ => u_ = .int .i64 (IntKind.i64.wrap (((List.flatten (List.take k ls)).length : Nat) + (((ls.getD k []).length : Nat) : Int)))]) (fun i => ([.plain, .plain, .plain, .plain, .plain] : List Eng.Kind).getD i .plain) 5 0 36 s8 rfl (by kernel_rfl) (Eng.still_stable _) (Or.inr (Eng.still_any _)) ?_ ?_
    · refine Eng.Steps.cons (fun _ => ?_) (Eng.Steps.cons (fun _ => ?_) (Eng.Steps.cons (fun _ => ?_) (Eng.Steps.cons (fun _ => ?_) (Eng.Steps.cons (fun _ => ?_) (Eng.Steps.nil)))))
      · refine Eng.plain rfl rfl fun a w' H => ?_
        exact Eng.val (w1 := w') (v := .int .i64 ((List.flatten (List.take k ls)).length : Nat)) (Eng.run_move rfl ((H.kept 3 (by kernel_rfl)).trans h3_8)) (Below.refl _ _) rfl
      · refine Eng.plain rfl rfl fun a w' H => ?_
        exact Eng.val (w1 := w') (v := (us.getD k undef)) (Eng.run_move rfl ((H.kept 5 (by kernel_rfl)).trans h5_8)) (Below.refl _ _) rfl
      · refine Eng.plain rfl rfl fun a w' H => ?_
        refine Eng.val (w1 := w') (v := .int .i64 (((ls.getD k []).length : Nat) : Int)) ?_ (Below.refl _ _) rfl
        exact Eng.run_len_sl rfl Tryd.underlying43 (show a.eval (.tmp 16) = (us.getD k undef) from (H.dep 1 16 (by kernel_rfl) rfl)) (Eng.Reads.below Finn_8 H.below)
      · refine Eng.plain rfl rfl fun a w' H => ?_
        refine Eng.val (w1 := w') (v := .int .i64 (IntKind.i64.wrap (((List.flatten (List.take k ls)).length : Nat) + (((ls.getD k []).length : Nat) : Int)))) ?_ (Below.refl _ _) rfl
        have e0 : a.eval (.tmp 15) = .int .i64 ((List.flatten (List.take k ls)).length : Nat) := (H.dep 0 15 (by kernel_rfl) rfl)
        have e1 : a.eval (.tmp 17) = .int .i64 (((ls.getD k []).length : Nat) : Int) := (H.dep 2 17 (by kernel_rfl) rfl)
        simp only [execOp, resolve, List.map_toArray, List.map_cons, List.map_nil, e0, e1]
        go_simp
        all_goals first | rfl | (simp; done) | (rw [Bool.eq_iff_iff]; simp; done) | omega | skip
      · refine Eng.plain rfl rfl fun a w' H => ?_
        exact Eng.val (w1 := w') (v := .int .i64 (IntKind.i64.wrap (((List.flatten (List.take k ls)).length : Nat) + (((ls.getD k []).length : Nat) : Int)))) (Eng.run_assign rfl (H.dep 3 18 (by kernel_rfl) rfl)) (Below.refl _ _) rfl
    intro act9 w9 T
    have h0_9 : act9.eval (.tmp 0) = lv := (T.rest 0 (by kernel_rfl)).trans h0_8
    have h2_9 : act9.eval (.tmp 2) = .slice none 0 0 := (T.rest 2 (by kernel_rfl)).trans h2_8
    have h5_9 : act9.eval (.tmp 5) = (us.getD k undef) := (T.rest 5 (by kernel_rfl)).trans h5_8
    have h9_9 : act9.eval (.tmp 9) = lv := (T.rest 9 (by kernel_rfl)).trans h9_8
    have h10_9 : act9.eval (.tmp 10) = .int .i64 ((ls.length : Nat) : Int) := (T.rest 10 (by kernel_rfl)).trans h10_8
    have h11_9 : act9.eval (.tmp 11) = .int .i64 (k : Nat) := (T.rest 11 (by kernel_rfl)).trans h11_8
    have h12_9 : act9.eval (.tmp 12) = .bool q12 := (T.rest 12 (by kernel_rfl)).trans h12_8
    have Fll_9 := Eng.Reads.below Fll_8 T.below
    have Finn_9 := Eng.Reads.below Finn_8 T.below
    have h3_9 : act9.eval (.tmp 3) = .int .i64 (IntKind.i64.wrap (((List.flatten (List.take k ls)).length : Nat) + (((ls.getD k []).length : Nat) : Int))) := T.done 4 3 rfl rfl
    have d9 := T.defers.trans d8
    have s9 := T.size.trans s8
    have bl9 := bl8.trans (T.below.mono bl8.size)
    clear T
    refine Eng.tail_nil ?_
    first | show Code.wp Tryd.prog _ _ _ _ | skip
    refine wp_seq ?_
    obtain ⟨q20, Bq20⟩ : ∃ b : Bool, b = (decide ((IntKind.i64.wrap (((List.flatten (List.take k ls)).length : Nat) + (((ls.getD k []).length : Nat) : Int))) < 0)) := ⟨_, rfl⟩
    refine Eng.regionS (Eng.still [fun u_ => u_ = .int .i64 (IntKind.i64.wrap (((List.flatten (List.take k ls)).length : Nat) + (((ls.getD k []).length : Nat) : Int))), fun u_ => u_ = .bool q20]) (fun i => ([.plain, .plain] : List Eng.Kind).getD i .plain) 2 0 36 s9 rfl (by kernel_rfl) (Eng.still_stable _) (Or.inr (Eng.still_any _)) ?_ ?_
    · refine Eng.Steps.cons (fun _ => ?_) (Eng.Steps.cons (fun _ => ?_) (Eng.Steps.nil))
      · refine Eng.plain rfl rfl fun a w' H => ?_
        exact Eng.val (w1 := w') (v := .int .i64 (IntKind.i64.wrap (((List.flatten (List.take k ls)).length : Nat) + (((ls.getD k []).length : Nat) : Int)))) (Eng.run_move rfl ((H.kept 3 (by kernel_rfl)).trans h3_9)) (Below.refl _ _) rfl
      · refine Eng.plain rfl rfl fun a w' H => ?_
        refine Eng.val (w1 := w') (v := .bool (decide ((IntKind.i64.wrap (((List.flatten (List.take k ls)).length : Nat) + (((ls.getD k []).length : Nat) : Int))) < 0))) ?_ (Below.refl _ _) (by show _ = Value.bool q20; rw [Bq20])
        have e0 : a.eval (.tmp 19) = .int .i64 (IntKind.i64.wrap (((List.flatten (List.take k ls)).length : Nat) + (((ls.getD k []).length : Nat) : Int))) := (H.dep 0 19 (by kernel_rfl) rfl)
        have e1 : a.eval (.const (.int .i64 0)) = .int .i64 0 := (rfl : a.eval (.const (.int .i64 0)) = .int .i64 0)
        simp only [execOp, resolve, List.map_toArray, List.map_cons, List.map_nil, e0, e1]
        go_simp
        all_goals first | rfl | (simp; done) | (rw [Bool.eq_iff_iff]; simp; done) | omega | skip
    intro act10 w10 T
    have h0_10 : act10.eval (.tmp 0) = lv := (T.rest 0 (by kernel_rfl)).trans h0_9
    have h2_10 : act10.eval (.tmp 2) = .slice none 0 0 := (T.rest 2 (by kernel_rfl)).trans h2_9
    have h3_10 : act10.eval (.tmp 3) = .int .i64 (IntKind.i64.wrap (((List.flatten (List.take k ls)).length : Nat) + (((ls.getD k []).length : Nat) : Int))) := (T.rest 3 (by kernel_rfl)).trans h3_9
    have h5_10 : act10.eval (.tmp 5) = (us.getD k undef) := (T.rest 5 (by kernel_rfl)).trans h5_9
    have h9_10 : act10.eval (.tmp 9) = lv := (T.rest 9 (by kernel_rfl)).trans h9_9
    have h10_10 : act10.eval (.tmp 10) = .int .i64 ((ls.length : Nat) : Int) := (T.rest 10 (by kernel_rfl)).trans h10_9
    have h11_10 : act10.eval (.tmp 11) = .int .i64 (k : Nat) := (T.rest 11 (by kernel_rfl)).trans h11_9
    have h12_10 : act10.eval (.tmp 12) = .bool q12 := (T.rest 12 (by kernel_rfl)).trans h12_9
    have Fll_10 := Eng.Reads.below Fll_9 T.below
    have Finn_10 := Eng.Reads.below Finn_9 T.below
    have h20_10 : act10.eval (.tmp 20) = .bool q20 := T.done 1 20 rfl rfl
    have d10 := T.defers.trans d9
    have s10 := T.size.trans s9
    have bl10 := bl9.trans (T.below.mono bl9.size)
    clear T
    refine Eng.tail_nil ?_
    first | show Code.wp Tryd.prog _ _ _ _ | skip
    have n20 : q20 = false := by
      try simp only [Bq20, Bq12]
      rw [Eng.i64_id (by omega) (by omega)]
      simp
      omega
    refine wp_cond_false (h20_10.trans (by rw [n20])) ?_
    refine wp_skip ?_
    first | show Code.wp Tryd.prog _ _ _ _ | skip
    refine Eng.regionS (Eng.still [fun u_ => u_ = .int .i64 (IntKind.i64.wrap ((k : Nat) + 1)), fun u_ => u_ = .int .i64 (IntKind.i64.wrap ((k : Nat) + 1))]) (fun i => ([.plain, .plain] : List Eng.Kind).getD i .plain) 2 0 36 s10 rfl (by kernel_rfl) (Eng.still_stable _) (Or.inr (Eng.still_any _)) ?_ ?_
    · refine Eng.Steps.cons (fun _ => ?_) (Eng.Steps.cons (fun _ => ?_) (Eng.Steps.nil))
      · refine Eng.plain rfl rfl fun a w' H => ?_
        refine Eng.val (w1 := w') (v := .int .i64 (IntKind.i64.wrap ((k : Nat) + 1))) ?_ (Below.refl _ _) rfl
        have e0 : a.eval (.tmp 11) = .int .i64 (k : Nat) := ((H.kept 11 (by kernel_rfl)).trans h11_10)
        have e1 : a.eval (.const (.int .i64 1)) = .int .i64 1 := (rfl : a.eval (.const (.int .i64 1)) = .int .i64 1)
        simp only [execOp, resolve, List.map_toArray, List.map_cons, List.map_nil, e0, e1]
        go_simp
        all_goals first | rfl | (simp; done) | (rw [Bool.eq_iff_iff]; simp; done) | omega | skip
      · refine Eng.plain rfl rfl fun a w' H => ?_
        exact Eng.val (w1 := w') (v := .int .i64 (IntKind.i64.wrap ((k : Nat) + 1))) (Eng.run_move rfl (H.dep 0 22 (by kernel_rfl) rfl)) (Below.refl _ _) rfl
    intro act11 w11 T
    have h0_11 : act11.eval (.tmp 0) = lv := (T.rest 0 (by kernel_rfl)).trans h0_10
    have h2_11 : act11.eval (.tmp 2) = .slice none 0 0 := (T.rest 2 (by kernel_rfl)).trans h2_10
    have h3_11 : act11.eval (.tmp 3) = .int .i64 (IntKind.i64.wrap (((List.flatten (List.take k ls)).length : Nat) + (((ls.getD k []).length : Nat) : Int))) := (T.rest 3 (by kernel_rfl)).trans h3_10
    have h5_11 : act11.eval (.tmp 5) = (us.getD k undef) := (T.rest 5 (by kernel_rfl)).trans h5_10
    have h9_11 : act11.eval (.tmp 9) = lv := (T.rest 9 (by kernel_rfl)).trans h9_10
    have h10_11 : act11.eval (.tmp 10) = .int .i64 ((ls.length : Nat) : Int) := (T.rest 10 (by kernel_rfl)).trans h10_10
    have h12_11 : act11.eval (.tmp 12) = .bool q12 := (T.rest 12 (by kernel_rfl)).trans h12_10
    have h20_11 : act11.eval (.tmp 20) = .bool q20 := (T.rest 20 (by kernel_rfl)).trans h20_10
    have Fll_11 := Eng.Reads.below Fll_10 T.below
    have Finn_11 := Eng.Reads.below Finn_10 T.below
    have h11_11 : act11.eval (.tmp 11) = .int .i64 (IntKind.i64.wrap ((k : Nat) + 1)) := T.done 1 11 rfl rfl
    have d11 := T.defers.trans d10
    have s11 := T.size.trans s10
    have bl11 := bl10.trans (T.below.mono bl10.size)
    clear T
    refine Eng.tail_nil ?_
    exact ⟨_, by omega, k + 1, rfl, by omega, d11, s11, bl11, h0_11, h2_11, (h3_11.trans (by first | rfl | (congr 1; rw [Eng.i64_id (by omega) (by omega)]; omega) | (simp; done))), h9_11, h10_11, (h11_11.trans (by first | rfl | (congr 1; rw [Eng.i64_id (by omega) (by omega)]; omega) | (simp; done)))⟩
  ·
    have kn12 := hq
    have c12 := Bq12.symm.trans hq
    clear hq
    have c12 := of_decide_eq_false c12
    have hke : k = ls.length := by omega
    have hfe := Nfa.flat_all ls
    refine wp_exit ?_
    first | show Code.wp Tryd.prog _ _ _ _ | skip
    first | show Code.wp Tryd.prog _ _ _ _ | skip
    refine wp_seq ?_
    refine (wpIn_wide (n := 1)).1 ?_
    refine EngI.regionS EngI.free_wide (Eng.still [fun u_ => u_ = .int .i64 ((List.flatten (List.take k ls)).length : Nat)]) (fun i => ([.plain] : List Eng.Kind).getD i .plain) 1 2 36 s5 rfl (by kernel_rfl) (Eng.still_stable _) (Or.inr (Eng.still_any _)) (by kernel_rfl) ?_ ?_
    · refine Eng.Steps.cons (fun _ => ?_) (Eng.Steps.cons (fun hlt => ?_) (Eng.Steps.cons (fun hlt => ?_) (Eng.Steps.nil)))
      · refine Eng.plain rfl rfl fun a w' H => ?_
        exact Eng.val (w1 := w') (v := .int .i64 ((List.flatten (List.take k ls)).length : Nat)) (Eng.run_move rfl ((H.kept 3 (by kernel_rfl)).trans h3_5)) (Below.refl _ _) rfl
      · exact absurd hlt (by decide)
      · exact absurd hlt (by decide)
    intro act13 w13 T
    have h0_13 : act13.eval (.tmp 0) = lv := (T.rest 0 (by kernel_rfl)).trans h0_5
    have h2_13 : act13.eval (.tmp 2) = .slice none 0 0 := (T.rest 2 (by kernel_rfl)).trans h2_5
    have h3_13 : act13.eval (.tmp 3) = .int .i64 ((List.flatten (List.take k ls)).length : Nat) := (T.rest 3 (by kernel_rfl)).trans h3_5
    have h9_13 : act13.eval (.tmp 9) = lv := (T.rest 9 (by kernel_rfl)).trans h9_5
    have h10_13 : act13.eval (.tmp 10) = .int .i64 ((ls.length : Nat) : Int) := (T.rest 10 (by kernel_rfl)).trans h10_5
    have h11_13 : act13.eval (.tmp 11) = .int .i64 (k : Nat) := (T.rest 11 (by kernel_rfl)).trans h11_5
    have h12_13 : act13.eval (.tmp 12) = .bool q12 := (T.rest 12 (by kernel_rfl)).trans h12_5
    have Fll_13 := Eng.Reads.below Fll_5 T.below
    have h23_13 : act13.eval (.tmp 23) = .int .i64 ((List.flatten (List.take k ls)).length : Nat) := T.done 0 23 rfl rfl
    have d13 := T.defers.trans d5
    have s13 := T.size.trans s5
    have bl13 := bl5.trans (T.below.mono bl5.size)
    clear T
    refine EngI.tail_call EngI.free_wide Tryd.func92 (by kernel_rfl) (by kernel_rfl) rfl rfl rfl rfl #[.slice none 0 0, .int .i64 ((List.flatten (List.take k ls)).length : Nat)] (by have e0 : act13.eval (.const (.slice none 0 0)) = .slice none 0 0 := (rfl : act13.eval (.const (.slice none 0 0)) = .slice none 0 0); have e1 : act13.eval (.tmp 23) = .int .i64 ((List.flatten (List.take k ls)).length : Nat) := h23_13; simp only [List.map_toArray, List.map_cons, List.map_nil, e0, e1]) s13 rfl (R := fun v w' => w'.ownsRow w13.heap.size 9 1 v 0 (Nfa.strs []) ∧ Below w13.heap.size w13 w') ((Nfa.grow_calls (List.flatten (List.take k ls)).length _ (by omega)).mono ?_) fun v_14 w14 act14 R d14 s14 hv hr => ?_
    · rintro e w1 ⟨v, rfl, h1, h2⟩; exact ⟨v, rfl, h1, h2⟩
    have h0_14 : act14.eval (.tmp 0) = lv := (hr 0 rfl).trans h0_13
    have h2_14 : act14.eval (.tmp 2) = .slice none 0 0 := (hr 2 rfl).trans h2_13
    have h3_14 : act14.eval (.tmp 3) = .int .i64 ((List.flatten (List.take k ls)).length : Nat) := (hr 3 rfl).trans h3_13
    have h9_14 : act14.eval (.tmp 9) = lv := (hr 9 rfl).trans h9_13
    have h10_14 : act14.eval (.tmp 10) = .int .i64 ((ls.length : Nat) : Int) := (hr 10 rfl).trans h10_13
    have h11_14 : act14.eval (.tmp 11) = .int .i64 (k : Nat) := (hr 11 rfl).trans h11_13
    have h12_14 : act14.eval (.tmp 12) = .bool q12 := (hr 12 rfl).trans h12_13
    have h23_14 : act14.eval (.tmp 23) = .int .i64 ((List.flatten (List.take k ls)).length : Nat) := (hr 23 rfl).trans h23_13
    have h24_14 : act14.eval (.tmp 24) = v_14 := hv
    have d14 := d14.trans d13
    clear hv hr
    obtain ⟨Og14, hb14⟩ := R
    have Ogr := Eng.own_mono Og14 bl13.size
    have Fll_14 := Eng.Reads.below Fll_13 hb14
    have bl14 := bl13.trans (hb14.mono bl13.size)
    refine EngI.tail_val EngI.free_wide rfl rfl rfl rfl (Eng.run_assign rfl h24_14) s14 rfl fun act15 d15 s15 hv hr => ?_
    have h0_15 : act15.eval (.tmp 0) = lv := (hr 0 rfl).trans h0_14
    have h2_15 : act15.eval (.tmp 2) = .slice none 0 0 := (hr 2 rfl).trans h2_14
    have h3_15 : act15.eval (.tmp 3) = .int .i64 ((List.flatten (List.take k ls)).length : Nat) := (hr 3 rfl).trans h3_14
    have h9_15 : act15.eval (.tmp 9) = lv := (hr 9 rfl).trans h9_14
    have h10_15 : act15.eval (.tmp 10) = .int .i64 ((ls.length : Nat) : Int) := (hr 10 rfl).trans h10_14
    have h11_15 : act15.eval (.tmp 11) = .int .i64 (k : Nat) := (hr 11 rfl).trans h11_14
    have h12_15 : act15.eval (.tmp 12) = .bool q12 := (hr 12 rfl).trans h12_14
    have h23_15 : act15.eval (.tmp 23) = .int .i64 ((List.flatten (List.take k ls)).length : Nat) := (hr 23 rfl).trans h23_14
    have h24_15 : act15.eval (.tmp 24) = v_14 := (hr 24 rfl).trans h24_14
    have h6_15 : act15.eval (.tmp 6) = v_14 := hv
    have d15 := d15.trans d14
    clear hv hr
    refine EngI.tail_nil ?_
    first | show Code.wp Tryd.prog _ _ _ _ | skip
    refine wp_seq ?_
    refine wp_seq ?_
    refine Eng.regionS (Eng.still [fun u_ => u_ = lv, fun u_ => u_ = .int .i64 ((ls.length : Nat) : Int), fun u_ => u_ = .int .i64 0]) (fun i => ([.plain, .plain, .plain] : List Eng.Kind).getD i .plain) 3 0 36 s15 rfl (by kernel_rfl) (Eng.still_stable _) (Or.inr (Eng.still_any _)) ?_ ?_
    · refine Eng.Steps.cons (fun _ => ?_) (Eng.Steps.cons (fun _ => ?_) (Eng.Steps.cons (fun _ => ?_) (Eng.Steps.nil)))
      · refine Eng.plain rfl rfl fun a w' H => ?_
        exact Eng.val (w1 := w') (v := lv) (Eng.run_move rfl ((H.kept 0 (by kernel_rfl)).trans h0_15)) (Below.refl _ _) rfl
      · refine Eng.plain rfl rfl fun a w' H => ?_
        refine Eng.val (w1 := w') (v := .int .i64 ((ls.length : Nat) : Int)) ?_ (Below.refl _ _) rfl
        exact Eng.run_len_sl rfl Tryd.underlying132 (show a.eval (.tmp 25) = lv from (H.dep 0 25 (by kernel_rfl) rfl)) (Eng.Reads.below Fll_14 H.below)
      · refine Eng.plain rfl rfl fun a w' H => ?_
        exact Eng.val (w1 := w') (v := .int .i64 0) (Eng.run_move rfl (rfl : a.eval (.const (.int .i64 0)) = .int .i64 0)) (Below.refl _ _) rfl
    intro act16 w16 T
    have h0_16 : act16.eval (.tmp 0) = lv := (T.rest 0 (by kernel_rfl)).trans h0_15
    have h2_16 : act16.eval (.tmp 2) = .slice none 0 0 := (T.rest 2 (by kernel_rfl)).trans h2_15
    have h3_16 : act16.eval (.tmp 3) = .int .i64 ((List.flatten (List.take k ls)).length : Nat) := (T.rest 3 (by kernel_rfl)).trans h3_15
    have h6_16 : act16.eval (.tmp 6) = v_14 := (T.rest 6 (by kernel_rfl)).trans h6_15
    have h9_16 : act16.eval (.tmp 9) = lv := (T.rest 9 (by kernel_rfl)).trans h9_15
    have h10_16 : act16.eval (.tmp 10) = .int .i64 ((ls.length : Nat) : Int) := (T.rest 10 (by kernel_rfl)).trans h10_15
    have h11_16 : act16.eval (.tmp 11) = .int .i64 (k : Nat) := (T.rest 11 (by kernel_rfl)).trans h11_15
    have h12_16 : act16.eval (.tmp 12) = .bool q12 := (T.rest 12 (by kernel_rfl)).trans h12_15
    have Fll_16 := Eng.Reads.below Fll_14 T.below
    have Fgr_16 := Eng.Reads.below (Eng.Reads.of_own Ogr) T.below
    have Ogr_16 := Eng.own_below Ogr T.below
    have h25_16 : act16.eval (.tmp 25) = lv := T.done 0 25 rfl rfl
    have h26_16 : act16.eval (.tmp 26) = .int .i64 ((ls.length : Nat) : Int) := T.done 1 26 rfl rfl
    have h27_16 : act16.eval (.tmp 27) = .int .i64 0 := T.done 2 27 rfl rfl
    have d16 := T.defers.trans d15
    have s16 := T.size.trans s15
    have bl16 := bl14.trans (T.below.mono bl14.size)
    clear T
    refine Eng.tail_nil ?_
    first | show Code.wp Tryd.prog _ _ _ _ | skip
    refine wp_block ?_
    refine Eng.loopN (fun n a w' => ∃ (k2 : Nat) (v6 : Value), ls.length - k2 = n ∧ (k2 ≤ ls.length) ∧ (w'.ownsRow w.heap.size 9 1 v6 (List.flatten (List.take k2 ls)).length (Nfa.strs (List.flatten (List.take k2 ls)))) ∧ a.defers = [] ∧ a.tmps.size = 36 ∧ Below w.heap.size w w' ∧ a.eval (.tmp 0) = lv ∧ a.eval (.tmp 2) = .slice none 0 0 ∧ a.eval (.tmp 3) = .int .i64 ((List.flatten (List.take k ls)).length : Nat) ∧ a.eval (.tmp 6) = v6 ∧ a.eval (.tmp 9) = lv ∧ a.eval (.tmp 10) = .int .i64 ((ls.length : Nat) : Int) ∧ a.eval (.tmp 11) = .int .i64 (k : Nat) ∧ a.eval (.tmp 12) = .bool q12 ∧ a.eval (.tmp 25) = lv ∧ a.eval (.tmp 26) = .int .i64 ((ls.length : Nat) : Int) ∧ a.eval (.tmp 27) = .int .i64 (k2 : Nat)) (n0 := ls.length - 0) ?_ ?_
    · exact ⟨0, v_14, rfl, by omega, by exact Ogr_16, d16, s16, bl16, h0_16, h2_16, h3_16, (h6_16.trans (by first | rfl | (congr 1; rw [Eng.i64_id (by omega) (by omega)]; omega) | (simp; done))), h9_16, h10_16, h11_16, h12_16, h25_16, h26_16, (h27_16.trans (by first | rfl | (congr 1; rw [Eng.i64_id (by omega) (by omega)]; omega) | (simp; done)))⟩
    rintro n act17 w17 ⟨k2, v6, rfl, hc0_17, hc1_17, d17, s17, bl17, h0_17, h2_17, h3_17, h6_17, h9_17, h10_17, h11_17, h12_17, h25_17, h26_17, h27_17⟩
    have Fll_17 := Eng.Reads.below hp bl17
    have hk2 := hc0_17
    have hfk := Nfa.flat_le ls k2
    have Ft_17 := Eng.Reads.of_own hc1_17
    refine wp_seq ?_
    obtain ⟨q28, Bq28⟩ : ∃ b : Bool, b = (decide ((k2 : Nat) < ((ls.length : Nat) : Int))) := ⟨_, rfl⟩
    refine Eng.regionS (Eng.still [fun u_ => u_ = .bool q28]) (fun i => ([.plain] : List Eng.Kind).getD i .plain) 1 0 36 s17 rfl (by kernel_rfl) (Eng.still_stable _) (Or.inr (Eng.still_any _)) ?_ ?_
    · refine Eng.Steps.cons (fun _ => ?_) (Eng.Steps.nil)
      · refine Eng.plain rfl rfl fun a w' H => ?_
        refine Eng.val (w1 := w') (v := .bool (decide ((k2 : Nat) < ((ls.length : Nat) : Int)))) ?_ (Below.refl _ _) (by show _ = Value.bool q28; rw [Bq28])
        have e0 : a.eval (.tmp 27) = .int .i64 (k2 : Nat) := ((H.kept 27 (by kernel_rfl)).trans h27_17)
        have e1 : a.eval (.tmp 26) = .int .i64 ((ls.length : Nat) : Int) := ((H.kept 26 (by kernel_rfl)).trans h26_17)
        simp only [execOp, resolve, List.map_toArray, List.map_cons, List.map_nil, e0, e1]
        go_simp
        all_goals first | rfl | (simp; done) | (rw [Bool.eq_iff_iff]; simp; done) | omega | skip
    intro act18 w18 T
    have h0_18 : act18.eval (.tmp 0) = lv := (T.rest 0 (by kernel_rfl)).trans h0_17
    have h2_18 : act18.eval (.tmp 2) = .slice none 0 0 := (T.rest 2 (by kernel_rfl)).trans h2_17
    have h3_18 : act18.eval (.tmp 3) = .int .i64 ((List.flatten (List.take k ls)).length : Nat) := (T.rest 3 (by kernel_rfl)).trans h3_17
    have h6_18 : act18.eval (.tmp 6) = v6 := (T.rest 6 (by kernel_rfl)).trans h6_17
    have h9_18 : act18.eval (.tmp 9) = lv := (T.rest 9 (by kernel_rfl)).trans h9_17
    have h10_18 : act18.eval (.tmp 10) = .int .i64 ((ls.length : Nat) : Int) := (T.rest 10 (by kernel_rfl)).trans h10_17
    have h11_18 : act18.eval (.tmp 11) = .int .i64 (k : Nat) := (T.rest 11 (by kernel_rfl)).trans h11_17
    have h12_18 : act18.eval (.tmp 12) = .bool q12 := (T.rest 12 (by kernel_rfl)).trans h12_17
    have h25_18 : act18.eval (.tmp 25) = lv := (T.rest 25 (by kernel_rfl)).trans h25_17
    have h26_18 : act18.eval (.tmp 26) = .int .i64 ((ls.length : Nat) : Int) := (T.rest 26 (by kernel_rfl)).trans h26_17
    have h27_18 : act18.eval (.tmp 27) = .int .i64 (k2 : Nat) := (T.rest 27 (by kernel_rfl)).trans h27_17
    have Fll_18 := Eng.Reads.below Fll_17 T.below
    have Ft_18 := Eng.Reads.below Ft_17 T.below
    have Ot_18 := Eng.own_below hc1_17 T.below
    have h28_18 : act18.eval (.tmp 28) = .bool q28 := T.done 0 28 rfl rfl
    have d18 := T.defers.trans d17
    have s18 := T.size.trans s17
    have bl18 := bl17.trans (T.below.mono bl17.size)
    clear T
    refine Eng.tail_nil ?_
    first | show Code.wp Tryd.prog _ _ _ _ | skip
    refine wp_seq ?_
    refine wp_cond_split h28_18 (fun hq => ?_) (fun hq => ?_)
    ·
      have kn19 := hq
      have c28 := Bq28.symm.trans hq
      clear hq
      have c28 := of_decide_eq_true c28
      have hk0 : k2 < ls.length := by omega
      have Fin0 := hin k2 hk0
      have hfl := Nfa.flat_take ls hk0
      have hfm := Nfa.flat_le ls (k2 + 1)
      have Finn20 := Eng.Reads.below Fin0 bl18
      refine wp_skip ?_
      first | show Code.wp Tryd.prog _ _ _ _ | skip
      refine wp_seq ?_
      refine wp_block ?_
      refine wp_seq ?_
      refine Eng.regionS (Eng.still [fun u_ => u_ = Eng.elemPtr lv (k2 * 1), fun u_ => u_ = (us.getD k2 undef), fun u_ => u_ = (us.getD k2 undef)]) (fun i => ([.plain, .plain, .plain] : List Eng.Kind).getD i .plain) 3 0 36 s18 rfl (by kernel_rfl) (Eng.still_stable _) (Or.inr (Eng.still_any _)) ?_ ?_
      · refine Eng.Steps.cons (fun _ => ?_) (Eng.Steps.cons (fun _ => ?_) (Eng.Steps.cons (fun _ => ?_) (Eng.Steps.nil)))
        · refine Eng.plain rfl rfl fun a w' H => ?_
          refine Eng.val (w1 := w') (v := Eng.elemPtr lv (k2 * 1)) ?_ (Below.refl _ _) rfl
          exact Eng.run_index_sl rfl Tryd.underlying132 (by kernel_rfl) (show a.eval (.tmp 25) = lv from ((H.kept 25 (by kernel_rfl)).trans h25_18)) ((show a.eval (.tmp 27) = .int .i64 (k2 : Nat) from ((H.kept 27 (by kernel_rfl)).trans h27_18)).trans (congrArg (Value.int _) (show (k2 : Nat) = ((k2 : Nat) : Int) from by omega))) (Eng.Reads.below Fll_18 H.below) (by omega) rfl
        · refine Eng.plain rfl rfl fun a w' H => ?_
          refine Eng.val (w1 := w') (v := (us.getD k2 undef)) ?_ (Below.refl _ _) rfl
          exact Eng.run_load_el ((us.getD k2 undef)) rfl (show a.eval (.tmp 29) = Eng.elemPtr lv (k2 * 1) from (H.dep 0 29 (by kernel_rfl) rfl)) (Eng.Reads.below Fll_18 H.below) (Nfa.at_one us hul (by omega)) (by kernel_rfl)
        · refine Eng.plain rfl rfl fun a w' H => ?_
          exact Eng.val (w1 := w') (v := (us.getD k2 undef)) (Eng.run_assign rfl (H.dep 1 30 (by kernel_rfl) rfl)) (Below.refl _ _) rfl
      intro act21 w21 T
      have h0_21 : act21.eval (.tmp 0) = lv := (T.rest 0 (by kernel_rfl)).trans h0_18
      have h2_21 : act21.eval (.tmp 2) = .slice none 0 0 := (T.rest 2 (by kernel_rfl)).trans h2_18
      have h3_21 : act21.eval (.tmp 3) = .int .i64 ((List.flatten (List.take k ls)).length : Nat) := (T.rest 3 (by kernel_rfl)).trans h3_18
      have h6_21 : act21.eval (.tmp 6) = v6 := (T.rest 6 (by kernel_rfl)).trans h6_18
      have h9_21 : act21.eval (.tmp 9) = lv := (T.rest 9 (by kernel_rfl)).trans h9_18
      have h10_21 : act21.eval (.tmp 10) = .int .i64 ((ls.length : Nat) : Int) := (T.rest 10 (by kernel_rfl)).trans h10_18
      have h11_21 : act21.eval (.tmp 11) = .int .i64 (k : Nat) := (T.rest 11 (by kernel_rfl)).trans h11_18
      have h12_21 : act21.eval (.tmp 12) = .bool q12 := (T.rest 12 (by kernel_rfl)).trans h12_18
      have h25_21 : act21.eval (.tmp 25) = lv := (T.rest 25 (by kernel_rfl)).trans h25_18
      have h26_21 : act21.eval (.tmp 26) = .int .i64 ((ls.length : Nat) : Int) := (T.rest 26 (by kernel_rfl)).trans h26_18
      have h27_21 : act21.eval (.tmp 27) = .int .i64 (k2 : Nat) := (T.rest 27 (by kernel_rfl)).trans h27_18
      have h28_21 : act21.eval (.tmp 28) = .bool q28 := (T.rest 28 (by kernel_rfl)).trans h28_18
      have Fll_21 := Eng.Reads.below Fll_18 T.below
      have Ft_21 := Eng.Reads.below Ft_18 T.below
      have Ot_21 := Eng.own_below Ot_18 T.below
      have Finn_21 := Eng.Reads.below Finn20 T.below
      have h8_21 : act21.eval (.tmp 8) = (us.getD k2 undef) := T.done 2 8 rfl rfl
      have d21 := T.defers.trans d18
      have s21 := T.size.trans s18
      have bl21 := bl18.trans (T.below.mono bl18.size)
      clear T
      refine Eng.tail_nil ?_
      first | show Code.wp Tryd.prog _ _ _ _ | skip
      refine Eng.regionT (n := 4) rfl ?_
      refine Eng.tail_val rfl rfl rfl (Eng.run_move rfl h6_21) s21 rfl fun act22 d22 s22 hv hr => ?_
      have h0_22 : act22.eval (.tmp 0) = lv := (hr 0 rfl).trans h0_21
      have h2_22 : act22.eval (.tmp 2) = .slice none 0 0 := (hr 2 rfl).trans h2_21
      have h3_22 : act22.eval (.tmp 3) = .int .i64 ((List.flatten (List.take k ls)).length : Nat) := (hr 3 rfl).trans h3_21
      have h6_22 : act22.eval (.tmp 6) = v6 := (hr 6 rfl).trans h6_21
      have h8_22 : act22.eval (.tmp 8) = (us.getD k2 undef) := (hr 8 rfl).trans h8_21
      have h9_22 : act22.eval (.tmp 9) = lv := (hr 9 rfl).trans h9_21
      have h10_22 : act22.eval (.tmp 10) = .int .i64 ((ls.length : Nat) : Int) := (hr 10 rfl).trans h10_21
      have h11_22 : act22.eval (.tmp 11) = .int .i64 (k : Nat) := (hr 11 rfl).trans h11_21
      have h12_22 : act22.eval (.tmp 12) = .bool q12 := (hr 12 rfl).trans h12_21
      have h25_22 : act22.eval (.tmp 25) = lv := (hr 25 rfl).trans h25_21
      have h26_22 : act22.eval (.tmp 26) = .int .i64 ((ls.length : Nat) : Int) := (hr 26 rfl).trans h26_21
      have h27_22 : act22.eval (.tmp 27) = .int .i64 (k2 : Nat) := (hr 27 rfl).trans h27_21
      have h28_22 : act22.eval (.tmp 28) = .bool q28 := (hr 28 rfl).trans h28_21
      have h31_22 : act22.eval (.tmp 31) = v6 := hv
      have d22 := d22.trans d21
      clear hv hr
      refine Eng.tail_val rfl rfl rfl (Eng.run_move rfl h8_22) s22 rfl fun act23 d23 s23 hv hr => ?_
      have h0_23 : act23.eval (.tmp 0) = lv := (hr 0 rfl).trans h0_22
      have h2_23 : act23.eval (.tmp 2) = .slice none 0 0 := (hr 2 rfl).trans h2_22
      have h3_23 : act23.eval (.tmp 3) = .int .i64 ((List.flatten (List.take k ls)).length : Nat) := (hr 3 rfl).trans h3_22
      have h6_23 : act23.eval (.tmp 6) = v6 := (hr 6 rfl).trans h6_22
      have h8_23 : act23.eval (.tmp 8) = (us.getD k2 undef) := (hr 8 rfl).trans h8_22
      have h9_23 : act23.eval (.tmp 9) = lv := (hr 9 rfl).trans h9_22
      have h10_23 : act23.eval (.tmp 10) = .int .i64 ((ls.length : Nat) : Int) := (hr 10 rfl).trans h10_22
      have h11_23 : act23.eval (.tmp 11) = .int .i64 (k : Nat) := (hr 11 rfl).trans h11_22
      have h12_23 : act23.eval (.tmp 12) = .bool q12 := (hr 12 rfl).trans h12_22
      have h25_23 : act23.eval (.tmp 25) = lv := (hr 25 rfl).trans h25_22
      have h26_23 : act23.eval (.tmp 26) = .int .i64 ((ls.length : Nat) : Int) := (hr 26 rfl).trans h26_22
      have h27_23 : act23.eval (.tmp 27) = .int .i64 (k2 : Nat) := (hr 27 rfl).trans h27_22
      have h28_23 : act23.eval (.tmp 28) = .bool q28 := (hr 28 rfl).trans h28_22
      have h31_23 : act23.eval (.tmp 31) = v6 := (hr 31 rfl).trans h31_22
      have h32_23 : act23.eval (.tmp 32) = (us.getD k2 undef) := hv
      have d23 := d23.trans d22
      clear hv hr
      refine Eng.tail_ex rfl rfl rfl (Eng.run_appendI (z := .string ⟨#[]⟩) rfl Tryd.underlying43 (by kernel_rfl) rfl rfl h31_23 Ot_21 h32_23 Finn_21 (Nfa.strs_one _) (by omega) bl21.size) s23 rfl fun v_24 w24 act24 R d24 s24 hv hr => ?_
      obtain ⟨O_24, _, b_24, G_24, _⟩ := R
      have h0_24 : act24.eval (.tmp 0) = lv := (hr 0 rfl).trans h0_23
      have h2_24 : act24.eval (.tmp 2) = .slice none 0 0 := (hr 2 rfl).trans h2_23
      have h3_24 : act24.eval (.tmp 3) = .int .i64 ((List.flatten (List.take k ls)).length : Nat) := (hr 3 rfl).trans h3_23
      have h6_24 : act24.eval (.tmp 6) = v6 := (hr 6 rfl).trans h6_23
      have h8_24 : act24.eval (.tmp 8) = (us.getD k2 undef) := (hr 8 rfl).trans h8_23
      have h9_24 : act24.eval (.tmp 9) = lv := (hr 9 rfl).trans h9_23
      have h10_24 : act24.eval (.tmp 10) = .int .i64 ((ls.length : Nat) : Int) := (hr 10 rfl).trans h10_23
      have h11_24 : act24.eval (.tmp 11) = .int .i64 (k : Nat) := (hr 11 rfl).trans h11_23
      have h12_24 : act24.eval (.tmp 12) = .bool q12 := (hr 12 rfl).trans h12_23
      have h25_24 : act24.eval (.tmp 25) = lv := (hr 25 rfl).trans h25_23
      have h26_24 : act24.eval (.tmp 26) = .int .i64 ((ls.length : Nat) : Int) := (hr 26 rfl).trans h26_23
      have h27_24 : act24.eval (.tmp 27) = .int .i64 (k2 : Nat) := (hr 27 rfl).trans h27_23
      have h28_24 : act24.eval (.tmp 28) = .bool q28 := (hr 28 rfl).trans h28_23
      have h31_24 : act24.eval (.tmp 31) = v6 := (hr 31 rfl).trans h31_23
      have h32_24 : act24.eval (.tmp 32) = (us.getD k2 undef) := (hr 32 rfl).trans h32_23
      have h33_24 : act24.eval (.tmp 33) = v_24 := hv
      have d24 := d24.trans d23
      clear hv hr
      have bl24 := bl21.trans b_24
      have Fll_24 := Eng.Reads.below hp bl24
      have Finn_24 := Eng.Reads.below Fin0 bl24
      have Oa24 : w24.ownsRow w.heap.size 9 1 v_24 (List.flatten (List.take (k2 + 1) ls)).length (Nfa.strs (List.flatten (List.take (k2 + 1) ls))) := (by rw [Nfa.take_flat ls hk0]; exact Nfa.strs_cat O_24)
      have Fa24 := Eng.Reads.of_own Oa24
      refine Eng.tail_val rfl rfl rfl (Eng.run_assign rfl h33_24) s24 rfl fun act25 d25 s25 hv hr => ?_
      have h0_25 : act25.eval (.tmp 0) = lv := (hr 0 rfl).trans h0_24
      have h2_25 : act25.eval (.tmp 2) = .slice none 0 0 := (hr 2 rfl).trans h2_24
      have h3_25 : act25.eval (.tmp 3) = .int .i64 ((List.flatten (List.take k ls)).length : Nat) := (hr 3 rfl).trans h3_24
      have h8_25 : act25.eval (.tmp 8) = (us.getD k2 undef) := (hr 8 rfl).trans h8_24
      have h9_25 : act25.eval (.tmp 9) = lv := (hr 9 rfl).trans h9_24
      have h10_25 : act25.eval (.tmp 10) = .int .i64 ((ls.length : Nat) : Int) := (hr 10 rfl).trans h10_24
      have h11_25 : act25.eval (.tmp 11) = .int .i64 (k : Nat) := (hr 11 rfl).trans h11_24
      have h12_25 : act25.eval (.tmp 12) = .bool q12 := (hr 12 rfl).trans h12_24
      have h25_25 : act25.eval (.tmp 25) = lv := (hr 25 rfl).trans h25_24
      have h26_25 : act25.eval (.tmp 26) = .int .i64 ((ls.length : Nat) : Int) := (hr 26 rfl).trans h26_24
      have h27_25 : act25.eval (.tmp 27) = .int .i64 (k2 : Nat) := (hr 27 rfl).trans h27_24
      have h28_25 : act25.eval (.tmp 28) = .bool q28 := (hr 28 rfl).trans h28_24
      have h31_25 : act25.eval (.tmp 31) = v6 := (hr 31 rfl).trans h31_24
      have h32_25 : act25.eval (.tmp 32) = (us.getD k2 undef) := (hr 32 rfl).trans h32_24
      have h33_25 : act25.eval (.tmp 33) = v_24 := (hr 33 rfl).trans h33_24
      have h6_25 : act25.eval (.tmp 6) = v_24 := hv
      have d25 := d25.trans d24
      clear hv hr
      refine Eng.tail_nil ?_
      first | show Code.wp Tryd.prog _ _ _ _ | skip
      refine Eng.regionS (Eng.still [fun u_ => u_ = .int .i64 (IntKind.i64.wrap ((k2 : Nat) + 1)), fun u_ => u_ = .int .i64 (IntKind.i64.wrap ((k2 : Nat) + 1))]) (fun i => ([.plain, .plain] : List Eng.Kind).getD i .plain) 2 0 36 s25 rfl (by kernel_rfl) (Eng.still_stable _) (Or.inr (Eng.still_any _)) ?_ ?_
      · refine Eng.Steps.cons (fun _ => ?_) (Eng.Steps.cons (fun _ => ?_) (Eng.Steps.nil))
        · refine Eng.plain rfl rfl fun a w' H => ?_
          refine Eng.val (w1 := w') (v := .int .i64 (IntKind.i64.wrap ((k2 : Nat) + 1))) ?_ (Below.refl _ _) rfl
          have e0 : a.eval (.tmp 27) = .int .i64 (k2 : Nat) := ((H.kept 27 (by kernel_rfl)).trans h27_25)
          have e1 : a.eval (.const (.int .i64 1)) = .int .i64 1 := (rfl : a.eval (.const (.int .i64 1)) = .int .i64 1)
          simp only [execOp, resolve, List.map_toArray, List.map_cons, List.map_nil, e0, e1]
          go_simp
          all_goals first | rfl | (simp; done) | (rw [Bool.eq_iff_iff]; simp; done) | omega | skip
        · refine Eng.plain rfl rfl fun a w' H => ?_
          exact Eng.val (w1 := w') (v := .int .i64 (IntKind.i64.wrap ((k2 : Nat) + 1))) (Eng.run_move rfl (H.dep 0 34 (by kernel_rfl) rfl)) (Below.refl _ _) rfl
      intro act26 w26 T
      have h0_26 : act26.eval (.tmp 0) = lv := (T.rest 0 (by kernel_rfl)).trans h0_25
      have h2_26 : act26.eval (.tmp 2) = .slice none 0 0 := (T.rest 2 (by kernel_rfl)).trans h2_25
      have h3_26 : act26.eval (.tmp 3) = .int .i64 ((List.flatten (List.take k ls)).length : Nat) := (T.rest 3 (by kernel_rfl)).trans h3_25
      have h6_26 : act26.eval (.tmp 6) = v_24 := (T.rest 6 (by kernel_rfl)).trans h6_25
      have h8_26 : act26.eval (.tmp 8) = (us.getD k2 undef) := (T.rest 8 (by kernel_rfl)).trans h8_25
      have h9_26 : act26.eval (.tmp 9) = lv := (T.rest 9 (by kernel_rfl)).trans h9_25
      have h10_26 : act26.eval (.tmp 10) = .int .i64 ((ls.length : Nat) : Int) := (T.rest 10 (by kernel_rfl)).trans h10_25
      have h11_26 : act26.eval (.tmp 11) = .int .i64 (k : Nat) := (T.rest 11 (by kernel_rfl)).trans h11_25
      have h12_26 : act26.eval (.tmp 12) = .bool q12 := (T.rest 12 (by kernel_rfl)).trans h12_25
      have h25_26 : act26.eval (.tmp 25) = lv := (T.rest 25 (by kernel_rfl)).trans h25_25
      have h26_26 : act26.eval (.tmp 26) = .int .i64 ((ls.length : Nat) : Int) := (T.rest 26 (by kernel_rfl)).trans h26_25
      have h28_26 : act26.eval (.tmp 28) = .bool q28 := (T.rest 28 (by kernel_rfl)).trans h28_25
      have Fll_26 := Eng.Reads.below Fll_24 T.below
      have Finn_26 := Eng.Reads.below Finn_24 T.below
      have Fa24_26 := Eng.Reads.below Fa24 T.below
      have Oa24_26 := Eng.own_below Oa24 T.below
      have h27_26 : act26.eval (.tmp 27) = .int .i64 (IntKind.i64.wrap ((k2 : Nat) + 1)) := T.done 1 27 rfl rfl
      have d26 := T.defers.trans d25
      have s26 := T.size.trans s25
      have bl26 := bl24.trans (T.below.mono bl24.size)
      clear T
      refine Eng.tail_nil ?_
      exact ⟨_, by omega, k2 + 1, v_24, rfl, by omega, Oa24_26, d26, s26, bl26, h0_26, h2_26, h3_26, (h6_26.trans (by first | rfl | (congr 1; rw [Eng.i64_id (by omega) (by omega)]; omega) | (simp; done))), h9_26, h10_26, h11_26, h12_26, h25_26, h26_26, (h27_26.trans (by first | rfl | (congr 1; rw [Eng.i64_id (by omega) (by omega)]; omega) | (simp; done)))⟩
    ·
      have kn27 := hq
      have c28 := Bq28.symm.trans hq
      clear hq
      have c28 := of_decide_eq_false c28
      refine wp_exit ?_
      first | show Code.wp Tryd.prog _ _ _ _ | skip
      first | show Code.wp Tryd.prog _ _ _ _ | skip
      refine wp_seq ?_
      refine Eng.regionS (Eng.still [fun u_ => u_ = v6, fun u_ => u_ = v6]) (fun i => ([.plain, .plain] : List Eng.Kind).getD i .plain) 2 0 36 s18 rfl (by kernel_rfl) (Eng.still_stable _) (Or.inr (Eng.still_any _)) ?_ ?_
      · refine Eng.Steps.cons (fun _ => ?_) (Eng.Steps.cons (fun _ => ?_) (Eng.Steps.nil))
        · refine Eng.plain rfl rfl fun a w' H => ?_
          exact Eng.val (w1 := w') (v := v6) (Eng.run_move rfl ((H.kept 6 (by kernel_rfl)).trans h6_18)) (Below.refl _ _) rfl
        · refine Eng.plain rfl rfl fun a w' H => ?_
          exact Eng.val (w1 := w') (v := v6) (Eng.run_assign rfl (H.dep 0 35 (by kernel_rfl) rfl)) (Below.refl _ _) rfl
      intro act28 w28 T
      have h0_28 : act28.eval (.tmp 0) = lv := (T.rest 0 (by kernel_rfl)).trans h0_18
      have h3_28 : act28.eval (.tmp 3) = .int .i64 ((List.flatten (List.take k ls)).length : Nat) := (T.rest 3 (by kernel_rfl)).trans h3_18
      have h6_28 : act28.eval (.tmp 6) = v6 := (T.rest 6 (by kernel_rfl)).trans h6_18
      have h9_28 : act28.eval (.tmp 9) = lv := (T.rest 9 (by kernel_rfl)).trans h9_18
      have h10_28 : act28.eval (.tmp 10) = .int .i64 ((ls.length : Nat) : Int) := (T.rest 10 (by kernel_rfl)).trans h10_18
      have h11_28 : act28.eval (.tmp 11) = .int .i64 (k : Nat) := (T.rest 11 (by kernel_rfl)).trans h11_18
      have h12_28 : act28.eval (.tmp 12) = .bool q12 := (T.rest 12 (by kernel_rfl)).trans h12_18
      have h25_28 : act28.eval (.tmp 25) = lv := (T.rest 25 (by kernel_rfl)).trans h25_18
      have h26_28 : act28.eval (.tmp 26) = .int .i64 ((ls.length : Nat) : Int) := (T.rest 26 (by kernel_rfl)).trans h26_18
      have h27_28 : act28.eval (.tmp 27) = .int .i64 (k2 : Nat) := (T.rest 27 (by kernel_rfl)).trans h27_18
      have h28_28 : act28.eval (.tmp 28) = .bool q28 := (T.rest 28 (by kernel_rfl)).trans h28_18
      have Fll_28 := Eng.Reads.below Fll_18 T.below
      have Ft_28 := Eng.Reads.below Ft_18 T.below
      have Ot_28 := Eng.own_below Ot_18 T.below
      have h2_28 : act28.eval (.tmp 2) = v6 := T.done 1 2 rfl rfl
      have d28 := T.defers.trans d18
      have s28 := T.size.trans s18
      have bl28 := bl18.trans (T.below.mono bl18.size)
      clear T
      refine Eng.tail_nil ?_
      first | show Code.wp Tryd.prog _ _ _ _ | skip
      refine wp_ret ?_
      repeat (first | refine Eng.in_ret ?_ | refine Eng.then_ret ?_)
      obtain rfl : k2 = ls.length := by omega
      have Ol := Ot_28
      rw [List.take_length] at Ol
      exact Eng.ret1 rfl d28 h2_28 ⟨_, rfl, Ol, bl28⟩
end Go.Proofs.YthgafcaoibfchaaDoor.X
end
section
namespace Go.Proofs.YthgafcaoibfchaaDoor.X
open Go Go.RowKit Go.Shelf Go.Proofs
set_option linter.unusedVariables false
theorem Pth.Each.mono {B B' : Nat} {ps : List (List Pth.Part)} {vs : List Value} {w : World} (h : Pth.Each B ps vs w) (hB : B' ≤ B) : Pth.Each B' ps vs w := ⟨h.len, fun i hi => Eng.own_mono (h.row i hi) hB⟩
theorem Nfa.two_strs {w : World} {v0 v1 : Value} {l0 l1 : List ByteArray} (F0 : Eng.Reads w v0 l0.length 1 (Nfa.strs l0)) (F1 : Eng.Reads w v1 l1.length 1 (Nfa.strs l1)) : ∀ k, k < [l0, l1].length → Eng.Reads w ([v0, v1].getD k undef) ([l0, l1].getD k []).length 1 (Nfa.strs ([l0, l1].getD k []))
  | 0, _ => F0
  | 1, _ => F1
  | k + 2, h => absurd h (by simp)
namespace Nfa
def more (ps : List (List Pth.Part)) (bs : List Int) (s : List Int) (l : List ByteArray) : List Int := l.foldl (step ps bs) s
theorem more_len {ps : List (List Pth.Part)} {bs : List Int} {s : List Int} (h : s.length = 8) (l : List ByteArray) : (more ps bs s l).length = 8 := by
  unfold more
  induction l generalizing s with
  | nil => exact h
  | cons x l ih => exact ih (step_len _ _ _ _)
theorem more_take (ps : List (List Pth.Part)) (bs : List Int) (s : List Int) {l : List ByteArray} {k : Nat} (h : k < l.length) : more ps bs s (l.take (k + 1)) = step ps bs (more ps bs s (l.take k)) (l.getD k default) := by
  unfold more
  rw [List.take_add_one, List.getElem?_eq_getElem h, List.foldl_append, List.getD_eq_getElem?_getD, List.getElem?_eq_getElem h]; rfl
theorem run_flat (ps : List (List Pth.Part)) (bs : List Int) (a b : List ByteArray) : (run ps bs (List.flatten [a, b]) == more ps bs (run ps bs a) b) = true := by
  rw [beq_iff_eq]
  show run ps bs (a ++ (b ++ [])) = _
  rw [List.append_nil]
  exact List.foldl_append
end Nfa
end Go.Proofs.YthgafcaoibfchaaDoor.X
end
