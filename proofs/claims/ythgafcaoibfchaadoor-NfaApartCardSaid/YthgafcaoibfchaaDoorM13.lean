/- Words and walks that the row of NfaApart needs: printed by programs, and plain laws. -/
import Derived.Test.YthgafcaoibfchaaDoorM12
import Derived.Test.YthgafcaoibfchaaDoorM4
section
namespace Go.Proofs.YthgafcaoibfchaaDoor.X
open Go.RowKit Go.Shelf Go.Proofs Go.Proofs.YthgafcaoibfchaaDoorW.PrintWords Go.Proofs.YthgafcaoibfchaaDoorW.PrintLast Go.Proofs.YthgafcaoibfchaaDoorW.PrintMore
set_option linter.unusedVariables false
set_option linter.unusedSimpArgs false
attribute [local go_sem] max2_int min2_int max_two min_two
set_option maxHeartbeats 4000000 in
set_option maxRecDepth 100000 in
theorem Nfa.index_calls (xv : Value) (l : List Int) (x : Int) (w : World) (hx : Eng.Reads w xv l.length 1 (Nfa.ints l)) : Calls Tryd.prog 87 #[xv, .int .i64 x] w fun e w' => e = .returned (.int .i64 (Nfa.idx l x 0)) ∧ Below w.heap.size w w' := by
  have hm := Eng.Reads.len_le hx
  refine Eng.enter Tryd.func87 rfl fun act0 d0 s0 v0 => ?_
  have s0 : act0.tmps.size = 19 := s0
  have h0_0 : act0.eval (.tmp 0) = xv := v0 0 (by simp)
  have h1_0 : act0.eval (.tmp 1) = .int .i64 x := v0 1 (by simp)
  clear v0
  have bl0 : Below w.heap.size w w := Below.refl _ _
  refine wp_seq ?_
  refine Eng.regionS (Eng.still [fun u_ => u_ = .int .i64 0]) (fun i => ([.plain] : List Eng.Kind).getD i .plain) 1 0 19 s0 rfl (by kernel_rfl) (Eng.still_stable _) (Or.inr (Eng.still_any _)) ?_ ?_
  · refine Eng.Steps.cons (fun _ => ?_) (Eng.Steps.nil)
    · refine Eng.plain rfl rfl fun a w' H => ?_
      exact Eng.val (w1 := w') (v := .int .i64 0) (Eng.run_assign rfl (rfl : a.eval (.const (.int .i64 0)) = .int .i64 0)) (Below.refl _ _) rfl
  intro act1 w1 T
  have h0_1 : act1.eval (.tmp 0) = xv := (T.rest 0 (by kernel_rfl)).trans h0_0
  have h1_1 : act1.eval (.tmp 1) = .int .i64 x := (T.rest 1 (by kernel_rfl)).trans h1_0
  have Fxx_1 := Eng.Reads.below hx T.below
  have h4_1 : act1.eval (.tmp 4) = .int .i64 0 := T.done 0 4 rfl rfl
  have d1 := T.defers.trans d0
  have s1 := T.size.trans s0
  have bl1 := bl0.trans (T.below.mono bl0.size)
  clear T
  refine Eng.tail_nil ?_
  first | show Code.wp Tryd.prog _ _ _ _ | skip
  refine wp_seq ?_
  refine wp_seq ?_
  refine Eng.regionS (Eng.still [fun u_ => u_ = xv, fun u_ => u_ = .int .i64 ((l.length : Nat) : Int), fun u_ => u_ = .int .i64 0]) (fun i => ([.plain, .plain, .plain] : List Eng.Kind).getD i .plain) 3 0 19 s1 rfl (by kernel_rfl) (Eng.still_stable _) (Or.inr (Eng.still_any _)) ?_ ?_
  · refine Eng.Steps.cons (fun _ => ?_) (Eng.Steps.cons (fun _ => ?_) (Eng.Steps.cons (fun _ => ?_) (Eng.Steps.nil)))
    · refine Eng.plain rfl rfl fun a w' H => ?_
      exact Eng.val (w1 := w') (v := xv) (Eng.run_move rfl ((H.kept 0 (by kernel_rfl)).trans h0_1)) (Below.refl _ _) rfl
    · refine Eng.plain rfl rfl fun a w' H => ?_
      refine Eng.val (w1 := w') (v := .int .i64 ((l.length : Nat) : Int)) ?_ (Below.refl _ _) rfl
      exact Eng.run_len_sl rfl Tryd.underlying63 (show a.eval (.tmp 6) = xv from (H.dep 0 6 (by kernel_rfl) rfl)) (Eng.Reads.below Fxx_1 H.below)
    · refine Eng.plain rfl rfl fun a w' H => ?_
      exact Eng.val (w1 := w') (v := .int .i64 0) (Eng.run_move rfl (rfl : a.eval (.const (.int .i64 0)) = .int .i64 0)) (Below.refl _ _) rfl
  intro act2 w2 T
  have h0_2 : act2.eval (.tmp 0) = xv := (T.rest 0 (by kernel_rfl)).trans h0_1
  have h1_2 : act2.eval (.tmp 1) = .int .i64 x := (T.rest 1 (by kernel_rfl)).trans h1_1
  have h4_2 : act2.eval (.tmp 4) = .int .i64 0 := (T.rest 4 (by kernel_rfl)).trans h4_1
  have Fxx_2 := Eng.Reads.below Fxx_1 T.below
  have h7_2 : act2.eval (.tmp 7) = .int .i64 ((l.length : Nat) : Int) := T.done 1 7 rfl rfl
  have h8_2 : act2.eval (.tmp 8) = .int .i64 0 := T.done 2 8 rfl rfl
  have d2 := T.defers.trans d1
  have s2 := T.size.trans s1
  have bl2 := bl1.trans (T.below.mono bl1.size)
  clear T
  refine Eng.tail_nil ?_
  first | show Code.wp Tryd.prog _ _ _ _ | skip
  refine wp_block ?_
  refine Eng.loopN (fun n a w' => ∃ (k : Nat), l.length - k = n ∧ (k ≤ l.length) ∧ (Nfa.idx l x 0 = Nfa.idx (l.drop k) x (k : Nat)) ∧ a.defers = [] ∧ a.tmps.size = 19 ∧ Below w.heap.size w w' ∧ a.eval (.tmp 0) = xv ∧ a.eval (.tmp 1) = .int .i64 x ∧ a.eval (.tmp 7) = .int .i64 ((l.length : Nat) : Int) ∧ a.eval (.tmp 8) = .int .i64 (k : Nat)) (n0 := l.length - 0) ?_ ?_
  · exact ⟨0, rfl, by omega, by rw [List.drop_zero]; rfl, d2, s2, bl2, h0_2, h1_2, h7_2, (h8_2.trans (by first | rfl | (congr 1; rw [Eng.i64_id (by omega) (by omega)]; omega) | (simp; done)))⟩
  rintro n act3 w3 ⟨k, rfl, hc0_3, hc1_3, d3, s3, bl3, h0_3, h1_3, h7_3, h8_3⟩
  have Fxx_3 := Eng.Reads.below hx bl3
  have hk1 := hc0_3
  have hb1 := hc1_3
  refine wp_seq ?_
  obtain ⟨q9, Bq9⟩ : ∃ b : Bool, b = (decide ((k : Nat) < ((l.length : Nat) : Int))) := ⟨_, rfl⟩
  refine Eng.regionS (Eng.still [fun u_ => u_ = .bool q9]) (fun i => ([.plain] : List Eng.Kind).getD i .plain) 1 0 19 s3 rfl (by kernel_rfl) (Eng.still_stable _) (Or.inr (Eng.still_any _)) ?_ ?_
  · refine Eng.Steps.cons (fun _ => ?_) (Eng.Steps.nil)
    · refine Eng.plain rfl rfl fun a w' H => ?_
      refine Eng.val (w1 := w') (v := .bool (decide ((k : Nat) < ((l.length : Nat) : Int)))) ?_ (Below.refl _ _) (by show _ = Value.bool q9; rw [Bq9])
      have e0 : a.eval (.tmp 8) = .int .i64 (k : Nat) := ((H.kept 8 (by kernel_rfl)).trans h8_3)
      have e1 : a.eval (.tmp 7) = .int .i64 ((l.length : Nat) : Int) := ((H.kept 7 (by kernel_rfl)).trans h7_3)
      simp only [execOp, resolve, List.map_toArray, List.map_cons, List.map_nil, e0, e1]
      go_simp
      all_goals first | rfl | (simp; done) | (rw [Bool.eq_iff_iff]; simp; done) | omega | skip
  intro act4 w4 T
  have h0_4 : act4.eval (.tmp 0) = xv := (T.rest 0 (by kernel_rfl)).trans h0_3
  have h1_4 : act4.eval (.tmp 1) = .int .i64 x := (T.rest 1 (by kernel_rfl)).trans h1_3
  have h7_4 : act4.eval (.tmp 7) = .int .i64 ((l.length : Nat) : Int) := (T.rest 7 (by kernel_rfl)).trans h7_3
  have h8_4 : act4.eval (.tmp 8) = .int .i64 (k : Nat) := (T.rest 8 (by kernel_rfl)).trans h8_3
  have Fxx_4 := Eng.Reads.below Fxx_3 T.below
  have h9_4 : act4.eval (.tmp 9) = .bool q9 := T.done 0 9 rfl rfl
  have d4 := T.defers.trans d3
  have s4 := T.size.trans s3
  have bl4 := bl3.trans (T.below.mono bl3.size)
  clear T
  refine Eng.tail_nil ?_
  first | show Code.wp Tryd.prog _ _ _ _ | skip
  refine wp_seq ?_
  refine wp_cond_split h9_4 (fun hq => ?_) (fun hq => ?_)
  ·
    have kn5 := hq
    have c9 := Bq9.symm.trans hq
    clear hq
    have c9 := of_decide_eq_true c9
    have hk0 : k < l.length := by omega
    refine wp_skip ?_
    first | show Code.wp Tryd.prog _ _ _ _ | skip
    refine wp_seq ?_
    refine wp_block ?_
    refine wp_seq ?_
    refine Eng.regionS (Eng.still [fun u_ => u_ = .int .i64 (k : Nat), fun u_ => u_ = .int .i64 (k : Nat)]) (fun i => ([.plain, .plain] : List Eng.Kind).getD i .plain) 2 0 19 s4 rfl (by kernel_rfl) (Eng.still_stable _) (Or.inr (Eng.still_any _)) ?_ ?_
    · refine Eng.Steps.cons (fun _ => ?_) (Eng.Steps.cons (fun _ => ?_) (Eng.Steps.nil))
      · refine Eng.plain rfl rfl fun a w' H => ?_
        exact Eng.val (w1 := w') (v := .int .i64 (k : Nat)) (Eng.run_move rfl ((H.kept 8 (by kernel_rfl)).trans h8_4)) (Below.refl _ _) rfl
      · refine Eng.plain rfl rfl fun a w' H => ?_
        exact Eng.val (w1 := w') (v := .int .i64 (k : Nat)) (Eng.run_assign rfl (H.dep 0 10 (by kernel_rfl) rfl)) (Below.refl _ _) rfl
    intro act6 w6 T
    have h0_6 : act6.eval (.tmp 0) = xv := (T.rest 0 (by kernel_rfl)).trans h0_4
    have h1_6 : act6.eval (.tmp 1) = .int .i64 x := (T.rest 1 (by kernel_rfl)).trans h1_4
    have h7_6 : act6.eval (.tmp 7) = .int .i64 ((l.length : Nat) : Int) := (T.rest 7 (by kernel_rfl)).trans h7_4
    have h8_6 : act6.eval (.tmp 8) = .int .i64 (k : Nat) := (T.rest 8 (by kernel_rfl)).trans h8_4
    have h9_6 : act6.eval (.tmp 9) = .bool q9 := (T.rest 9 (by kernel_rfl)).trans h9_4
    have Fxx_6 := Eng.Reads.below Fxx_4 T.below
    have h5_6 : act6.eval (.tmp 5) = .int .i64 (k : Nat) := T.done 1 5 rfl rfl
    have d6 := T.defers.trans d4
    have s6 := T.size.trans s4
    have bl6 := bl4.trans (T.below.mono bl4.size)
    clear T
    refine Eng.tail_nil ?_
    first | show Code.wp Tryd.prog _ _ _ _ | skip
    refine wp_seq ?_
    obtain ⟨q16, Bq16⟩ : ∃ b : Bool, b = (x == (l.getD k 0)) := ⟨_, rfl⟩
    refine Eng.regionS (Eng.still [fun u_ => u_ = .int .i64 x, fun u_ => u_ = xv, fun u_ => u_ = .int .i64 (k : Nat), fun u_ => u_ = Eng.elemPtr xv (k * 1), fun u_ => u_ = .int .i64 (l.getD k 0), fun u_ => u_ = .bool q16]) (fun i => ([.plain, .plain, .plain, .plain, .plain, .plain] : List Eng.Kind).getD i .plain) 6 0 19 s6 rfl (by kernel_rfl) (Eng.still_stable _) (Or.inr (Eng.still_any _)) ?_ ?_
    · refine Eng.Steps.cons (fun _ => ?_) (Eng.Steps.cons (fun _ => ?_) (Eng.Steps.cons (fun _ => ?_) (Eng.Steps.cons (fun _ => ?_) (Eng.Steps.cons (fun _ => ?_) (Eng.Steps.cons (fun _ => ?_) (Eng.Steps.nil))))))
      · refine Eng.plain rfl rfl fun a w' H => ?_
        exact Eng.val (w1 := w') (v := .int .i64 x) (Eng.run_move rfl ((H.kept 1 (by kernel_rfl)).trans h1_6)) (Below.refl _ _) rfl
      · refine Eng.plain rfl rfl fun a w' H => ?_
        exact Eng.val (w1 := w') (v := xv) (Eng.run_move rfl ((H.kept 0 (by kernel_rfl)).trans h0_6)) (Below.refl _ _) rfl
      · refine Eng.plain rfl rfl fun a w' H => ?_
        exact Eng.val (w1 := w') (v := .int .i64 (k : Nat)) (Eng.run_move rfl ((H.kept 5 (by kernel_rfl)).trans h5_6)) (Below.refl _ _) rfl
      · refine Eng.plain rfl rfl fun a w' H => ?_
        refine Eng.val (w1 := w') (v := Eng.elemPtr xv (k * 1)) ?_ (Below.refl _ _) rfl
        exact Eng.run_index_sl rfl Tryd.underlying63 (by kernel_rfl) (show a.eval (.tmp 12) = xv from (H.dep 1 12 (by kernel_rfl) rfl)) ((show a.eval (.tmp 13) = .int .i64 (k : Nat) from (H.dep 2 13 (by kernel_rfl) rfl)).trans (congrArg (Value.int _) (show (k : Nat) = ((k : Nat) : Int) from by omega))) (Eng.Reads.below Fxx_6 H.below) (by omega) rfl
      · refine Eng.plain rfl rfl fun a w' H => ?_
        refine Eng.val (w1 := w') (v := .int .i64 (l.getD k 0)) ?_ (Below.refl _ _) rfl
        exact Eng.run_load_el (.int .i64 (l.getD k 0)) rfl (show a.eval (.tmp 14) = Eng.elemPtr xv (k * 1) from (H.dep 3 14 (by kernel_rfl) rfl)) (Eng.Reads.below Fxx_6 H.below) (Nfa.ints_at l k (by omega)) (by kernel_rfl)
      · refine Eng.plain rfl rfl fun a w' H => ?_
        refine Eng.val (w1 := w') (v := .bool (x == (l.getD k 0))) ?_ (Below.refl _ _) (by show _ = Value.bool q16; rw [Bq16])
        have e0 : a.eval (.tmp 11) = .int .i64 x := (H.dep 0 11 (by kernel_rfl) rfl)
        have e1 : a.eval (.tmp 15) = .int .i64 (l.getD k 0) := (H.dep 4 15 (by kernel_rfl) rfl)
        simp only [execOp, resolve, List.map_toArray, List.map_cons, List.map_nil, e0, e1]
        go_simp
        all_goals first | rfl | (simp; done) | (rw [Bool.eq_iff_iff]; simp; done) | omega | skip
    intro act7 w7 T
    have h0_7 : act7.eval (.tmp 0) = xv := (T.rest 0 (by kernel_rfl)).trans h0_6
    have h1_7 : act7.eval (.tmp 1) = .int .i64 x := (T.rest 1 (by kernel_rfl)).trans h1_6
    have h5_7 : act7.eval (.tmp 5) = .int .i64 (k : Nat) := (T.rest 5 (by kernel_rfl)).trans h5_6
    have h7_7 : act7.eval (.tmp 7) = .int .i64 ((l.length : Nat) : Int) := (T.rest 7 (by kernel_rfl)).trans h7_6
    have h8_7 : act7.eval (.tmp 8) = .int .i64 (k : Nat) := (T.rest 8 (by kernel_rfl)).trans h8_6
    have h9_7 : act7.eval (.tmp 9) = .bool q9 := (T.rest 9 (by kernel_rfl)).trans h9_6
    have Fxx_7 := Eng.Reads.below Fxx_6 T.below
    have h16_7 : act7.eval (.tmp 16) = .bool q16 := T.done 5 16 rfl rfl
    have d7 := T.defers.trans d6
    have s7 := T.size.trans s6
    have bl7 := bl6.trans (T.below.mono bl6.size)
    clear T
    refine Eng.tail_nil ?_
    first | show Code.wp Tryd.prog _ _ _ _ | skip
    refine wp_cond_split h16_7 (fun hq => ?_) (fun hq => ?_)
    ·
      have kn8 := hq
      have c16 := Bq16.symm.trans hq
      clear hq
      refine wp_seq ?_
      refine Eng.regionS (Eng.still [fun u_ => u_ = .int .i64 (k : Nat), fun u_ => u_ = .int .i64 (k : Nat)]) (fun i => ([.plain, .plain] : List Eng.Kind).getD i .plain) 2 0 19 s7 rfl (by kernel_rfl) (Eng.still_stable _) (Or.inr (Eng.still_any _)) ?_ ?_
      · refine Eng.Steps.cons (fun _ => ?_) (Eng.Steps.cons (fun _ => ?_) (Eng.Steps.nil))
        · refine Eng.plain rfl rfl fun a w' H => ?_
          exact Eng.val (w1 := w') (v := .int .i64 (k : Nat)) (Eng.run_move rfl ((H.kept 5 (by kernel_rfl)).trans h5_7)) (Below.refl _ _) rfl
        · refine Eng.plain rfl rfl fun a w' H => ?_
          exact Eng.val (w1 := w') (v := .int .i64 (k : Nat)) (Eng.run_assign rfl (H.dep 0 17 (by kernel_rfl) rfl)) (Below.refl _ _) rfl
      intro act9 w9 T
      have h0_9 : act9.eval (.tmp 0) = xv := (T.rest 0 (by kernel_rfl)).trans h0_7
      have h1_9 : act9.eval (.tmp 1) = .int .i64 x := (T.rest 1 (by kernel_rfl)).trans h1_7
      have h5_9 : act9.eval (.tmp 5) = .int .i64 (k : Nat) := (T.rest 5 (by kernel_rfl)).trans h5_7
      have h7_9 : act9.eval (.tmp 7) = .int .i64 ((l.length : Nat) : Int) := (T.rest 7 (by kernel_rfl)).trans h7_7
      have h8_9 : act9.eval (.tmp 8) = .int .i64 (k : Nat) := (T.rest 8 (by kernel_rfl)).trans h8_7
      have h9_9 : act9.eval (.tmp 9) = .bool q9 := (T.rest 9 (by kernel_rfl)).trans h9_7
      have h16_9 : act9.eval (.tmp 16) = .bool q16 := (T.rest 16 (by kernel_rfl)).trans h16_7
      have Fxx_9 := Eng.Reads.below Fxx_7 T.below
      have h4_9 : act9.eval (.tmp 4) = .int .i64 (k : Nat) := T.done 1 4 rfl rfl
      have d9 := T.defers.trans d7
      have s9 := T.size.trans s7
      have bl9 := bl7.trans (T.below.mono bl7.size)
      clear T
      refine Eng.tail_nil ?_
      first | show Code.wp Tryd.prog _ _ _ _ | skip
      refine wp_ret ?_
      repeat (first | refine Eng.in_ret ?_ | refine Eng.then_ret ?_)
      exact Eng.ret1 rfl d9 h4_9 ⟨by rw [hb1]; first | (rw [Nfa.idx_drop hk0, if_pos c16]; done) | (rw [List.drop_eq_nil_of_le (by omega)]; rfl), bl9⟩
    ·
      have kn10 := hq
      have c16 := Bq16.symm.trans hq
      clear hq
      refine wp_skip ?_
      first | show Code.wp Tryd.prog _ _ _ _ | skip
      refine Eng.regionS (Eng.still [fun u_ => u_ = .int .i64 (IntKind.i64.wrap ((k : Nat) + 1)), fun u_ => u_ = .int .i64 (IntKind.i64.wrap ((k : Nat) + 1))]) (fun i => ([.plain, .plain] : List Eng.Kind).getD i .plain) 2 0 19 s7 rfl (by kernel_rfl) (Eng.still_stable _) (Or.inr (Eng.still_any _)) ?_ ?_
      · refine Eng.Steps.cons (fun _ => ?_) (Eng.Steps.cons (fun _ => ?_) (Eng.Steps.nil))
        · refine Eng.plain rfl rfl fun a w' H => ?_
          refine Eng.val (w1 := w') (v := .int .i64 (IntKind.i64.wrap ((k : Nat) + 1))) ?_ (Below.refl _ _) rfl
          have e0 : a.eval (.tmp 8) = .int .i64 (k : Nat) := ((H.kept 8 (by kernel_rfl)).trans h8_7)
          have e1 : a.eval (.const (.int .i64 1)) = .int .i64 1 := (rfl : a.eval (.const (.int .i64 1)) = .int .i64 1)
          simp only [execOp, resolve, List.map_toArray, List.map_cons, List.map_nil, e0, e1]
          go_simp
          all_goals first | rfl | (simp; done) | (rw [Bool.eq_iff_iff]; simp; done) | omega | skip
        · refine Eng.plain rfl rfl fun a w' H => ?_
          exact Eng.val (w1 := w') (v := .int .i64 (IntKind.i64.wrap ((k : Nat) + 1))) (Eng.run_move rfl (H.dep 0 18 (by kernel_rfl) rfl)) (Below.refl _ _) rfl
      intro act11 w11 T
      have h0_11 : act11.eval (.tmp 0) = xv := (T.rest 0 (by kernel_rfl)).trans h0_7
      have h1_11 : act11.eval (.tmp 1) = .int .i64 x := (T.rest 1 (by kernel_rfl)).trans h1_7
      have h5_11 : act11.eval (.tmp 5) = .int .i64 (k : Nat) := (T.rest 5 (by kernel_rfl)).trans h5_7
      have h7_11 : act11.eval (.tmp 7) = .int .i64 ((l.length : Nat) : Int) := (T.rest 7 (by kernel_rfl)).trans h7_7
      have h9_11 : act11.eval (.tmp 9) = .bool q9 := (T.rest 9 (by kernel_rfl)).trans h9_7
      have h16_11 : act11.eval (.tmp 16) = .bool q16 := (T.rest 16 (by kernel_rfl)).trans h16_7
      have Fxx_11 := Eng.Reads.below Fxx_7 T.below
      have h8_11 : act11.eval (.tmp 8) = .int .i64 (IntKind.i64.wrap ((k : Nat) + 1)) := T.done 1 8 rfl rfl
      have d11 := T.defers.trans d7
      have s11 := T.size.trans s7
      have bl11 := bl7.trans (T.below.mono bl7.size)
      clear T
      refine Eng.tail_nil ?_
      exact ⟨_, by omega, k + 1, rfl, by omega, by rw [hb1, Nfa.idx_drop hk0, if_neg (by rw [c16]; simp)]; rfl, d11, s11, bl11, h0_11, h1_11, h7_11, (h8_11.trans (by first | rfl | (congr 1; rw [Eng.i64_id (by omega) (by omega)]; omega) | (simp; done)))⟩
  ·
    have kn12 := hq
    have c9 := Bq9.symm.trans hq
    clear hq
    have c9 := of_decide_eq_false c9
    refine wp_exit ?_
    first | show Code.wp Tryd.prog _ _ _ _ | skip
    first | show Code.wp Tryd.prog _ _ _ _ | skip
    refine wp_seq ?_
    refine Eng.regionS (Eng.still [fun u_ => u_ = .int .i64 (-1)]) (fun i => ([.plain] : List Eng.Kind).getD i .plain) 1 0 19 s4 rfl (by kernel_rfl) (Eng.still_stable _) (Or.inr (Eng.still_any _)) ?_ ?_
    · refine Eng.Steps.cons (fun _ => ?_) (Eng.Steps.nil)
      · refine Eng.plain rfl rfl fun a w' H => ?_
        exact Eng.val (w1 := w') (v := .int .i64 (-1)) (Eng.run_assign rfl (rfl : a.eval (.const (.int .i64 (-1))) = .int .i64 (-1))) (Below.refl _ _) rfl
    intro act13 w13 T
    have h0_13 : act13.eval (.tmp 0) = xv := (T.rest 0 (by kernel_rfl)).trans h0_4
    have h1_13 : act13.eval (.tmp 1) = .int .i64 x := (T.rest 1 (by kernel_rfl)).trans h1_4
    have h7_13 : act13.eval (.tmp 7) = .int .i64 ((l.length : Nat) : Int) := (T.rest 7 (by kernel_rfl)).trans h7_4
    have h8_13 : act13.eval (.tmp 8) = .int .i64 (k : Nat) := (T.rest 8 (by kernel_rfl)).trans h8_4
    have h9_13 : act13.eval (.tmp 9) = .bool q9 := (T.rest 9 (by kernel_rfl)).trans h9_4
    have Fxx_13 := Eng.Reads.below Fxx_4 T.below
    have h4_13 : act13.eval (.tmp 4) = .int .i64 (-1) := T.done 0 4 rfl rfl
    have d13 := T.defers.trans d4
    have s13 := T.size.trans s4
    have bl13 := bl4.trans (T.below.mono bl4.size)
    clear T
    refine Eng.tail_nil ?_
    first | show Code.wp Tryd.prog _ _ _ _ | skip
    refine wp_ret ?_
    repeat (first | refine Eng.in_ret ?_ | refine Eng.then_ret ?_)
    exact Eng.ret1 rfl d13 h4_13 ⟨by rw [hb1]; first | (rw [Nfa.idx_drop hk0, if_pos c16]; done) | (rw [List.drop_eq_nil_of_le (by omega)]; rfl), bl13⟩
set_option maxHeartbeats 4000000 in
set_option maxRecDepth 100000 in
theorem Nfa.contains_calls (xv : Value) (l : List Int) (x : Int) (w : World) (hx : Eng.Reads w xv l.length 1 (Nfa.ints l)) : Calls Tryd.prog 45 #[xv, .int .i64 x] w fun e w' => e = .returned (.bool (l.contains x)) ∧ Below w.heap.size w w' := by
  refine Eng.enter Tryd.func45 rfl fun act0 d0 s0 v0 => ?_
  have s0 : act0.tmps.size = 9 := s0
  have h0_0 : act0.eval (.tmp 0) = xv := v0 0 (by simp)
  have h1_0 : act0.eval (.tmp 1) = .int .i64 x := v0 1 (by simp)
  clear v0
  have bl0 : Below w.heap.size w w := Below.refl _ _
  refine wp_seq ?_
  refine Eng.regionS (Eng.still [fun u_ => u_ = .bool false]) (fun i => ([.plain] : List Eng.Kind).getD i .plain) 1 0 9 s0 rfl (by kernel_rfl) (Eng.still_stable _) (Or.inr (Eng.still_any _)) ?_ ?_
  · refine Eng.Steps.cons (fun _ => ?_) (Eng.Steps.nil)
    · refine Eng.plain rfl rfl fun a w' H => ?_
      exact Eng.val (w1 := w') (v := .bool false) (Eng.run_assign rfl (rfl : a.eval (.const (.bool false)) = .bool false)) (Below.refl _ _) rfl
  intro act1 w1 T
  have h0_1 : act1.eval (.tmp 0) = xv := (T.rest 0 (by kernel_rfl)).trans h0_0
  have h1_1 : act1.eval (.tmp 1) = .int .i64 x := (T.rest 1 (by kernel_rfl)).trans h1_0
  have Fxx_1 := Eng.Reads.below hx T.below
  have h4_1 : act1.eval (.tmp 4) = .bool false := T.done 0 4 rfl rfl
  have d1 := T.defers.trans d0
  have s1 := T.size.trans s0
  have bl1 := bl0.trans (T.below.mono bl0.size)
  clear T
  refine Eng.tail_nil ?_
  first | show Code.wp Tryd.prog _ _ _ _ | skip
  refine wp_seq ?_
  obtain ⟨q8, Bq8⟩ : ∃ b : Bool, b = (decide ((Nfa.idx l x 0) ≥ 0)) := ⟨_, rfl⟩
  refine Eng.regionS (Eng.still [fun u_ => u_ = xv, fun u_ => u_ = .int .i64 x, fun u_ => u_ = .int .i64 (Nfa.idx l x 0), fun u_ => u_ = .bool q8, fun u_ => u_ = .bool q8]) (fun i => ([.plain, .plain, .plain, .plain, .plain] : List Eng.Kind).getD i .plain) 5 0 9 s1 rfl (by kernel_rfl) (Eng.still_stable _) (Or.inr (Eng.still_any _)) ?_ ?_
  · refine Eng.Steps.cons (fun _ => ?_) (Eng.Steps.cons (fun _ => ?_) (Eng.Steps.cons (fun _ => ?_) (Eng.Steps.cons (fun _ => ?_) (Eng.Steps.cons (fun _ => ?_) (Eng.Steps.nil)))))
    · refine Eng.plain rfl rfl fun a w' H => ?_
      exact Eng.val (w1 := w') (v := xv) (Eng.run_move rfl ((H.kept 0 (by kernel_rfl)).trans h0_1)) (Below.refl _ _) rfl
    · refine Eng.plain rfl rfl fun a w' H => ?_
      exact Eng.val (w1 := w') (v := .int .i64 x) (Eng.run_move rfl ((H.kept 1 (by kernel_rfl)).trans h1_1)) (Below.refl _ _) rfl
    · refine Eng.plain rfl rfl fun a w' H => ?_
      refine Eng.call Tryd.func87 (by kernel_rfl) (by kernel_rfl) rfl #[xv, .int .i64 x] ?_ ?_
      · have e0 : a.eval (.tmp 5) = xv := (H.dep 0 5 (by kernel_rfl) rfl); have e1 : a.eval (.tmp 6) = .int .i64 x := (H.dep 1 6 (by kernel_rfl) rfl); simp only [List.map_toArray, List.map_cons, List.map_nil, e0, e1]
      refine (Nfa.index_calls xv l x _ (Eng.Reads.below Fxx_1 H.below)).mono ?_
      rintro e w'' ⟨rfl, hb⟩
      exact ⟨_, rfl, rfl, hb⟩
    · refine Eng.plain rfl rfl fun a w' H => ?_
      refine Eng.val (w1 := w') (v := .bool (decide ((Nfa.idx l x 0) ≥ 0))) ?_ (Below.refl _ _) (by show _ = Value.bool q8; rw [Bq8])
      have e0 : a.eval (.tmp 7) = .int .i64 (Nfa.idx l x 0) := (H.dep 2 7 (by kernel_rfl) rfl)
      have e1 : a.eval (.const (.int .i64 0)) = .int .i64 0 := (rfl : a.eval (.const (.int .i64 0)) = .int .i64 0)
      simp only [execOp, resolve, List.map_toArray, List.map_cons, List.map_nil, e0, e1]
      go_simp
      all_goals first | rfl | (simp; done) | (rw [Bool.eq_iff_iff]; simp; done) | omega | skip
    · refine Eng.plain rfl rfl fun a w' H => ?_
      exact Eng.val (w1 := w') (v := .bool q8) (Eng.run_assign rfl (H.dep 3 8 (by kernel_rfl) rfl)) (Below.refl _ _) rfl
  intro act2 w2 T
  have h0_2 : act2.eval (.tmp 0) = xv := (T.rest 0 (by kernel_rfl)).trans h0_1
  have h1_2 : act2.eval (.tmp 1) = .int .i64 x := (T.rest 1 (by kernel_rfl)).trans h1_1
  have Fxx_2 := Eng.Reads.below Fxx_1 T.below
  have h4_2 : act2.eval (.tmp 4) = .bool q8 := T.done 4 4 rfl rfl
  have d2 := T.defers.trans d1
  have s2 := T.size.trans s1
  have bl2 := bl1.trans (T.below.mono bl1.size)
  clear T
  refine Eng.tail_nil ?_
  first | show Code.wp Tryd.prog _ _ _ _ | skip
  refine wp_ret ?_
  repeat (first | refine Eng.in_ret ?_ | refine Eng.then_ret ?_)
  exact Eng.ret1 rfl d2 (h4_2.trans (by rw [Bq8, Nfa.idx_contains])) ⟨rfl, bl2⟩
end Go.Proofs.YthgafcaoibfchaaDoor.X
end
section
namespace Go.Proofs.YthgafcaoibfchaaDoor.X
open Go Go.RowKit Go.Shelf Go.Proofs Go.Proofs.YthgafcaoibfchaaDoorW.PrintWords Go.Proofs.YthgafcaoibfchaaDoorW.PrintLast Go.Proofs.YthgafcaoibfchaaDoorW.PrintMore
set_option linter.unusedVariables false
set_option linter.unusedSimpArgs false
namespace Nfa
def bv (x : Int) : BitVec 64 := BitVec.ofInt 64 x
theorem wrap_nat (A : BitVec 64) : IntKind.u64.wrap (A.toNat : Int) = (A.toNat : Int) := by
  have h := A.isLt
  simp only [IntKind.wrap, IntKind.bits, IntKind.signed, Bool.false_and, Bool.false_eq_true, if_false]
  omega
theorem bits_or (x y : Int) : Go.bits .or .u64 x y = ((bv x ||| bv y).toNat : Int) := wrap_nat _
theorem bits_and (x y : Int) : Go.bits .and .u64 x y = ((bv x &&& bv y).toNat : Int) := wrap_nat _
theorem bv_cast (n : Nat) : bv (n : Int) = BitVec.ofNat 64 n := by unfold bv; rw [BitVec.ofInt_natCast]
theorem bit_and (X r : Nat) (hr : r < 64) : (Go.bits .and .u64 (shr .u64 (X : Int) (r : Int)) 1 == 1) = X.testBit r := by
  have h1 : shr .u64 (X : Int) (r : Int) = ((X / 2 ^ r : Nat) : Int) := by
    rw [← shr_eq _ hr]; simp
  rw [h1, bits_and, bv_cast, show bv 1 = BitVec.ofNat 64 1 from rfl, BitVec.toNat_and, BitVec.toNat_ofNat, BitVec.toNat_ofNat, Nat.testBit_eq_decide_div_mod_eq]
  have h2 : X / 2 ^ r % 2 ^ 64 &&& 1 % 2 ^ 64 = X / 2 ^ r % 2 := by
    rw [show 1 % 2 ^ 64 = 1 from rfl, Nat.and_one_is_mod]
    omega
  rw [h2, Bool.eq_iff_iff, beq_iff_eq, decide_eq_true_eq]
  omega
theorem bit_or (X r : Nat) (hX : X < 2 ^ 64) (hr : r < 64) : Go.bits .or .u64 (X : Int) (shl .u64 1 (r : Int)) = ((X ||| 2 ^ r : Nat) : Int) ∧ X ||| 2 ^ r < 2 ^ 64 := by
  have hp : (2 : Nat) ^ r < 2 ^ 64 := Nat.pow_lt_pow_right (by omega) hr
  have h1 : shl .u64 1 (r : Int) = ((2 ^ r : Nat) : Int) := by
    rw [← shl_eq _ hr, Int.one_mul]
    have h2 : ((2 : Int) ^ r) = ((2 ^ r : Nat) : Int) := by simp
    rw [h2]
    have hw : ∀ q : Nat, q < 2 ^ 64 → IntKind.u64.wrap (q : Int) = (q : Int) := by
      intro q hq
      simp only [IntKind.wrap, IntKind.bits, IntKind.signed, Bool.false_and, Bool.false_eq_true, if_false]
      omega
    exact hw _ hp
  have h3 : X ||| 2 ^ r < 2 ^ 64 := Nat.or_lt_two_pow hX hp
  refine ⟨?_, h3⟩
  rw [h1, bits_or, bv_cast, bv_cast, BitVec.toNat_or, BitVec.toNat_ofNat, BitVec.toNat_ofNat, Nat.mod_eq_of_lt hX, Nat.mod_eq_of_lt hp]
structure Good (s : List Int) : Prop where
  len : s.length = 8
  lo : ∀ i, i < 8 → 0 ≤ at_ s i
  hi : ∀ i, i < 8 → at_ s i < 18446744073709551616
theorem good0 : Good (List.replicate 8 0) := by
  refine ⟨by simp, fun i hi => ?_, fun i hi => ?_⟩ <;> (unfold at_; rw [List.getD_eq_getElem?_getD, List.getElem?_replicate]; split <;> simp)
theorem has_eq {s : List Int} (hg : Good s) {n : Nat} (hn : n < 512) : has s (n : Int) = (at_ s (n / 64)).toNat.testBit (n % 64) := by
  have hd : n / 64 < 8 := by omega
  obtain ⟨X, hX⟩ := Int.eq_ofNat_of_zero_le (hg.lo _ hd)
  unfold has
  rw [Int.toNat_natCast, hX, bit_and X _ (by omega), Int.toNat_natCast]
  have h1 : decide ((n : Int) ≥ 0) = true := by simp
  have h2 : decide ((n : Int) < 512) = true := by simp; omega
  rw [h1, h2]; simp
theorem at_set (s : List Int) (i j : Nat) (x : Int) (hi : i < s.length) : at_ (s.set i x) j = if i = j then x else at_ s j := by
  unfold at_
  rw [List.getD_eq_getElem?_getD, List.getD_eq_getElem?_getD, List.getElem?_set]
  by_cases h : i = j
  · subst h; rw [if_pos rfl, if_pos rfl, if_pos hi]; rfl
  · rw [if_neg h, if_neg h]
theorem put_eq {s : List Int} (hg : Good s) {n : Nat} (hn : n < 512) : put s (n : Int) = s.set (n / 64) (((at_ s (n / 64)).toNat ||| 2 ^ (n % 64) : Nat) : Int) ∧ (at_ s (n / 64)).toNat ||| 2 ^ (n % 64) < 2 ^ 64 := by
  have hd : n / 64 < 8 := by omega
  obtain ⟨X, hX⟩ := Int.eq_ofNat_of_zero_le (hg.lo _ hd)
  have hlt : X < 2 ^ 64 := by have := hg.hi _ hd; rw [hX] at this; omega
  have h := bit_or X (n % 64) hlt (by omega)
  rw [put_in (by omega) (by omega), Int.toNat_natCast, hX, Int.toNat_natCast, h.1]
  exact ⟨rfl, h.2⟩
theorem good_put {s : List Int} (hg : Good s) (n : Int) : Good (put s n) := by
  by_cases h : 0 ≤ n ∧ n < 512
  · obtain ⟨m, rfl⟩ := Int.eq_ofNat_of_zero_le h.1
    obtain ⟨h1, h2⟩ := put_eq hg (show m < 512 by omega)
    rw [h1]
    have hd : m / 64 < s.length := by rw [hg.len]; omega
    refine ⟨by rw [List.length_set]; exact hg.len, fun i hi => ?_, fun i hi => ?_⟩
    · rw [at_set _ _ _ _ hd]; split
      · omega
      · exact hg.lo i hi
    · rw [at_set _ _ _ _ hd]; split
      · omega
      · exact hg.hi i hi
  · rw [put_out (by omega)]; exact hg
theorem has_put {s : List Int} (hg : Good s) {n m : Nat} (hn : n < 512) (hm : m < 512) : has (put s (n : Int)) (m : Int) = (has s (m : Int) || decide (n = m)) := by
  rw [has_eq (good_put hg _) hm, has_eq hg hm, (put_eq hg hn).1]
  have hd : n / 64 < s.length := by rw [hg.len]; omega
  rw [at_set _ _ _ _ hd]
  by_cases h : n / 64 = m / 64
  · rw [if_pos h, Int.toNat_natCast, Nat.testBit_or, Nat.testBit_two_pow, h]
    congr 1
    rw [Bool.eq_iff_iff, decide_eq_true_eq, decide_eq_true_eq]
    omega
  · rw [if_neg h]
    have : decide (n = m) = false := by rw [decide_eq_false_iff_not]; intro e; exact h (by rw [e])
    rw [this, Bool.or_false]
theorem has0 (m : Nat) (hm : m < 512) : has (List.replicate 8 0) (m : Int) = false := by
  rw [has_eq good0 hm]
  have : at_ (List.replicate 8 0) (m / 64) = 0 := by
    unfold at_; rw [List.getD_eq_getElem?_getD, List.getElem?_replicate, if_pos (by omega)]; rfl
  rw [this]; simp
def off (ps : List (List Pth.Part)) : Nat → Nat
  | 0 => 0
  | k + 1 => off ps k + ((ps.getD k []).length + 1)
structure Ok (ps : List (List Pth.Part)) : Prop where
  m : ∀ k, k ≤ ps.length → many ps k = (off ps k : Int)
  le : off ps ps.length ≤ 512
theorem off_mono (ps : List (List Pth.Part)) {a b : Nat} (h : a ≤ b) : off ps a ≤ off ps b := by
  induction b with
  | zero => have : a = 0 := by omega
            rw [this]; exact Nat.le_refl _
  | succ b ih =>
    rcases Nat.lt_or_ge a (b + 1) with h1 | h1
    · have := ih (by omega); show off ps a ≤ off ps b + _; omega
    · have : a = b + 1 := by omega
      rw [this]; exact Nat.le_refl _
theorem off_lt {ps : List (List Pth.Part)} (hok : Ok ps) {a k : Nat} (ha : a < ps.length) (hk : k ≤ (ps.getD a []).length) : off ps a + k < 512 := by
  have h1 := off_mono ps (show a + 1 ≤ ps.length by omega)
  have h2 := hok.le
  have h3 : off ps (a + 1) = off ps a + ((ps.getD a []).length + 1) := rfl
  omega
theorem off_ne {ps : List (List Pth.Part)} {a b k j : Nat} (hne : b ≠ a) (hk : k ≤ (ps.getD a []).length) (hj : j ≤ (ps.getD b []).length) : off ps b + j ≠ off ps a + k := by
  have ea : off ps (a + 1) = off ps a + ((ps.getD a []).length + 1) := rfl
  have eb : off ps (b + 1) = off ps b + ((ps.getD b []).length + 1) := rfl
  rcases Nat.lt_or_ge a b with h | h
  · have := off_mono ps (show a + 1 ≤ b by omega); omega
  · have := off_mono ps (show b + 1 ≤ a by omega); omega
abbrev bsOf (ps : List (List Pth.Part)) : List Int := begs ps ps.length
theorem begin_eq {ps : List (List Pth.Part)} (hok : Ok ps) {a : Nat} (ha : a < ps.length) : beginF (bsOf ps) (a : Int) = (off ps a : Int) := by
  unfold beginF
  rw [begs_len, if_neg (by omega), Int.toNat_natCast]
  unfold bsOf begs
  rw [List.getD_eq_getElem?_getD, List.getElem?_map, List.getElem?_range ha]
  exact hok.m a (by omega)
theorem wrap_nat' {n : Nat} (h : n < 1000000) : IntKind.i64.wrap (n : Int) = (n : Int) := Eng.i64_id (by omega) (by omega)
theorem item_eq {ps : List (List Pth.Part)} (hok : Ok ps) {a j : Nat} (ha : a < ps.length) (hj : j ≤ (ps.getD a []).length) : item ps (bsOf ps) a j = (((off ps a + j : Nat) : Int), (ps.getD a []).getD j default) := by
  unfold item
  rw [begin_eq hok ha]
  have := off_lt hok ha hj
  have h : ((off ps a : Int) + (j : Int)) = ((off ps a + j : Nat) : Int) := by omega
  rw [h, wrap_nat' (by omega)]
theorem next_eq {ps : List (List Pth.Part)} (hok : Ok ps) {a j : Nat} (ha : a < ps.length) (hj : j < (ps.getD a []).length) : IntKind.i64.wrap (((off ps a + j : Nat) : Int) + 1) = ((off ps a + (j + 1) : Nat) : Int) := by
  have := off_lt hok ha (show j + 1 ≤ _ from hj)
  have h : (((off ps a + j : Nat) : Int) + 1) = ((off ps a + (j + 1) : Nat) : Int) := by omega
  rw [h, wrap_nat' (by omega)]
def Puts (f : List Int → It → List Int) : Prop := ∀ s x, f s x = s ∨ f s x = put s x.1 ∨ f s x = put s (IntKind.i64.wrap (x.1 + 1))
theorem foreign {ps : List (List Pth.Part)} (hok : Ok ps) {f : List Int → It → List Int} (hf : Puts f) {s : List Int} (hg : Good s) {a b j k : Nat} (ha : a < ps.length) (hb : b < ps.length) (hne : b ≠ a) (hj : j < (ps.getD b []).length) (hk : k ≤ (ps.getD a []).length) :
    Good (f s (item ps (bsOf ps) b j)) ∧ has (f s (item ps (bsOf ps) b j)) ((off ps a + k : Nat) : Int) = has s ((off ps a + k : Nat) : Int) := by
  have hm := off_lt hok ha hk
  rw [item_eq hok hb (Nat.le_of_lt hj)]
  rcases hf s ((((off ps b + j : Nat) : Int)), (ps.getD b []).getD j default) with h | h | h
  · rw [h]; exact ⟨hg, rfl⟩
  · rw [h]
    refine ⟨good_put hg _, ?_⟩
    rw [has_put hg (off_lt hok hb (Nat.le_of_lt hj)) hm]
    have : decide (off ps b + j = off ps a + k) = false := decide_eq_false (off_ne hne hk (Nat.le_of_lt hj))
    rw [this, Bool.or_false]
  · rw [h]
    refine ⟨good_put hg _, ?_⟩
    simp only
    rw [next_eq hok hb hj, has_put hg (off_lt hok hb (show j + 1 ≤ _ from hj)) hm]
    have : decide (off ps b + (j + 1) = off ps a + k) = false := decide_eq_false (off_ne hne hk hj)
    rw [this, Bool.or_false]
theorem foreigns {ps : List (List Pth.Part)} (hok : Ok ps) {f : List Int → It → List Int} (hf : Puts f) {a : Nat} (ha : a < ps.length) : ∀ (L : List Nat) (s : List Int), (∀ b ∈ L, b < ps.length ∧ b ≠ a) → Good s →
    Good ((L.flatMap fun i => (List.range (ps.getD i []).length).map (item ps (bsOf ps) i)).foldl f s) ∧ ∀ k, k ≤ (ps.getD a []).length → has ((L.flatMap fun i => (List.range (ps.getD i []).length).map (item ps (bsOf ps) i)).foldl f s) ((off ps a + k : Nat) : Int) = has s ((off ps a + k : Nat) : Int)
  | [], s, _, hg => ⟨hg, fun _ _ => rfl⟩
  | b :: L, s, hL, hg => by
    obtain ⟨hb, hne⟩ := hL b List.mem_cons_self
    have one : ∀ n, n ≤ (ps.getD b []).length → Good (((List.range n).map (item ps (bsOf ps) b)).foldl f s) ∧ ∀ k, k ≤ (ps.getD a []).length → has (((List.range n).map (item ps (bsOf ps) b)).foldl f s) ((off ps a + k : Nat) : Int) = has s ((off ps a + k : Nat) : Int) := by
      intro n
      induction n with
      | zero => intro _; exact ⟨hg, fun _ _ => rfl⟩
      | succ n ih =>
        intro hn
        obtain ⟨g1, h1⟩ := ih (by omega)
        rw [List.range_succ, List.map_append, List.foldl_append]
        exact ⟨(foreign hok hf g1 (k := 0) ha hb hne (by omega) (Nat.zero_le _)).1, fun k hk => ((foreign hok hf g1 ha hb hne (by omega) hk).2).trans (h1 k hk)⟩
    obtain ⟨g1, h1⟩ := one _ (Nat.le_refl _)
    rw [List.flatMap_cons, List.foldl_append]
    obtain ⟨g2, h2⟩ := foreigns hok hf ha L _ (fun c hc => hL c (List.mem_cons_of_mem _ hc)) g1
    exact ⟨g2, fun k hk => (h2 k hk).trans (h1 k hk)⟩
theorem split_range {a n : Nat} (h : a < n) : List.range n = List.range a ++ a :: List.range' (a + 1) (n - (a + 1)) := by
  obtain ⟨d, rfl⟩ := Nat.exists_eq_add_of_lt h
  rw [show a + d + 1 - (a + 1) = d by omega, List.range_eq_range', List.range_eq_range', show a + d + 1 = a + (d + 1) by omega, List.range'_append_1.symm, Nat.zero_add, List.range'_succ]
theorem own_only {ps : List (List Pth.Part)} (hok : Ok ps) {f : List Int → It → List Int} (hf : Puts f) {a : Nat} (ha : a < ps.length) {s : List Int} (hg : Good s) :
    ∃ s1, Good s1 ∧ (∀ k, k ≤ (ps.getD a []).length → has s1 ((off ps a + k : Nat) : Int) = has s ((off ps a + k : Nat) : Int)) ∧
      (Good (((List.range (ps.getD a []).length).map (item ps (bsOf ps) a)).foldl f s1) → Good ((items ps (bsOf ps)).foldl f s) ∧ ∀ k, k ≤ (ps.getD a []).length → has ((items ps (bsOf ps)).foldl f s) ((off ps a + k : Nat) : Int) = has (((List.range (ps.getD a []).length).map (item ps (bsOf ps) a)).foldl f s1) ((off ps a + k : Nat) : Int)) := by
  obtain ⟨g1, h1⟩ := foreigns hok hf ha (List.range a) s (fun b hb => by have := List.mem_range.1 hb; omega) hg
  refine ⟨_, g1, h1, fun g2 => ?_⟩
  unfold items upTo
  rw [split_range ha, List.flatMap_append, List.flatMap_cons, List.foldl_append, List.foldl_append]
  exact foreigns hok hf ha _ _ (fun b hb => by
    have := List.mem_range'_1.1 hb; omega) g2
def deep (p : List Pth.Part) (k : Nat) : Bool := (p.getD k default).1 == 2
def fits (p : List Pth.Part) (x : ByteArray) (k : Nat) : Bool := (p.getD k default).1 == 1 || (p.getD k default).2.toList == x.toList
def closeS (p : List Pth.Part) (σ : Nat → Bool) : Nat → Bool
  | 0 => σ 0
  | k + 1 => σ (k + 1) || (deep p k && closeS p σ k)
def stepS (p : List Pth.Part) (x : ByteArray) (σ : Nat → Bool) (k : Nat) : Bool :=
  (decide (k < p.length) && σ k && deep p k) || (decide (0 < k) && (σ (k - 1) && !deep p (k - 1) && fits p x (k - 1)))
def runS (p : List Pth.Part) (l : List ByteArray) : Nat → Bool := l.foldl (fun σ x => closeS p (stepS p x σ)) (closeS p fun k => k == 0)
theorem closeS_congr {p : List Pth.Part} {σ τ : Nat → Bool} {n : Nat} (h : ∀ k, k ≤ n → σ k = τ k) : ∀ k, k ≤ n → closeS p σ k = closeS p τ k
  | 0, h0 => h 0 h0
  | k + 1, hk => by simp only [closeS]; rw [h (k + 1) hk, closeS_congr h k (by omega)]
theorem stepS_congr {p : List Pth.Part} {x : ByteArray} {σ τ : Nat → Bool} {n : Nat} (h : ∀ k, k ≤ n → σ k = τ k) (k : Nat) (hk : k ≤ n) : stepS p x σ k = stepS p x τ k := by
  unfold stepS; rw [h k hk, h (k - 1) (by omega)]
theorem close_puts : Puts fun (s : List Int) (x : It) => if (x.2.1 == 2 && has s x.1) = true then put s (IntKind.i64.wrap (x.1 + 1)) else s := by
  intro s x
  simp only
  split
  · exact .inr (.inr rfl)
  · exact .inl rfl
theorem step_puts (s0 : List Int) (step : ByteArray) : Puts (stepP s0 step) := by
  intro s x
  unfold stepP
  split
  · exact .inl rfl
  · split
    · exact .inr (.inl rfl)
    · split
      · exact .inr (.inr rfl)
      · exact .inl rfl
theorem close_own {ps : List (List Pth.Part)} (hok : Ok ps) {a : Nat} (ha : a < ps.length) {s : List Int} (hg : Good s) : ∀ n, n ≤ (ps.getD a []).length →
    Good (closeF s ((List.range n).map (item ps (bsOf ps) a))) ∧ ∀ k, k ≤ (ps.getD a []).length → has (closeF s ((List.range n).map (item ps (bsOf ps) a))) ((off ps a + k : Nat) : Int) = if k ≤ n then closeS (ps.getD a []) (fun k => has s ((off ps a + k : Nat) : Int)) k else has s ((off ps a + k : Nat) : Int)
  | 0, _ => by
    refine ⟨hg, fun k hk => ?_⟩
    by_cases h : k ≤ 0
    · have : k = 0 := by omega
      subst this; rw [if_pos h]; rfl
    · rw [if_neg h]; rfl
  | n + 1, hn => by
    obtain ⟨g1, h1⟩ := close_own hok ha hg n (by omega)
    rw [List.range_succ, List.map_append, List.map_cons, List.map_nil, closeF_snoc, item_eq hok ha (show n ≤ _ by omega)]
    simp only
    have hn1 := h1 n (by omega)
    rw [if_pos (Nat.le_refl n)] at hn1
    rw [hn1, next_eq hok ha (show n < _ by omega)]
    have key : ∀ k, k ≤ (ps.getD a []).length → (if k ≤ n + 1 then closeS (ps.getD a []) (fun k => has s ((off ps a + k : Nat) : Int)) k else has s ((off ps a + k : Nat) : Int)) = (has (closeF s ((List.range n).map (item ps (bsOf ps) a))) ((off ps a + k : Nat) : Int) || (decide (off ps a + (n + 1) = off ps a + k) && (deep (ps.getD a []) n && closeS (ps.getD a []) (fun k => has s ((off ps a + k : Nat) : Int)) n))) := by
      intro k hk
      rw [h1 k hk]
      rcases Nat.lt_trichotomy k (n + 1) with h | h | h
      · rw [if_pos (by omega), if_pos (by omega)]
        have : decide (off ps a + (n + 1) = off ps a + k) = false := decide_eq_false (by omega)
        rw [this, Bool.false_and, Bool.or_false]
      · subst h
        rw [if_pos (Nat.le_refl _), if_neg (by omega)]
        have : decide (off ps a + (n + 1) = off ps a + (n + 1)) = true := decide_eq_true rfl
        rw [this, Bool.true_and]; rfl
      · rw [if_neg (by omega), if_neg (by omega)]
        have : decide (off ps a + (n + 1) = off ps a + k) = false := decide_eq_false (by omega)
        rw [this, Bool.false_and, Bool.or_false]
    by_cases hc : (((ps.getD a []).getD n default).1 == 2 && closeS (ps.getD a []) (fun k => has s ((off ps a + k : Nat) : Int)) n) = true
    · rw [if_pos hc]
      refine ⟨good_put g1 _, fun k hk => ?_⟩
      rw [has_put g1 (off_lt hok ha hn) (off_lt hok ha hk), key k hk]
      unfold deep
      rw [hc, Bool.and_true]
    · rw [if_neg hc]
      refine ⟨g1, fun k hk => ?_⟩
      rw [key k hk]
      unfold deep
      rw [Bool.not_eq_true] at hc
      rw [hc, Bool.and_false, Bool.or_false]
theorem close_has {ps : List (List Pth.Part)} (hok : Ok ps) {a : Nat} (ha : a < ps.length) {s : List Int} (hg : Good s) : Good (closeF s (items ps (bsOf ps))) ∧ ∀ k, k ≤ (ps.getD a []).length → has (closeF s (items ps (bsOf ps))) ((off ps a + k : Nat) : Int) = closeS (ps.getD a []) (fun k => has s ((off ps a + k : Nat) : Int)) k := by
  obtain ⟨s1, g1, h1, h2⟩ := own_only hok close_puts ha hg
  obtain ⟨g3, h3⟩ := close_own hok ha g1 _ (Nat.le_refl _)
  obtain ⟨g4, h4⟩ := h2 g3
  refine ⟨g4, fun k hk => ?_⟩
  refine (h4 k hk).trans ((h3 k hk).trans ?_)
  rw [if_pos hk]
  exact closeS_congr h1 k hk
theorem step_own {ps : List (List Pth.Part)} (hok : Ok ps) {a : Nat} (ha : a < ps.length) {s0 : List Int} (step : ByteArray) {s : List Int} (hg : Good s) (h0 : ∀ k, k ≤ (ps.getD a []).length → has s ((off ps a + k : Nat) : Int) = false) : ∀ n, n ≤ (ps.getD a []).length →
    Good (((List.range n).map (item ps (bsOf ps) a)).foldl (stepP s0 step) s) ∧ ∀ k, k ≤ (ps.getD a []).length → has (((List.range n).map (item ps (bsOf ps) a)).foldl (stepP s0 step) s) ((off ps a + k : Nat) : Int) =
      ((decide (k < n) && has s0 ((off ps a + k : Nat) : Int) && deep (ps.getD a []) k) || (decide (0 < k) && decide (k - 1 < n) && (has s0 ((off ps a + (k - 1) : Nat) : Int) && !deep (ps.getD a []) (k - 1) && fits (ps.getD a []) step (k - 1))))
  | 0, _ => ⟨hg, fun k hk => by
      show has s _ = _
      rw [h0 k hk]; simp⟩
  | n + 1, hn => by
    obtain ⟨g1, h1⟩ := step_own hok ha step hg h0 n (by omega)
    rw [List.range_succ, List.map_append, List.map_cons, List.map_nil, List.foldl_append, List.foldl_cons, List.foldl_nil, item_eq hok ha (show n ≤ _ by omega)]
    generalize hS : ((List.range n).map (item ps (bsOf ps) a)).foldl (stepP s0 step) s = S at g1 h1 ⊢
    unfold stepP
    simp only
    have hd : (((ps.getD a []).getD n default).1 == 2) = deep (ps.getD a []) n := rfl
    have hf : (((ps.getD a []).getD n default).1 == 1 || ((ps.getD a []).getD n default).2.toList == step.toList) = fits (ps.getD a []) step n := rfl
    rw [hd, hf, next_eq hok ha (show n < _ by omega)]
    have lt1 : ∀ k : Nat, k ≠ n → decide (k < n + 1) = decide (k < n) := fun k hk => by
      rw [Bool.eq_iff_iff, decide_eq_true_eq, decide_eq_true_eq]; omega
    have lt2 : ∀ k : Nat, k ≠ n + 1 → (decide (0 < k) && decide (k - 1 < n + 1)) = (decide (0 < k) && decide (k - 1 < n)) := fun k hk => by
      rw [Bool.eq_iff_iff]; simp only [Bool.and_eq_true, decide_eq_true_eq]; omega
    have eN : decide (n < n + 1) = true := by simp
    have eN' : decide (n < n) = false := by simp
    have eM : (decide (0 < n + 1) && decide (n + 1 - 1 < n + 1)) = true := by simp
    have eM' : (decide (0 < n + 1) && decide (n + 1 - 1 < n)) = false := by simp
    cases hh : has s0 ((off ps a + n : Nat) : Int) with
    | false =>
      rw [if_pos (by simp)]
      refine ⟨g1, fun k hk => (h1 k hk).trans ?_⟩
      by_cases e1 : k = n
      · subst e1
        rw [hh, lt2 k (by omega)]; simp
      · by_cases e2 : k = n + 1
        · subst e2
          rw [decide_eq_false (show ¬ n + 1 < n + 1 by omega), decide_eq_false (show ¬ n + 1 < n by omega), show n + 1 - 1 = n by omega, hh]; simp
        · rw [lt1 k e1, lt2 k e2]
    | true =>
      rw [if_neg (by simp)]
      cases hdp : deep (ps.getD a []) n with
      | true =>
        rw [if_pos rfl]
        refine ⟨good_put g1 _, fun k hk => ?_⟩
        rw [has_put g1 (off_lt hok ha (show n ≤ _ by omega)) (off_lt hok ha hk), h1 k hk]
        by_cases e1 : k = n
        · subst e1
          rw [hh, hdp, lt2 k (by omega), eN]; simp
        · have : decide (off ps a + n = off ps a + k) = false := decide_eq_false (by omega)
          rw [this, Bool.or_false]
          by_cases e2 : k = n + 1
          · subst e2
            rw [decide_eq_false (show ¬ n + 1 < n + 1 by omega), decide_eq_false (show ¬ n + 1 < n by omega), show n + 1 - 1 = n by omega, hdp]; simp
          · rw [lt1 k e1, lt2 k e2]
      | false =>
        rw [if_neg (by simp)]
        cases hft : fits (ps.getD a []) step n with
        | true =>
          rw [if_pos rfl]
          refine ⟨good_put g1 _, fun k hk => ?_⟩
          rw [has_put g1 (off_lt hok ha hn) (off_lt hok ha hk), h1 k hk]
          by_cases e2 : k = n + 1
          · subst e2
            rw [show n + 1 - 1 = n by omega, hh, hdp, hft]; simp
          · have : decide (off ps a + (n + 1) = off ps a + k) = false := decide_eq_false (by omega)
            rw [this, Bool.or_false]
            by_cases e1 : k = n
            · subst e1
              rw [hdp, lt2 k (by omega)]; simp
            · rw [lt1 k e1, lt2 k e2]
        | false =>
          rw [if_neg (by simp)]
          refine ⟨g1, fun k hk => (h1 k hk).trans ?_⟩
          by_cases e1 : k = n
          · subst e1
            rw [hdp, lt2 k (by omega)]; simp
          · by_cases e2 : k = n + 1
            · subst e2
              rw [decide_eq_false (show ¬ n + 1 < n + 1 by omega), decide_eq_false (show ¬ n + 1 < n by omega), show n + 1 - 1 = n by omega, hft]; simp
            · rw [lt1 k e1, lt2 k e2]
theorem step_has {ps : List (List Pth.Part)} (hok : Ok ps) {a : Nat} (ha : a < ps.length) (s0 : List Int) (x : ByteArray) : Good (stepF s0 x (items ps (bsOf ps))) ∧ ∀ k, k ≤ (ps.getD a []).length → has (stepF s0 x (items ps (bsOf ps))) ((off ps a + k : Nat) : Int) = stepS (ps.getD a []) x (fun k => has s0 ((off ps a + k : Nat) : Int)) k := by
  obtain ⟨s1, g1, h1, h2⟩ := own_only hok (step_puts s0 x) ha good0
  obtain ⟨g3, h3⟩ := step_own hok ha (s0 := s0) x g1 (fun k hk => (h1 k hk).trans (has0 _ (off_lt hok ha hk))) _ (Nat.le_refl _)
  obtain ⟨g4, h4⟩ := h2 g3
  refine ⟨g4, fun k hk => ?_⟩
  refine (h4 k hk).trans ((h3 k hk).trans ?_)
  unfold stepS
  by_cases hz : 0 < k
  · have : decide (k - 1 < (ps.getD a []).length) = true := decide_eq_true (by omega)
    rw [this, Bool.and_true]
  · have : decide (0 < k) = false := decide_eq_false hz
    rw [this]; simp
theorem begins_has {ps : List (List Pth.Part)} (hok : Ok ps) {a : Nat} (ha : a < ps.length) : ∀ n, n ≤ ps.length → Good (begins (bsOf ps) n) ∧ ∀ k, k ≤ (ps.getD a []).length → has (begins (bsOf ps) n) ((off ps a + k : Nat) : Int) = (decide (a < n) && (k == 0))
  | 0, _ => ⟨good0, fun k hk => by rw [show begins (bsOf ps) 0 = List.replicate 8 0 from rfl, has0 _ (off_lt hok ha hk)]; simp⟩
  | n + 1, hn => by
    obtain ⟨g1, h1⟩ := begins_has hok ha n (by omega)
    rw [begins_succ, begin_eq hok (show n < ps.length by omega)]
    refine ⟨good_put g1 _, fun k hk => ?_⟩
    have hlt := off_lt hok (show n < ps.length by omega) (k := 0) (Nat.zero_le _)
    rw [has_put g1 (by omega) (off_lt hok ha hk), h1 k hk]
    by_cases e : n = a
    · subst e
      rw [Bool.eq_iff_iff]
      simp
    · have h3 : decide (off ps n = off ps a + k) = false := decide_eq_false (by have := off_ne (j := 0) e hk (Nat.zero_le _); omega)
      rw [h3, Bool.or_false]
      congr 1
      rw [Bool.eq_iff_iff, decide_eq_true_eq, decide_eq_true_eq]; omega
theorem run_has {ps : List (List Pth.Part)} (hok : Ok ps) {a : Nat} (ha : a < ps.length) (l : List ByteArray) : Good (run ps (bsOf ps) l) ∧ ∀ k, k ≤ (ps.getD a []).length → has (run ps (bsOf ps) l) ((off ps a + k : Nat) : Int) = runS (ps.getD a []) l k := by
  have start : Good (Nfa.start ps (bsOf ps)) ∧ ∀ k, k ≤ (ps.getD a []).length → has (Nfa.start ps (bsOf ps)) ((off ps a + k : Nat) : Int) = closeS (ps.getD a []) (fun k => k == 0) k := by
    obtain ⟨g1, h1⟩ := begins_has hok ha ps.length (Nat.le_refl _)
    obtain ⟨g2, h2⟩ := close_has hok ha g1
    refine ⟨g2, fun k hk => (h2 k hk).trans (closeS_congr (n := (ps.getD a []).length) (fun j hj => ?_) k hk)⟩
    rw [h1 j hj, decide_eq_true ha, Bool.true_and]
  have gen : ∀ (l : List ByteArray) (s : List Int) (σ : Nat → Bool), Good s → (∀ k, k ≤ (ps.getD a []).length → has s ((off ps a + k : Nat) : Int) = σ k) →
      Good (l.foldl (Nfa.step ps (bsOf ps)) s) ∧ ∀ k, k ≤ (ps.getD a []).length → has (l.foldl (Nfa.step ps (bsOf ps)) s) ((off ps a + k : Nat) : Int) = (l.foldl (fun σ x => closeS (ps.getD a []) (stepS (ps.getD a []) x σ)) σ) k := by
    intro l
    induction l with
    | nil => intro s σ hg h; exact ⟨hg, h⟩
    | cons x l ih =>
      intro s σ hg h
      obtain ⟨g1, h1⟩ := step_has hok ha s x
      obtain ⟨g2, h2⟩ := close_has hok ha g1
      refine ih _ _ g2 fun k hk => (h2 k hk).trans (closeS_congr (n := (ps.getD a []).length) (fun j hj => ?_) k hk)
      rw [h1 j hj]
      exact stepS_congr h j hj
  exact gen l _ _ start.1 start.2
end Nfa
end Go.Proofs.YthgafcaoibfchaaDoor.X
end
section
namespace Go.Proofs.YthgafcaoibfchaaDoor.X
open Go Go.RowKit Go.Shelf Go.Proofs
set_option linter.unusedVariables false
namespace Nfa
theorem one_le {p : List Pth.Part} (h : p.length ≤ 5864062014634) : ∀ k, k < [p].length → ([p].getD k []).length ≤ 5864062014634
  | 0, _ => h
  | k + 1, hk => absurd hk (by simp)
theorem one_st {p : List Pth.Part} (h : ∀ q ∈ p, q.2.size ≤ 9223372036854775807) : ∀ k, k < [p].length → ∀ q ∈ [p].getD k [], q.2.size ≤ 9223372036854775807
  | 0, _ => h
  | k + 1, hk => absurd hk (by simp)
theorem light_len {ps : List (List Pth.Part)} (h : Pth.heavies ps = false) : ps.length ≤ 40 := by
  unfold Pth.heavies at h
  simp only [Bool.or_eq_false_iff, decide_eq_false_iff_not] at h
  omega
theorem code_zero {ps : List (List Pth.Part)} (h : code ps = 0) : (∀ i, i < ps.length → Pth.rightB (ps.getD i []) = true) ∧ many ps ps.length ≤ 512 := by
  unfold code at h
  by_cases h1 : (ps.any fun p => !Pth.rightB p) = true
  · rw [if_pos h1] at h; omega
  · rw [if_neg h1] at h
    by_cases h2 : 512 < many ps ps.length
    · rw [if_pos h2] at h; omega
    · refine ⟨fun i hi => ?_, by omega⟩
      cases hr : Pth.rightB (ps.getD i []) with
      | true => rfl
      | false =>
        exfalso
        apply h1
        refine List.any_eq_true.2 ⟨ps[i], List.getElem_mem hi, ?_⟩
        rw [List.getD_eq_getElem?_getD, List.getElem?_eq_getElem hi] at hr
        simpa using hr
theorem right_len {p : List Pth.Part} (h : Pth.rightB p = true) : p.length ≤ 20 := by
  unfold Pth.rightB at h
  simp only [Bool.and_eq_true, decide_eq_true_eq] at h
  omega
theorem many_off {ps : List (List Pth.Part)} (h : ∀ i, i < ps.length → (ps.getD i []).length ≤ 20) (hl : ps.length ≤ 1000) : ∀ k, k ≤ ps.length → many ps k = (off ps k : Int) ∧ off ps k ≤ 21 * k
  | 0, _ => ⟨rfl, Nat.le_refl _⟩
  | k + 1, hk => by
    obtain ⟨h1, h2⟩ := many_off h hl k (by omega)
    have h3 := h k (by omega)
    have e : off ps (k + 1) = off ps k + ((ps.getD k []).length + 1) := rfl
    refine ⟨?_, by rw [e]; omega⟩
    unfold many
    rw [h1, e]
    have e1 : (((ps.getD k []).length : Nat) : Int) + 1 = (((ps.getD k []).length + 1 : Nat) : Int) := by omega
    rw [e1, wrap_nat' (by omega)]
    have e2 : ((off ps k : Nat) : Int) + (((ps.getD k []).length + 1 : Nat) : Int) = ((off ps k + ((ps.getD k []).length + 1) : Nat) : Int) := by omega
    rw [e2, wrap_nat' (by omega)]
theorem ok_of {ps : List (List Pth.Part)} (hcode : code ps = 0) (hl : ps.length ≤ 1000) : Ok ps := by
  obtain ⟨hr, hm⟩ := code_zero hcode
  have h := many_off (fun i hi => right_len (hr i hi)) hl
  refine ⟨fun k hk => (h k hk).1, ?_⟩
  have := (h ps.length (Nat.le_refl _)).1
  omega
theorem code_one {ps : List (List Pth.Part)} {k : Nat} (hcode : code ps = 0) (hk : k < ps.length) : code [ps.getD k []] = 0 := by
  have hr := (code_zero hcode).1 k hk
  have h20 := right_len hr
  have h : ∀ i, i < [ps.getD k []].length → Pth.rightB ([ps.getD k []].getD i []) = true
    | 0, _ => hr
    | i + 1, hi => absurd hi (by simp)
  rw [code_all h, if_neg]
  have hm := (many_off (ps := [ps.getD k []]) (fun i hi => right_len (h i hi)) (by simp) 1 (by simp))
  have e : [ps.getD k []].length = 1 := rfl
  rw [e, hm.1]
  have := hm.2
  omega
theorem contains_accept {ps : List (List Pth.Part)} (hok : Ok ps) {a : Nat} (ha : a < ps.length) (s : List Int) : (accept ps (bsOf ps) s).contains (a : Int) = has s ((off ps a + (ps.getD a []).length : Nat) : Int) := by
  have hat : ∀ i : Nat, i < ps.length → IntKind.i64.wrap (beginF (bsOf ps) (i : Int) + ((ps.getD i []).length : Int)) = ((off ps i + (ps.getD i []).length : Nat) : Int) := fun i hi => by
    rw [begin_eq hok hi]
    have h : ((off ps i : Int) + ((ps.getD i []).length : Int)) = ((off ps i + (ps.getD i []).length : Nat) : Int) := by omega
    have := off_lt hok hi (Nat.le_refl _)
    rw [h, wrap_nat' (by omega)]
  rw [Bool.eq_iff_iff, List.contains_iff_mem]
  unfold accept acceptTo
  rw [List.mem_map]
  constructor
  · rintro ⟨i, hi, e⟩
    have : i = a := by omega
    subst this
    obtain ⟨h1, h2⟩ := List.mem_filter.1 hi
    rw [hat i ha] at h2
    exact h2
  · intro h
    exact ⟨a, List.mem_filter.2 ⟨List.mem_range.2 ha, by rw [hat a ha]; exact h⟩, rfl⟩
theorem accept_one {p : List Pth.Part} (hok : Ok [p]) (s : List Int) : ((((accept [p] (bsOf [p]) s).length : Nat) : Int) == 1) = has s ((off [p] 0 + ([p].getD 0 []).length : Nat) : Int) := by
  rw [← contains_accept hok (a := 0) (by simp) s]
  have h : ∀ l : List Int, (l.length ≤ 1 ∧ ∀ x ∈ l, x = 0) → (((l.length : Nat) : Int) == 1) = l.contains ((0 : Nat) : Int) := by
    rintro l ⟨h1, h2⟩
    match l, h1, h2 with
    | [], _, _ => rfl
    | [x], _, h2 => rw [h2 x List.mem_cons_self]; rfl
    | _ :: _ :: _, h1, _ => simp at h1
  refine h _ ⟨acceptTo_len _ _ _ _, fun x hx => ?_⟩
  unfold accept acceptTo at hx
  obtain ⟨i, hi, rfl⟩ := List.mem_map.1 hx
  have := List.mem_range.1 (List.mem_filter.1 hi).1
  have e : [p].length = 1 := rfl
  rw [e] at this
  omega
theorem accepted {ps : List (List Pth.Part)} (hok : Ok ps) {a : Nat} (ha : a < ps.length) (la : List ByteArray) : (accept ps (bsOf ps) (run ps (bsOf ps) la)).contains (a : Int) = runS (ps.getD a []) la (ps.getD a []).length := by
  rw [contains_accept hok ha]
  exact (run_has hok ha la).2 _ (Nat.le_refl _)
theorem apart (ps : List (List Pth.Part)) (la : List ByteArray) {k : Nat} (hcode : code ps = 0) (hheavy : Pth.heavies ps = false) (hla : la.length ≤ 30) (hk : k < ps.length) :
    ((((accept [ps.getD k []] (begs [ps.getD k []] [ps.getD k []].length) (run [ps.getD k []] (begs [ps.getD k []] [ps.getD k []].length) la)).length : Nat) : Int) == 1) = (accept ps (begs ps ps.length) (run ps (begs ps ps.length) la)).contains (k : Int) := by
  have hok := ok_of hcode (by have := light_len hheavy; omega)
  have hok1 := ok_of (code_one hcode hk) (by simp)
  rw [accepted hok hk la]
  refine (accept_one hok1 _).trans ?_
  exact (run_has hok1 (a := 0) (by simp) la).2 _ (Nat.le_refl _)
end Nfa
end Go.Proofs.YthgafcaoibfchaaDoor.X
end
section
namespace Go.Proofs.YthgafcaoibfchaaDoor.X
open Go Go.RowKit Go.Shelf Go.Proofs
set_option linter.unusedVariables false
theorem Pth.Each.mono {B B' : Nat} {ps : List (List Pth.Part)} {vs : List Value} {w : World} (h : Pth.Each B ps vs w) (hB : B' ≤ B) : Pth.Each B' ps vs w := ⟨h.len, fun i hi => Eng.own_mono (h.row i hi) hB⟩
namespace Nfa
def more (ps : List (List Pth.Part)) (bs : List Int) (s : List Int) (l : List ByteArray) : List Int := l.foldl (step ps bs) s
end Nfa
end Go.Proofs.YthgafcaoibfchaaDoor.X
end
