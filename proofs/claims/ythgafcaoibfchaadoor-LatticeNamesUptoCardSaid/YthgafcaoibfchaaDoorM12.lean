/- Words and walks that the row of LatticeNamesUpto needs: printed by programs, and plain laws. -/
import Derived.Test.YthgafcaoibfchaaDoorM11
namespace Go.Proofs.YthgafcaoibfchaaDoor.X
open Go.RowKit Go.Shelf Go.Proofs Go.Proofs.YthgafcaoibfchaaDoorW.PrintWords Go.Proofs.YthgafcaoibfchaaDoorW.PrintLast Go.Proofs.YthgafcaoibfchaaDoorW.PrintMore
set_option linter.unusedVariables false
set_option linter.unusedSimpArgs false
attribute [local go_sem] max2_int min2_int max_two min_two
set_option maxHeartbeats 4000000 in
set_option maxRecDepth 100000 in
theorem Lnm.names_calls (v : Value) (l : List ByteArray) (w : World) (hx : Eng.Reads w v l.length 1 (Nfa.strs l)) : Calls Tryd.prog 75 #[v] w fun e w' => e = .returned (.bool (rightB [] l)) ∧ Below w.heap.size w w' := by
  have hm := Eng.Reads.len_le hx
  refine Eng.enter Tryd.func75 rfl fun act0 d0 s0 v0 => ?_
  have s0 : act0.tmps.size = 31 := s0
  have h0_0 : act0.eval (.tmp 0) = v := v0 0 (by simp)
  clear v0
  have bl0 : Below w.heap.size w w := Below.refl _ _
  refine wp_seq ?_
  refine Eng.regionS (Eng.still [fun u_ => u_ = .bool false]) (fun i => ([.plain] : List Eng.Kind).getD i .plain) 1 0 31 s0 rfl (by kernel_rfl) (Eng.still_stable _) (Or.inr (Eng.still_any _)) ?_ ?_
  · refine Eng.Steps.cons (fun _ => ?_) (Eng.Steps.nil)
    · refine Eng.plain rfl rfl fun a w' H => ?_
      exact Eng.val (w1 := w') (v := .bool false) (Eng.run_assign rfl (rfl : a.eval (.const (.bool false)) = .bool false)) (Below.refl _ _) rfl
  intro act1 w1 T
  have h0_1 : act1.eval (.tmp 0) = v := (T.rest 0 (by kernel_rfl)).trans h0_0
  have Fin_1 := Eng.Reads.below hx T.below
  have h2_1 : act1.eval (.tmp 2) = .bool false := T.done 0 2 rfl rfl
  have d1 := T.defers.trans d0
  have s1 := T.size.trans s0
  have bl1 := bl0.trans (T.below.mono bl0.size)
  clear T
  refine Eng.tail_nil ?_
  first | show Code.wp Tryd.prog _ _ _ _ | skip
  refine wp_seq ?_
  refine wp_seq ?_
  refine Eng.regionS (Eng.still [fun u_ => u_ = .int .i64 0]) (fun i => ([.plain] : List Eng.Kind).getD i .plain) 1 0 31 s1 rfl (by kernel_rfl) (Eng.still_stable _) (Or.inr (Eng.still_any _)) ?_ ?_
  · refine Eng.Steps.cons (fun _ => ?_) (Eng.Steps.nil)
    · refine Eng.plain rfl rfl fun a w' H => ?_
      exact Eng.val (w1 := w') (v := .int .i64 0) (Eng.run_assign rfl (rfl : a.eval (.const (.int .i64 0)) = .int .i64 0)) (Below.refl _ _) rfl
  intro act2 w2 T
  have h0_2 : act2.eval (.tmp 0) = v := (T.rest 0 (by kernel_rfl)).trans h0_1
  have h2_2 : act2.eval (.tmp 2) = .bool false := (T.rest 2 (by kernel_rfl)).trans h2_1
  have Fin_2 := Eng.Reads.below Fin_1 T.below
  have h3_2 : act2.eval (.tmp 3) = .int .i64 0 := T.done 0 3 rfl rfl
  have d2 := T.defers.trans d1
  have s2 := T.size.trans s1
  have bl2 := bl1.trans (T.below.mono bl1.size)
  clear T
  refine Eng.tail_nil ?_
  first | show Code.wp Tryd.prog _ _ _ _ | skip
  refine wp_block ?_
  refine Eng.loopN (fun n a w' => ∃ (k : Nat), l.length - k = n ∧ (k ≤ l.length) ∧ (∀ i, i < k → lexname.g (l.getD i default) = true ∧ ∀ j, j < i → ((l.getD j default).toList == (l.getD i default).toList) = false) ∧ a.defers = [] ∧ a.tmps.size = 31 ∧ Below w.heap.size w w' ∧ a.eval (.tmp 0) = v ∧ a.eval (.tmp 3) = .int .i64 (k : Nat)) (n0 := l.length - 0) ?_ ?_
  · exact ⟨0, rfl, by omega, fun i hi => absurd hi (by omega), d2, s2, bl2, h0_2, (h3_2.trans (by first | rfl | (congr 1; rw [Eng.i64_id (by omega) (by omega)]; omega) | (simp; done)))⟩
  rintro n act3 w3 ⟨k, rfl, hc0_3, hc1_3, d3, s3, bl3, h0_3, h3_3⟩
  have Fin_3 := Eng.Reads.below hx bl3
  have hk1 := hc0_3
  have hn1 := hc1_3
  refine wp_seq ?_
  refine wp_seq ?_
  obtain ⟨q8, Bq8⟩ : ∃ b : Bool, b = (decide ((k : Nat) < ((l.length : Nat) : Int))) := ⟨_, rfl⟩
  refine Eng.regionS (Eng.still [fun u_ => u_ = .int .i64 (k : Nat), fun u_ => u_ = v, fun u_ => u_ = .int .i64 ((l.length : Nat) : Int), fun u_ => u_ = .bool q8]) (fun i => ([.plain, .plain, .plain, .plain] : List Eng.Kind).getD i .plain) 4 0 31 s3 rfl (by kernel_rfl) (Eng.still_stable _) (Or.inr (Eng.still_any _)) ?_ ?_
  · refine Eng.Steps.cons (fun _ => ?_) (Eng.Steps.cons (fun _ => ?_) (Eng.Steps.cons (fun _ => ?_) (Eng.Steps.cons (fun _ => ?_) (Eng.Steps.nil))))
    · refine Eng.plain rfl rfl fun a w' H => ?_
      exact Eng.val (w1 := w') (v := .int .i64 (k : Nat)) (Eng.run_move rfl ((H.kept 3 (by kernel_rfl)).trans h3_3)) (Below.refl _ _) rfl
    · refine Eng.plain rfl rfl fun a w' H => ?_
      exact Eng.val (w1 := w') (v := v) (Eng.run_move rfl ((H.kept 0 (by kernel_rfl)).trans h0_3)) (Below.refl _ _) rfl
    · refine Eng.plain rfl rfl fun a w' H => ?_
      refine Eng.val (w1 := w') (v := .int .i64 ((l.length : Nat) : Int)) ?_ (Below.refl _ _) rfl
      exact Eng.run_len_sl rfl Tryd.underlying43 (show a.eval (.tmp 6) = v from (H.dep 1 6 (by kernel_rfl) rfl)) (Eng.Reads.below Fin_3 H.below)
    · refine Eng.plain rfl rfl fun a w' H => ?_
      refine Eng.val (w1 := w') (v := .bool (decide ((k : Nat) < ((l.length : Nat) : Int)))) ?_ (Below.refl _ _) (by show _ = Value.bool q8; rw [Bq8])
      have e0 : a.eval (.tmp 5) = .int .i64 (k : Nat) := (H.dep 0 5 (by kernel_rfl) rfl)
      have e1 : a.eval (.tmp 7) = .int .i64 ((l.length : Nat) : Int) := (H.dep 2 7 (by kernel_rfl) rfl)
      simp only [execOp, resolve, List.map_toArray, List.map_cons, List.map_nil, e0, e1]
      go_simp
      all_goals first | rfl | (simp; done) | (rw [Bool.eq_iff_iff]; simp; done) | omega | (split <;> first | (simp_all; done) | (split <;> simp_all; done)) | skip
  intro act4 w4 T
  have h0_4 : act4.eval (.tmp 0) = v := (T.rest 0 (by kernel_rfl)).trans h0_3
  have h3_4 : act4.eval (.tmp 3) = .int .i64 (k : Nat) := (T.rest 3 (by kernel_rfl)).trans h3_3
  have Fin_4 := Eng.Reads.below Fin_3 T.below
  have h8_4 : act4.eval (.tmp 8) = .bool q8 := T.done 3 8 rfl rfl
  have d4 := T.defers.trans d3
  have s4 := T.size.trans s3
  have bl4 := bl3.trans (T.below.mono bl3.size)
  clear T
  refine Eng.tail_nil ?_
  first | show Code.wp Tryd.prog _ _ _ _ | skip
  refine wp_cond_split h8_4 (fun hq => ?_) (fun hq => ?_)
  ·
    have kn5 := hq
    have c8 := Bq8.symm.trans hq
    clear hq
    have c8 := of_decide_eq_true c8
    have hk0 : k < l.length := by omega
    refine wp_skip ?_
    first | show Code.wp Tryd.prog _ _ _ _ | skip
    refine wp_seq ?_
    refine wp_block ?_
    refine wp_seq ?_
    refine wp_seq ?_
    obtain ⟨q15, Bq15⟩ : ∃ b : Bool, b = (lexname.g (l.getD k default)) := ⟨_, rfl⟩
    obtain ⟨q16, Bq16⟩ : ∃ b : Bool, b = (!q15) := ⟨_, rfl⟩
    refine Eng.regionS (Eng.still [fun u_ => u_ = v, fun u_ => u_ = .int .i64 (k : Nat), fun u_ => u_ = Eng.elemPtr v (k * 1), fun u_ => u_ = .string (l.getD k default), fun u_ => u_ = .bool q15, fun u_ => u_ = .bool q16]) (fun i => ([.plain, .plain, .plain, .plain, .plain, .plain] : List Eng.Kind).getD i .plain) 6 0 31 s4 rfl (by kernel_rfl) (Eng.still_stable _) (Or.inr (Eng.still_any _)) ?_ ?_
    · refine Eng.Steps.cons (fun _ => ?_) (Eng.Steps.cons (fun _ => ?_) (Eng.Steps.cons (fun _ => ?_) (Eng.Steps.cons (fun _ => ?_) (Eng.Steps.cons (fun _ => ?_) (Eng.Steps.cons (fun _ => ?_) (Eng.Steps.nil))))))
      · refine Eng.plain rfl rfl fun a w' H => ?_
        exact Eng.val (w1 := w') (v := v) (Eng.run_move rfl ((H.kept 0 (by kernel_rfl)).trans h0_4)) (Below.refl _ _) rfl
      · refine Eng.plain rfl rfl fun a w' H => ?_
        exact Eng.val (w1 := w') (v := .int .i64 (k : Nat)) (Eng.run_move rfl ((H.kept 3 (by kernel_rfl)).trans h3_4)) (Below.refl _ _) rfl
      · refine Eng.plain rfl rfl fun a w' H => ?_
        refine Eng.val (w1 := w') (v := Eng.elemPtr v (k * 1)) ?_ (Below.refl _ _) rfl
        exact Eng.run_index_sl rfl Tryd.underlying43 (by kernel_rfl) (show a.eval (.tmp 11) = v from (H.dep 0 11 (by kernel_rfl) rfl)) ((show a.eval (.tmp 12) = .int .i64 (k : Nat) from (H.dep 1 12 (by kernel_rfl) rfl)).trans (congrArg (Value.int _) (show (k : Nat) = ((k : Nat) : Int) from by omega))) (Eng.Reads.below Fin_4 H.below) (by omega) rfl
      · refine Eng.plain rfl rfl fun a w' H => ?_
        refine Eng.val (w1 := w') (v := .string (l.getD k default)) ?_ (Below.refl _ _) rfl
        exact Eng.run_load_el (.string (l.getD k default)) rfl (show a.eval (.tmp 13) = Eng.elemPtr v (k * 1) from (H.dep 2 13 (by kernel_rfl) rfl)) (Eng.Reads.below Fin_4 H.below) (Nfa.strs_at l k (by omega)) (by kernel_rfl)
      · refine Eng.plain rfl rfl fun a w' H => ?_
        refine Eng.call Tryd.func105 (by kernel_rfl) (by kernel_rfl) rfl #[.string (l.getD k default)] ?_ ?_
        · have e0 : a.eval (.tmp 14) = .string (l.getD k default) := (H.dep 3 14 (by kernel_rfl) rfl); simp only [List.map_toArray, List.map_cons, List.map_nil, e0]
        refine (Lnm.name_calls (l.getD k default) _).mono ?_
        rintro e w'' ⟨rfl, hb⟩
        exact ⟨_, rfl, (by show _ = Value.bool q15; rw [Bq15]), hb⟩
      · refine Eng.plain rfl rfl fun a w' H => ?_
        exact Eng.val (w1 := w') (v := .bool (!q15)) (Eng.run_not rfl (H.dep 4 15 (by kernel_rfl) rfl)) (Below.refl _ _) (by show _ = Value.bool q16; rw [Bq16])
    intro act6 w6 T
    have h0_6 : act6.eval (.tmp 0) = v := (T.rest 0 (by kernel_rfl)).trans h0_4
    have h3_6 : act6.eval (.tmp 3) = .int .i64 (k : Nat) := (T.rest 3 (by kernel_rfl)).trans h3_4
    have h8_6 : act6.eval (.tmp 8) = .bool q8 := (T.rest 8 (by kernel_rfl)).trans h8_4
    have Fin_6 := Eng.Reads.below Fin_4 T.below
    have h16_6 : act6.eval (.tmp 16) = .bool q16 := T.done 5 16 rfl rfl
    have d6 := T.defers.trans d4
    have s6 := T.size.trans s4
    have bl6 := bl4.trans (T.below.mono bl4.size)
    clear T
    refine Eng.tail_nil ?_
    first | show Code.wp Tryd.prog _ _ _ _ | skip
    refine wp_cond_split h16_6 (fun hq => ?_) (fun hq => ?_)
    ·
      have kn7 := hq
      have c16 := Bq16.symm.trans hq
      clear hq
      have hbad : lexname.g (l.getD k default) = false := by rw [Bq15] at c16; simpa using c16
      refine wp_seq ?_
      refine Eng.regionS (Eng.still [fun u_ => u_ = .bool false]) (fun i => ([.plain] : List Eng.Kind).getD i .plain) 1 0 31 s6 rfl (by kernel_rfl) (Eng.still_stable _) (Or.inr (Eng.still_any _)) ?_ ?_
      · refine Eng.Steps.cons (fun _ => ?_) (Eng.Steps.nil)
        · refine Eng.plain rfl rfl fun a w' H => ?_
          exact Eng.val (w1 := w') (v := .bool false) (Eng.run_assign rfl (rfl : a.eval (.const (.bool false)) = .bool false)) (Below.refl _ _) rfl
      intro act8 w8 T
      have h0_8 : act8.eval (.tmp 0) = v := (T.rest 0 (by kernel_rfl)).trans h0_6
      have h3_8 : act8.eval (.tmp 3) = .int .i64 (k : Nat) := (T.rest 3 (by kernel_rfl)).trans h3_6
      have h8_8 : act8.eval (.tmp 8) = .bool q8 := (T.rest 8 (by kernel_rfl)).trans h8_6
      have h16_8 : act8.eval (.tmp 16) = .bool q16 := (T.rest 16 (by kernel_rfl)).trans h16_6
      have Fin_8 := Eng.Reads.below Fin_6 T.below
      have h2_8 : act8.eval (.tmp 2) = .bool false := T.done 0 2 rfl rfl
      have d8 := T.defers.trans d6
      have s8 := T.size.trans s6
      have bl8 := bl6.trans (T.below.mono bl6.size)
      clear T
      refine Eng.tail_nil ?_
      first | show Code.wp Tryd.prog _ _ _ _ | skip
      refine wp_ret ?_
      repeat (first | refine Eng.in_ret ?_ | refine Eng.then_ret ?_)
      exact Eng.ret1 rfl d8 h2_8 ⟨congrArg _ (congrArg _ (by first | exact (Lnm.names_bad hk0 hbad).symm | exact (Lnm.names_twice hj0 hk0 htw).symm)), bl8⟩
    ·
      have kn9 := hq
      have c16 := Bq16.symm.trans hq
      clear hq
      have hgood : lexname.g (l.getD k default) = true := by rw [Bq15] at c16; simpa using c16
      refine wp_skip ?_
      first | show Code.wp Tryd.prog _ _ _ _ | skip
      refine wp_seq ?_
      refine Eng.regionS (Eng.still [fun u_ => u_ = .int .i64 0]) (fun i => ([.plain] : List Eng.Kind).getD i .plain) 1 0 31 s6 rfl (by kernel_rfl) (Eng.still_stable _) (Or.inr (Eng.still_any _)) ?_ ?_
      · refine Eng.Steps.cons (fun _ => ?_) (Eng.Steps.nil)
        · refine Eng.plain rfl rfl fun a w' H => ?_
          exact Eng.val (w1 := w') (v := .int .i64 0) (Eng.run_assign rfl (rfl : a.eval (.const (.int .i64 0)) = .int .i64 0)) (Below.refl _ _) rfl
      intro act10 w10 T
      have h0_10 : act10.eval (.tmp 0) = v := (T.rest 0 (by kernel_rfl)).trans h0_6
      have h3_10 : act10.eval (.tmp 3) = .int .i64 (k : Nat) := (T.rest 3 (by kernel_rfl)).trans h3_6
      have h8_10 : act10.eval (.tmp 8) = .bool q8 := (T.rest 8 (by kernel_rfl)).trans h8_6
      have h16_10 : act10.eval (.tmp 16) = .bool q16 := (T.rest 16 (by kernel_rfl)).trans h16_6
      have Fin_10 := Eng.Reads.below Fin_6 T.below
      have h4_10 : act10.eval (.tmp 4) = .int .i64 0 := T.done 0 4 rfl rfl
      have d10 := T.defers.trans d6
      have s10 := T.size.trans s6
      have bl10 := bl6.trans (T.below.mono bl6.size)
      clear T
      refine Eng.tail_nil ?_
      first | show Code.wp Tryd.prog _ _ _ _ | skip
      refine wp_block ?_
      refine Eng.loopN (fun n a w' => ∃ (j : Nat), k - j = n ∧ (j ≤ k) ∧ (∀ i, i < j → ((l.getD i default).toList == (l.getD k default).toList) = false) ∧ a.defers = [] ∧ a.tmps.size = 31 ∧ Below w.heap.size w w' ∧ a.eval (.tmp 0) = v ∧ a.eval (.tmp 3) = .int .i64 (k : Nat) ∧ a.eval (.tmp 4) = .int .i64 (j : Nat) ∧ a.eval (.tmp 8) = .bool q8 ∧ a.eval (.tmp 16) = .bool q16) (n0 := k - 0) ?_ ?_
      · exact ⟨0, rfl, by omega, fun i hi => absurd hi (by omega), d10, s10, bl10, h0_10, h3_10, (h4_10.trans (by first | rfl | (congr 1; rw [Eng.i64_id (by omega) (by omega)]; omega) | (simp; done))), h8_10, h16_10⟩
      rintro n act11 w11 ⟨j, rfl, hc0_11, hc1_11, d11, s11, bl11, h0_11, h3_11, h4_11, h8_11, h16_11⟩
      have Fin_11 := Eng.Reads.below hx bl11
      have hj1 := hc0_11
      have ho1 := hc1_11
      refine wp_seq ?_
      refine wp_seq ?_
      obtain ⟨q19, Bq19⟩ : ∃ b : Bool, b = (decide ((j : Nat) < (k : Nat))) := ⟨_, rfl⟩
      refine Eng.regionS (Eng.still [fun u_ => u_ = .int .i64 (j : Nat), fun u_ => u_ = .int .i64 (k : Nat), fun u_ => u_ = .bool q19]) (fun i => ([.plain, .plain, .plain] : List Eng.Kind).getD i .plain) 3 0 31 s11 rfl (by kernel_rfl) (Eng.still_stable _) (Or.inr (Eng.still_any _)) ?_ ?_
      · refine Eng.Steps.cons (fun _ => ?_) (Eng.Steps.cons (fun _ => ?_) (Eng.Steps.cons (fun _ => ?_) (Eng.Steps.nil)))
        · refine Eng.plain rfl rfl fun a w' H => ?_
          exact Eng.val (w1 := w') (v := .int .i64 (j : Nat)) (Eng.run_move rfl ((H.kept 4 (by kernel_rfl)).trans h4_11)) (Below.refl _ _) rfl
        · refine Eng.plain rfl rfl fun a w' H => ?_
          exact Eng.val (w1 := w') (v := .int .i64 (k : Nat)) (Eng.run_move rfl ((H.kept 3 (by kernel_rfl)).trans h3_11)) (Below.refl _ _) rfl
        · refine Eng.plain rfl rfl fun a w' H => ?_
          refine Eng.val (w1 := w') (v := .bool (decide ((j : Nat) < (k : Nat)))) ?_ (Below.refl _ _) (by show _ = Value.bool q19; rw [Bq19])
          have e0 : a.eval (.tmp 17) = .int .i64 (j : Nat) := (H.dep 0 17 (by kernel_rfl) rfl)
          have e1 : a.eval (.tmp 18) = .int .i64 (k : Nat) := (H.dep 1 18 (by kernel_rfl) rfl)
          simp only [execOp, resolve, List.map_toArray, List.map_cons, List.map_nil, e0, e1]
          go_simp
          all_goals first | rfl | (simp; done) | (rw [Bool.eq_iff_iff]; simp; done) | omega | (split <;> first | (simp_all; done) | (split <;> simp_all; done)) | skip
      intro act12 w12 T
      have h0_12 : act12.eval (.tmp 0) = v := (T.rest 0 (by kernel_rfl)).trans h0_11
      have h3_12 : act12.eval (.tmp 3) = .int .i64 (k : Nat) := (T.rest 3 (by kernel_rfl)).trans h3_11
      have h4_12 : act12.eval (.tmp 4) = .int .i64 (j : Nat) := (T.rest 4 (by kernel_rfl)).trans h4_11
      have h8_12 : act12.eval (.tmp 8) = .bool q8 := (T.rest 8 (by kernel_rfl)).trans h8_11
      have h16_12 : act12.eval (.tmp 16) = .bool q16 := (T.rest 16 (by kernel_rfl)).trans h16_11
      have Fin_12 := Eng.Reads.below Fin_11 T.below
      have h19_12 : act12.eval (.tmp 19) = .bool q19 := T.done 2 19 rfl rfl
      have d12 := T.defers.trans d11
      have s12 := T.size.trans s11
      have bl12 := bl11.trans (T.below.mono bl11.size)
      clear T
      refine Eng.tail_nil ?_
      first | show Code.wp Tryd.prog _ _ _ _ | skip
      refine wp_cond_split h19_12 (fun hq => ?_) (fun hq => ?_)
      ·
        have kn13 := hq
        have c19 := Bq19.symm.trans hq
        clear hq
        have c19 := of_decide_eq_true c19
        have hj0 : j < k := by omega
        refine wp_skip ?_
        first | show Code.wp Tryd.prog _ _ _ _ | skip
        refine wp_seq ?_
        refine wp_block ?_
        refine wp_seq ?_
        obtain ⟨q30, Bq30⟩ : ∃ b : Bool, b = ((l.getD j default).toList == (l.getD k default).toList) := ⟨_, rfl⟩
        refine Eng.regionD (Eng.still [fun u_ => u_ = v, fun u_ => u_ = .int .i64 (j : Nat), fun u_ => u_ = Eng.elemPtr v (j * 1), fun u_ => u_ = .string (l.getD j default), fun u_ => u_ = v, fun u_ => u_ = .int .i64 (k : Nat), fun u_ => u_ = Eng.elemPtr v (k * 1), fun u_ => u_ = .string (l.getD k default), fun u_ => u_ = .bool q30]) (fun i => ([.plain, .plain, .plain, .plain, .plain, .plain, .plain, .plain, .plain] : List Eng.Kind).getD i .plain) 9 0 31 (by kernel_rfl) s12 rfl (by kernel_rfl) (Eng.still_stable _) (Or.inr (Eng.still_any _)) ?_ ?_
        · refine Eng.Steps.cons (fun _ => ?_) (Eng.Steps.cons (fun _ => ?_) (Eng.Steps.cons (fun _ => ?_) (Eng.Steps.cons (fun _ => ?_) (Eng.Steps.cons (fun _ => ?_) (Eng.Steps.cons (fun _ => ?_) (Eng.Steps.cons (fun _ => ?_) (Eng.Steps.cons (fun _ => ?_) (Eng.Steps.cons (fun _ => ?_) (Eng.Steps.nil)))))))))
          · refine Eng.plain rfl rfl fun a w' H => ?_
            exact Eng.val (w1 := w') (v := v) (Eng.run_move rfl ((H.kept 0 (by kernel_rfl)).trans h0_12)) (Below.refl _ _) rfl
          · refine Eng.plain rfl rfl fun a w' H => ?_
            exact Eng.val (w1 := w') (v := .int .i64 (j : Nat)) (Eng.run_move rfl ((H.kept 4 (by kernel_rfl)).trans h4_12)) (Below.refl _ _) rfl
          · refine Eng.plain rfl rfl fun a w' H => ?_
            refine Eng.val (w1 := w') (v := Eng.elemPtr v (j * 1)) ?_ (Below.refl _ _) rfl
            exact Eng.run_index_sl rfl Tryd.underlying43 (by kernel_rfl) (show a.eval (.tmp 22) = v from (H.dep 0 22 (by kernel_rfl) rfl)) ((show a.eval (.tmp 23) = .int .i64 (j : Nat) from (H.dep 1 23 (by kernel_rfl) rfl)).trans (congrArg (Value.int _) (show (j : Nat) = ((j : Nat) : Int) from by omega))) (Eng.Reads.below Fin_12 H.below) (by omega) rfl
          · refine Eng.plain rfl rfl fun a w' H => ?_
            refine Eng.val (w1 := w') (v := .string (l.getD j default)) ?_ (Below.refl _ _) rfl
            exact Eng.run_load_el (.string (l.getD j default)) rfl (show a.eval (.tmp 24) = Eng.elemPtr v (j * 1) from (H.dep 2 24 (by kernel_rfl) rfl)) (Eng.Reads.below Fin_12 H.below) (Nfa.strs_at l j (by omega)) (by kernel_rfl)
          · refine Eng.plain rfl rfl fun a w' H => ?_
            exact Eng.val (w1 := w') (v := v) (Eng.run_move rfl ((H.kept 0 (by kernel_rfl)).trans h0_12)) (Below.refl _ _) rfl
          · refine Eng.plain rfl rfl fun a w' H => ?_
            exact Eng.val (w1 := w') (v := .int .i64 (k : Nat)) (Eng.run_move rfl ((H.kept 3 (by kernel_rfl)).trans h3_12)) (Below.refl _ _) rfl
          · refine Eng.plain rfl rfl fun a w' H => ?_
            refine Eng.val (w1 := w') (v := Eng.elemPtr v (k * 1)) ?_ (Below.refl _ _) rfl
            exact Eng.run_index_sl rfl Tryd.underlying43 (by kernel_rfl) (show a.eval (.tmp 26) = v from (H.dep 4 26 (by kernel_rfl) rfl)) ((show a.eval (.tmp 27) = .int .i64 (k : Nat) from (H.dep 5 27 (by kernel_rfl) rfl)).trans (congrArg (Value.int _) (show (k : Nat) = ((k : Nat) : Int) from by omega))) (Eng.Reads.below Fin_12 H.below) (by omega) rfl
          · refine Eng.plain rfl rfl fun a w' H => ?_
            refine Eng.val (w1 := w') (v := .string (l.getD k default)) ?_ (Below.refl _ _) rfl
            exact Eng.run_load_el (.string (l.getD k default)) rfl (show a.eval (.tmp 28) = Eng.elemPtr v (k * 1) from (H.dep 6 28 (by kernel_rfl) rfl)) (Eng.Reads.below Fin_12 H.below) (Nfa.strs_at l k (by omega)) (by kernel_rfl)
          · refine Eng.plain rfl rfl fun a w' H => ?_
            refine Eng.val (w1 := w') (v := .bool ((l.getD j default).toList == (l.getD k default).toList)) ?_ (Below.refl _ _) (by show _ = Value.bool q30; rw [Bq30])
            have e0 : a.eval (.tmp 25) = .string (l.getD j default) := (H.dep 3 25 (by kernel_rfl) rfl)
            have e1 : a.eval (.tmp 29) = .string (l.getD k default) := (H.dep 7 29 (by kernel_rfl) rfl)
            simp only [execOp, resolve, List.map_toArray, List.map_cons, List.map_nil, e0, e1]
            go_simp
            all_goals first | rfl | (simp; done) | (rw [Bool.eq_iff_iff]; simp; done) | omega | (split <;> first | (simp_all; done) | (split <;> simp_all; done)) | skip
        intro act14 w14 T
        have h0_14 : act14.eval (.tmp 0) = v := (T.rest 0 (by kernel_rfl)).trans h0_12
        have h3_14 : act14.eval (.tmp 3) = .int .i64 (k : Nat) := (T.rest 3 (by kernel_rfl)).trans h3_12
        have h4_14 : act14.eval (.tmp 4) = .int .i64 (j : Nat) := (T.rest 4 (by kernel_rfl)).trans h4_12
        have h8_14 : act14.eval (.tmp 8) = .bool q8 := (T.rest 8 (by kernel_rfl)).trans h8_12
        have h16_14 : act14.eval (.tmp 16) = .bool q16 := (T.rest 16 (by kernel_rfl)).trans h16_12
        have h19_14 : act14.eval (.tmp 19) = .bool q19 := (T.rest 19 (by kernel_rfl)).trans h19_12
        have Fin_14 := Eng.Reads.below Fin_12 T.below
        have h30_14 : act14.eval (.tmp 30) = .bool q30 := T.done 8 30 rfl rfl
        have d14 := T.defers.trans d12
        have s14 := T.size.trans s12
        have bl14 := bl12.trans (T.below.mono bl12.size)
        clear T
        refine Eng.tail_nil ?_
        first | show Code.wp Tryd.prog _ _ _ _ | skip
        refine wp_cond_split h30_14 (fun hq => ?_) (fun hq => ?_)
        ·
          have kn15 := hq
          have c30 := Bq30.symm.trans hq
          clear hq
          have htw := c30
          refine wp_seq ?_
          refine Eng.regionS (Eng.still [fun u_ => u_ = .bool false]) (fun i => ([.plain] : List Eng.Kind).getD i .plain) 1 0 31 s14 rfl (by kernel_rfl) (Eng.still_stable _) (Or.inr (Eng.still_any _)) ?_ ?_
          · refine Eng.Steps.cons (fun _ => ?_) (Eng.Steps.nil)
            · refine Eng.plain rfl rfl fun a w' H => ?_
              exact Eng.val (w1 := w') (v := .bool false) (Eng.run_assign rfl (rfl : a.eval (.const (.bool false)) = .bool false)) (Below.refl _ _) rfl
          intro act16 w16 T
          have h0_16 : act16.eval (.tmp 0) = v := (T.rest 0 (by kernel_rfl)).trans h0_14
          have h3_16 : act16.eval (.tmp 3) = .int .i64 (k : Nat) := (T.rest 3 (by kernel_rfl)).trans h3_14
          have h4_16 : act16.eval (.tmp 4) = .int .i64 (j : Nat) := (T.rest 4 (by kernel_rfl)).trans h4_14
          have h8_16 : act16.eval (.tmp 8) = .bool q8 := (T.rest 8 (by kernel_rfl)).trans h8_14
          have h16_16 : act16.eval (.tmp 16) = .bool q16 := (T.rest 16 (by kernel_rfl)).trans h16_14
          have h19_16 : act16.eval (.tmp 19) = .bool q19 := (T.rest 19 (by kernel_rfl)).trans h19_14
          have h30_16 : act16.eval (.tmp 30) = .bool q30 := (T.rest 30 (by kernel_rfl)).trans h30_14
          have Fin_16 := Eng.Reads.below Fin_14 T.below
          have h2_16 : act16.eval (.tmp 2) = .bool false := T.done 0 2 rfl rfl
          have d16 := T.defers.trans d14
          have s16 := T.size.trans s14
          have bl16 := bl14.trans (T.below.mono bl14.size)
          clear T
          refine Eng.tail_nil ?_
          first | show Code.wp Tryd.prog _ _ _ _ | skip
          refine wp_ret ?_
          repeat (first | refine Eng.in_ret ?_ | refine Eng.then_ret ?_)
          exact Eng.ret1 rfl d16 h2_16 ⟨congrArg _ (congrArg _ (by first | exact (Lnm.names_bad hk0 hbad).symm | exact (Lnm.names_twice hj0 hk0 htw).symm)), bl16⟩
        ·
          have kn17 := hq
          have c30 := Bq30.symm.trans hq
          clear hq
          have hntw := c30
          refine wp_skip ?_
          first | show Code.wp Tryd.prog _ _ _ _ | skip
          refine Eng.regionS (Eng.still [fun u_ => u_ = .int .i64 (j : Nat), fun u_ => u_ = .int .i64 (IntKind.i64.wrap ((j : Nat) + 1)), fun u_ => u_ = .int .i64 (IntKind.i64.wrap ((j : Nat) + 1))]) (fun i => ([.plain, .plain, .plain] : List Eng.Kind).getD i .plain) 3 0 31 s14 rfl (by kernel_rfl) (Eng.still_stable _) (Or.inr (Eng.still_any _)) ?_ ?_
          · refine Eng.Steps.cons (fun _ => ?_) (Eng.Steps.cons (fun _ => ?_) (Eng.Steps.cons (fun _ => ?_) (Eng.Steps.nil)))
            · refine Eng.plain rfl rfl fun a w' H => ?_
              exact Eng.val (w1 := w') (v := .int .i64 (j : Nat)) (Eng.run_move rfl ((H.kept 4 (by kernel_rfl)).trans h4_14)) (Below.refl _ _) rfl
            · refine Eng.plain rfl rfl fun a w' H => ?_
              refine Eng.val (w1 := w') (v := .int .i64 (IntKind.i64.wrap ((j : Nat) + 1))) ?_ (Below.refl _ _) rfl
              have e0 : a.eval (.tmp 20) = .int .i64 (j : Nat) := (H.dep 0 20 (by kernel_rfl) rfl)
              have e1 : a.eval (.const (.int .i64 1)) = .int .i64 1 := (rfl : a.eval (.const (.int .i64 1)) = .int .i64 1)
              simp only [execOp, resolve, List.map_toArray, List.map_cons, List.map_nil, e0, e1]
              go_simp
              all_goals first | rfl | (simp; done) | (rw [Bool.eq_iff_iff]; simp; done) | omega | (split <;> first | (simp_all; done) | (split <;> simp_all; done)) | skip
            · refine Eng.plain rfl rfl fun a w' H => ?_
              exact Eng.val (w1 := w') (v := .int .i64 (IntKind.i64.wrap ((j : Nat) + 1))) (Eng.run_assign rfl (H.dep 1 21 (by kernel_rfl) rfl)) (Below.refl _ _) rfl
          intro act18 w18 T
          have h0_18 : act18.eval (.tmp 0) = v := (T.rest 0 (by kernel_rfl)).trans h0_14
          have h3_18 : act18.eval (.tmp 3) = .int .i64 (k : Nat) := (T.rest 3 (by kernel_rfl)).trans h3_14
          have h8_18 : act18.eval (.tmp 8) = .bool q8 := (T.rest 8 (by kernel_rfl)).trans h8_14
          have h16_18 : act18.eval (.tmp 16) = .bool q16 := (T.rest 16 (by kernel_rfl)).trans h16_14
          have h19_18 : act18.eval (.tmp 19) = .bool q19 := (T.rest 19 (by kernel_rfl)).trans h19_14
          have h30_18 : act18.eval (.tmp 30) = .bool q30 := (T.rest 30 (by kernel_rfl)).trans h30_14
          have Fin_18 := Eng.Reads.below Fin_14 T.below
          have h4_18 : act18.eval (.tmp 4) = .int .i64 (IntKind.i64.wrap ((j : Nat) + 1)) := T.done 2 4 rfl rfl
          have d18 := T.defers.trans d14
          have s18 := T.size.trans s14
          have bl18 := bl14.trans (T.below.mono bl14.size)
          clear T
          refine Eng.tail_nil ?_
          exact ⟨_, by omega, j + 1, rfl, by omega, Lnm.one_succ ho1 hntw, d18, s18, bl18, h0_18, h3_18, (h4_18.trans (by first | rfl | (congr 1; rw [Eng.i64_id (by omega) (by omega)]; omega) | (simp; done))), h8_18, h16_18⟩
      ·
        have kn19 := hq
        have c19 := Bq19.symm.trans hq
        clear hq
        have c19 := of_decide_eq_false c19
        have hje : j = k := by omega
        refine wp_exit ?_
        first | show Code.wp Tryd.prog _ _ _ _ | skip
        first | show Code.wp Tryd.prog _ _ _ _ | skip
        refine Eng.regionS (Eng.still [fun u_ => u_ = .int .i64 (k : Nat), fun u_ => u_ = .int .i64 (IntKind.i64.wrap ((k : Nat) + 1)), fun u_ => u_ = .int .i64 (IntKind.i64.wrap ((k : Nat) + 1))]) (fun i => ([.plain, .plain, .plain] : List Eng.Kind).getD i .plain) 3 0 31 s12 rfl (by kernel_rfl) (Eng.still_stable _) (Or.inr (Eng.still_any _)) ?_ ?_
        · refine Eng.Steps.cons (fun _ => ?_) (Eng.Steps.cons (fun _ => ?_) (Eng.Steps.cons (fun _ => ?_) (Eng.Steps.nil)))
          · refine Eng.plain rfl rfl fun a w' H => ?_
            exact Eng.val (w1 := w') (v := .int .i64 (k : Nat)) (Eng.run_move rfl ((H.kept 3 (by kernel_rfl)).trans h3_12)) (Below.refl _ _) rfl
          · refine Eng.plain rfl rfl fun a w' H => ?_
            refine Eng.val (w1 := w') (v := .int .i64 (IntKind.i64.wrap ((k : Nat) + 1))) ?_ (Below.refl _ _) rfl
            have e0 : a.eval (.tmp 9) = .int .i64 (k : Nat) := (H.dep 0 9 (by kernel_rfl) rfl)
            have e1 : a.eval (.const (.int .i64 1)) = .int .i64 1 := (rfl : a.eval (.const (.int .i64 1)) = .int .i64 1)
            simp only [execOp, resolve, List.map_toArray, List.map_cons, List.map_nil, e0, e1]
            go_simp
            all_goals first | rfl | (simp; done) | (rw [Bool.eq_iff_iff]; simp; done) | omega | (split <;> first | (simp_all; done) | (split <;> simp_all; done)) | skip
          · refine Eng.plain rfl rfl fun a w' H => ?_
            exact Eng.val (w1 := w') (v := .int .i64 (IntKind.i64.wrap ((k : Nat) + 1))) (Eng.run_assign rfl (H.dep 1 10 (by kernel_rfl) rfl)) (Below.refl _ _) rfl
        intro act20 w20 T
        have h0_20 : act20.eval (.tmp 0) = v := (T.rest 0 (by kernel_rfl)).trans h0_12
        have h4_20 : act20.eval (.tmp 4) = .int .i64 (j : Nat) := (T.rest 4 (by kernel_rfl)).trans h4_12
        have h8_20 : act20.eval (.tmp 8) = .bool q8 := (T.rest 8 (by kernel_rfl)).trans h8_12
        have h16_20 : act20.eval (.tmp 16) = .bool q16 := (T.rest 16 (by kernel_rfl)).trans h16_12
        have h19_20 : act20.eval (.tmp 19) = .bool q19 := (T.rest 19 (by kernel_rfl)).trans h19_12
        have Fin_20 := Eng.Reads.below Fin_12 T.below
        have h3_20 : act20.eval (.tmp 3) = .int .i64 (IntKind.i64.wrap ((k : Nat) + 1)) := T.done 2 3 rfl rfl
        have d20 := T.defers.trans d12
        have s20 := T.size.trans s12
        have bl20 := bl12.trans (T.below.mono bl12.size)
        clear T
        refine Eng.tail_nil ?_
        exact ⟨_, by omega, k + 1, rfl, by omega, Lnm.pair_succ hn1 hgood (fun i hi => ho1 i (by omega)), d20, s20, bl20, h0_20, (h3_20.trans (by first | rfl | (congr 1; rw [Eng.i64_id (by omega) (by omega)]; omega) | (simp; done)))⟩
  ·
    have kn21 := hq
    have c8 := Bq8.symm.trans hq
    clear hq
    have c8 := of_decide_eq_false c8
    have hke : k = l.length := by omega
    refine wp_exit ?_
    first | show Code.wp Tryd.prog _ _ _ _ | skip
    first | show Code.wp Tryd.prog _ _ _ _ | skip
    refine wp_seq ?_
    refine Eng.regionS (Eng.still [fun u_ => u_ = .bool true]) (fun i => ([.plain] : List Eng.Kind).getD i .plain) 1 0 31 s4 rfl (by kernel_rfl) (Eng.still_stable _) (Or.inr (Eng.still_any _)) ?_ ?_
    · refine Eng.Steps.cons (fun _ => ?_) (Eng.Steps.nil)
      · refine Eng.plain rfl rfl fun a w' H => ?_
        exact Eng.val (w1 := w') (v := .bool true) (Eng.run_assign rfl (rfl : a.eval (.const (.bool true)) = .bool true)) (Below.refl _ _) rfl
    intro act22 w22 T
    have h0_22 : act22.eval (.tmp 0) = v := (T.rest 0 (by kernel_rfl)).trans h0_4
    have h3_22 : act22.eval (.tmp 3) = .int .i64 (k : Nat) := (T.rest 3 (by kernel_rfl)).trans h3_4
    have h8_22 : act22.eval (.tmp 8) = .bool q8 := (T.rest 8 (by kernel_rfl)).trans h8_4
    have Fin_22 := Eng.Reads.below Fin_4 T.below
    have h2_22 : act22.eval (.tmp 2) = .bool true := T.done 0 2 rfl rfl
    have d22 := T.defers.trans d4
    have s22 := T.size.trans s4
    have bl22 := bl4.trans (T.below.mono bl4.size)
    clear T
    refine Eng.tail_nil ?_
    first | show Code.wp Tryd.prog _ _ _ _ | skip
    refine wp_ret ?_
    repeat (first | refine Eng.in_ret ?_ | refine Eng.then_ret ?_)
    exact Eng.ret1 rfl d22 h2_22 ⟨congrArg _ (congrArg _ (Lnm.names_all (fun i hi => hn1 i (by omega))).symm), bl22⟩
set_option maxHeartbeats 4000000 in
set_option maxRecDepth 100000 in
theorem Lnm.may_calls (na nb : Value) (l0 l1 : List ByteArray) (w : World) (F0 : Eng.Reads w na l0.length 1 (Nfa.strs l0)) (F1 : Eng.Reads w nb l1.length 1 (Nfa.strs l1)) : Calls Tryd.prog 32 #[.agg #[na, nb]] w fun e w' => e = .returned (.bool (Lpr.mayB l0 l1)) ∧ Below w.heap.size w w' := by
  refine Eng.enter Tryd.func32 rfl fun act0 d0 s0 v0 => ?_
  have s0 : act0.tmps.size = 29 := s0
  have h0_0 : act0.eval (.tmp 0) = .agg #[na, nb] := v0 0 (by simp)
  clear v0
  have bl0 : Below w.heap.size w w := Below.refl _ _
  refine wp_seq ?_
  refine Eng.regionS (Eng.still [fun u_ => True, fun u_ => u_ = .bool false]) (fun i => ([.alloc 45 #[na, nb], .plain] : List Eng.Kind).getD i .plain) 2 0 29 s0 rfl (by kernel_rfl) (Eng.still_stable _) (Or.inr (Eng.still_any _)) ?_ ?_
  · refine Eng.Steps.cons (fun _ => ?_) (Eng.Steps.cons (fun _ => ?_) (Eng.Steps.nil))
    · refine Eng.made rfl (by simp) rfl (fun a w' hd ho => ?_) (fun _ _ => trivial)
      exact Eng.run_box rfl ((ho 0 (by kernel_rfl)).trans h0_0)
    · refine Eng.plain rfl rfl fun a w' H => ?_
      exact Eng.val (w1 := w') (v := .bool false) (Eng.run_assign rfl (rfl : a.eval (.const (.bool false)) = .bool false)) (Below.refl _ _) rfl
  intro act1 w1 T
  have h0_1 : act1.eval (.tmp 0) = .agg #[na, nb] := (T.rest 0 (by kernel_rfl)).trans h0_0
  have Fn0_1 := Eng.Reads.below F0 T.below
  have Fn1_1 := Eng.Reads.below F1 T.below
  obtain ⟨g1_1, h1_1, rg1_1, lg1_1_1, kg1_1_1⟩ := T.al 0 1 _ _ rfl rfl rfl (by kernel_rfl)
  have og1_1 : w.heap.size ≤ g1_1 := Nat.le_trans bl0.size rg1_1
  have h2_1 : act1.eval (.tmp 2) = .bool false := T.done 1 2 rfl rfl
  have d1 := T.defers.trans d0
  have s1 := T.size.trans s0
  have bl1 := bl0.trans (T.below.mono bl0.size)
  clear T
  refine Eng.tail_nil ?_
  first | show Code.wp Tryd.prog _ _ _ _ | skip
  refine wp_seq ?_
  obtain ⟨q6, Bq6⟩ : ∃ b : Bool, b = (decide (((l0.length : Nat) : Int) ≥ 1)) := ⟨_, rfl⟩
  obtain ⟨q11, Bq11⟩ : ∃ b : Bool, b = (decide (((l0.length : Nat) : Int) ≤ 10)) := ⟨_, rfl⟩
  obtain ⟨q12, Bq12⟩ : ∃ b : Bool, b = (q6 && q11) := ⟨_, rfl⟩
  obtain ⟨q17, Bq17⟩ : ∃ b : Bool, b = (decide (((l1.length : Nat) : Int) ≤ 64)) := ⟨_, rfl⟩
  obtain ⟨q18, Bq18⟩ : ∃ b : Bool, b = (q12 && q17) := ⟨_, rfl⟩
  obtain ⟨q22, Bq22⟩ : ∃ b : Bool, b = (rightB [] l0) := ⟨_, rfl⟩
  obtain ⟨q23, Bq23⟩ : ∃ b : Bool, b = (q18 && q22) := ⟨_, rfl⟩
  obtain ⟨q27, Bq27⟩ : ∃ b : Bool, b = (rightB [] l1) := ⟨_, rfl⟩
  obtain ⟨q28, Bq28⟩ : ∃ b : Bool, b = (q23 && q27) := ⟨_, rfl⟩
  refine Eng.regionS (Eng.still [fun u_ => u_ = .pointer (some ⟨g1_1, 0, none⟩), fun u_ => u_ = na, fun u_ => u_ = .int .i64 ((l0.length : Nat) : Int), fun u_ => u_ = .bool q6, fun u_ => u_ = .bool q6, fun u_ => u_ = bif (q6 == true) then (.pointer (some ⟨g1_1, 0, none⟩)) else undef, fun u_ => u_ = bif (q6 == true) then (na) else undef, fun u_ => u_ = bif (q6 == true) then (.int .i64 ((l0.length : Nat) : Int)) else undef, fun u_ => u_ = bif (q6 == true) then (.bool q11) else undef, fun u_ => u_ = .bool q12, fun u_ => u_ = .bool q12, fun u_ => u_ = bif (q12 == true) then (.pointer (some ⟨g1_1, 1, none⟩)) else undef, fun u_ => u_ = bif (q12 == true) then (nb) else undef, fun u_ => u_ = bif (q12 == true) then (.int .i64 ((l1.length : Nat) : Int)) else undef, fun u_ => u_ = bif (q12 == true) then (.bool q17) else undef, fun u_ => u_ = .bool q18, fun u_ => u_ = .bool q18, fun u_ => u_ = bif (q18 == true) then (.pointer (some ⟨g1_1, 0, none⟩)) else undef, fun u_ => u_ = bif (q18 == true) then (na) else undef, fun u_ => u_ = bif (q18 == true) then (.bool q22) else undef, fun u_ => u_ = .bool q23, fun u_ => u_ = .bool q23, fun u_ => u_ = bif (q23 == true) then (.pointer (some ⟨g1_1, 1, none⟩)) else undef, fun u_ => u_ = bif (q23 == true) then (nb) else undef, fun u_ => u_ = bif (q23 == true) then (.bool q27) else undef, fun u_ => u_ = .bool q28, fun u_ => u_ = .bool q28]) (fun i => ([.plain, .plain, .plain, .plain, .plain, .plain, .plain, .plain, .plain, .plain, .plain, .plain, .plain, .plain, .plain, .plain, .plain, .plain, .plain, .plain, .plain, .plain, .plain, .plain, .plain, .plain, .plain] : List Eng.Kind).getD i .plain) 27 0 29 s1 rfl (by kernel_rfl) (Eng.still_stable _) (Or.inr (Eng.still_any _)) ?_ ?_
  · refine Eng.Steps.cons (fun _ => ?_) (Eng.Steps.cons (fun _ => ?_) (Eng.Steps.cons (fun _ => ?_) (Eng.Steps.cons (fun _ => ?_) (Eng.Steps.cons (fun _ => ?_) (Eng.Steps.cons (fun _ => ?_) (Eng.Steps.cons (fun _ => ?_) (Eng.Steps.cons (fun _ => ?_) (Eng.Steps.cons (fun _ => ?_) (Eng.Steps.cons (fun _ => ?_) (Eng.Steps.cons (fun _ => ?_) (Eng.Steps.cons (fun _ => ?_) (Eng.Steps.cons (fun _ => ?_) (Eng.Steps.cons (fun _ => ?_) (Eng.Steps.cons (fun _ => ?_) (Eng.Steps.cons (fun _ => ?_) (Eng.Steps.cons (fun _ => ?_) (Eng.Steps.cons (fun _ => ?_) (Eng.Steps.cons (fun _ => ?_) (Eng.Steps.cons (fun _ => ?_) (Eng.Steps.cons (fun _ => ?_) (Eng.Steps.cons (fun _ => ?_) (Eng.Steps.cons (fun _ => ?_) (Eng.Steps.cons (fun _ => ?_) (Eng.Steps.cons (fun _ => ?_) (Eng.Steps.cons (fun _ => ?_) (Eng.Steps.cons (fun _ => ?_) (Eng.Steps.nil)))))))))))))))))))))))))))
    · refine Eng.plain rfl rfl fun a w' H => ?_
      refine Eng.val (w1 := w') (v := .pointer (some ⟨g1_1, 0, none⟩)) ?_ (Below.refl _ _) rfl
      have e0 : a.eval (.tmp 1) = .pointer (some ⟨g1_1, 0, none⟩) := ((H.kept 1 (by kernel_rfl)).trans h1_1)
      simp only [execOp, resolve, List.map_toArray, List.map_cons, List.map_nil, e0]
      go_simp
      all_goals first | rfl | (simp; done) | (rw [Bool.eq_iff_iff]; simp; done) | omega | (split <;> first | (simp_all; done) | (split <;> simp_all; done)) | skip
    · refine Eng.plain rfl rfl fun a w' H => ?_
      have kb := (H.below.block _ lg1_1_1).trans kg1_1_1
      have z0 : w'.cell? ⟨g1_1, 0, none⟩ = some (na) := (Eng.cells kb 0).trans rfl
      refine Eng.val (w1 := w') (v := na) ?_ (Below.refl _ _) rfl
      have e0 : a.eval (.tmp 3) = .pointer (some ⟨g1_1, 0, none⟩) := (H.dep 0 3 (by kernel_rfl) rfl)
      simp only [execOp, resolve, List.map_toArray, List.map_cons, List.map_nil, e0]
      go_simp
      all_goals first | rfl | (simp; done) | (rw [Bool.eq_iff_iff]; simp; done) | omega | (split <;> first | (simp_all; done) | (split <;> simp_all; done)) | skip
    · refine Eng.plain rfl rfl fun a w' H => ?_
      refine Eng.val (w1 := w') (v := .int .i64 ((l0.length : Nat) : Int)) ?_ (Below.refl _ _) rfl
      exact Eng.run_len_sl rfl Tryd.underlying43 (show a.eval (.tmp 4) = na from (H.dep 1 4 (by kernel_rfl) rfl)) (Eng.Reads.below Fn0_1 H.below)
    · refine Eng.plain rfl rfl fun a w' H => ?_
      refine Eng.val (w1 := w') (v := .bool (decide (((l0.length : Nat) : Int) ≥ 1))) ?_ (Below.refl _ _) (by show _ = Value.bool q6; rw [Bq6])
      have e0 : a.eval (.tmp 5) = .int .i64 ((l0.length : Nat) : Int) := (H.dep 2 5 (by kernel_rfl) rfl)
      have e1 : a.eval (.const (.int .i64 1)) = .int .i64 1 := (rfl : a.eval (.const (.int .i64 1)) = .int .i64 1)
      simp only [execOp, resolve, List.map_toArray, List.map_cons, List.map_nil, e0, e1]
      go_simp
      all_goals first | rfl | (simp; done) | (rw [Bool.eq_iff_iff]; simp; done) | omega | (split <;> first | (simp_all; done) | (split <;> simp_all; done)) | skip
    · refine Eng.plain rfl rfl fun a w' H => ?_
      exact Eng.val (w1 := w') (v := .bool q6) (Eng.run_move rfl (H.dep 3 6 (by kernel_rfl) rfl)) (Below.refl _ _) rfl
    · refine Eng.guarded1 (j := 4) (d := 7) (b := q6) rfl rfl (by kernel_rfl) rfl (fun v w h => h) (fun hG w => Eng.off hG) fun hG a w' H => ?_
      refine Eng.val (w1 := w') (v := .pointer (some ⟨g1_1, 0, none⟩)) ?_ (Below.refl _ _) (Eng.off' hG rfl)
      have e0 : a.eval (.tmp 1) = .pointer (some ⟨g1_1, 0, none⟩) := ((H.kept 1 (by kernel_rfl)).trans h1_1)
      simp only [execOp, resolve, List.map_toArray, List.map_cons, List.map_nil, e0]
      go_simp
      all_goals first | rfl | (simp; done) | (rw [Bool.eq_iff_iff]; simp; done) | omega | (split <;> first | (simp_all; done) | (split <;> simp_all; done)) | skip
    · refine Eng.guarded1 (j := 4) (d := 7) (b := q6) rfl rfl (by kernel_rfl) rfl (fun v w h => h) (fun hG w => Eng.off hG) fun hG a w' H => ?_
      have kb := (H.below.block _ lg1_1_1).trans kg1_1_1
      have z0 : w'.cell? ⟨g1_1, 0, none⟩ = some (na) := (Eng.cells kb 0).trans rfl
      refine Eng.val (w1 := w') (v := na) ?_ (Below.refl _ _) (Eng.off' hG rfl)
      have e0 : a.eval (.tmp 8) = .pointer (some ⟨g1_1, 0, none⟩) := (Eng.on (H.dep 5 8 (by kernel_rfl) rfl) hG)
      simp only [execOp, resolve, List.map_toArray, List.map_cons, List.map_nil, e0]
      go_simp
      all_goals first | rfl | (simp; done) | (rw [Bool.eq_iff_iff]; simp; done) | omega | (split <;> first | (simp_all; done) | (split <;> simp_all; done)) | skip
    · refine Eng.guarded1 (j := 4) (d := 7) (b := q6) rfl rfl (by kernel_rfl) rfl (fun v w h => h) (fun hG w => Eng.off hG) fun hG a w' H => ?_
      refine Eng.val (w1 := w') (v := .int .i64 ((l0.length : Nat) : Int)) ?_ (Below.refl _ _) (Eng.off' hG rfl)
      exact Eng.run_len_sl rfl Tryd.underlying43 (show a.eval (.tmp 9) = na from (Eng.on (H.dep 6 9 (by kernel_rfl) rfl) hG)) (Eng.Reads.below Fn0_1 H.below)
    · refine Eng.guarded1 (j := 4) (d := 7) (b := q6) rfl rfl (by kernel_rfl) rfl (fun v w h => h) (fun hG w => Eng.off hG) fun hG a w' H => ?_
      refine Eng.val (w1 := w') (v := .bool (decide (((l0.length : Nat) : Int) ≤ 10))) ?_ (Below.refl _ _) (Eng.off' hG (by rw [Bq11]))
      have e0 : a.eval (.tmp 10) = .int .i64 ((l0.length : Nat) : Int) := (Eng.on (H.dep 7 10 (by kernel_rfl) rfl) hG)
      have e1 : a.eval (.const (.int .i64 10)) = .int .i64 10 := (rfl : a.eval (.const (.int .i64 10)) = .int .i64 10)
      simp only [execOp, resolve, List.map_toArray, List.map_cons, List.map_nil, e0, e1]
      go_simp
      all_goals first | rfl | (simp; done) | (rw [Bool.eq_iff_iff]; simp; done) | omega | (split <;> first | (simp_all; done) | (split <;> simp_all; done)) | skip
    · refine Eng.plain rfl rfl fun a w' H => ?_
      exact Eng.val (w1 := w') (v := .bool (q6 && q11)) (Eng.run_and rfl rfl (G := true) (H.dep 4 7 (by kernel_rfl) rfl) (fun hb => (Eng.on (H.dep 8 11 (by kernel_rfl) rfl) (Eng.mk1 hb)))) (Below.refl _ _) (by show _ = Value.bool q12; rw [Bq12])
    · refine Eng.plain rfl rfl fun a w' H => ?_
      exact Eng.val (w1 := w') (v := .bool q12) (Eng.run_move rfl (H.dep 9 12 (by kernel_rfl) rfl)) (Below.refl _ _) rfl
    · refine Eng.guarded1 (j := 10) (d := 13) (b := q12) rfl rfl (by kernel_rfl) rfl (fun v w h => h) (fun hG w => Eng.off hG) fun hG a w' H => ?_
      refine Eng.val (w1 := w') (v := .pointer (some ⟨g1_1, 1, none⟩)) ?_ (Below.refl _ _) (Eng.off' hG rfl)
      have e0 : a.eval (.tmp 1) = .pointer (some ⟨g1_1, 0, none⟩) := ((H.kept 1 (by kernel_rfl)).trans h1_1)
      simp only [execOp, resolve, List.map_toArray, List.map_cons, List.map_nil, e0]
      go_simp
      all_goals first | rfl | (simp; done) | (rw [Bool.eq_iff_iff]; simp; done) | omega | (split <;> first | (simp_all; done) | (split <;> simp_all; done)) | skip
    · refine Eng.guarded1 (j := 10) (d := 13) (b := q12) rfl rfl (by kernel_rfl) rfl (fun v w h => h) (fun hG w => Eng.off hG) fun hG a w' H => ?_
      have kb := (H.below.block _ lg1_1_1).trans kg1_1_1
      have z0 : w'.cell? ⟨g1_1, 1, none⟩ = some (nb) := (Eng.cells kb 1).trans rfl
      refine Eng.val (w1 := w') (v := nb) ?_ (Below.refl _ _) (Eng.off' hG rfl)
      have e0 : a.eval (.tmp 14) = .pointer (some ⟨g1_1, 1, none⟩) := (Eng.on (H.dep 11 14 (by kernel_rfl) rfl) hG)
      simp only [execOp, resolve, List.map_toArray, List.map_cons, List.map_nil, e0]
      go_simp
      all_goals first | rfl | (simp; done) | (rw [Bool.eq_iff_iff]; simp; done) | omega | (split <;> first | (simp_all; done) | (split <;> simp_all; done)) | skip
    · refine Eng.guarded1 (j := 10) (d := 13) (b := q12) rfl rfl (by kernel_rfl) rfl (fun v w h => h) (fun hG w => Eng.off hG) fun hG a w' H => ?_
      refine Eng.val (w1 := w') (v := .int .i64 ((l1.length : Nat) : Int)) ?_ (Below.refl _ _) (Eng.off' hG rfl)
      exact Eng.run_len_sl rfl Tryd.underlying43 (show a.eval (.tmp 15) = nb from (Eng.on (H.dep 12 15 (by kernel_rfl) rfl) hG)) (Eng.Reads.below Fn1_1 H.below)
    · refine Eng.guarded1 (j := 10) (d := 13) (b := q12) rfl rfl (by kernel_rfl) rfl (fun v w h => h) (fun hG w => Eng.off hG) fun hG a w' H => ?_
      refine Eng.val (w1 := w') (v := .bool (decide (((l1.length : Nat) : Int) ≤ 64))) ?_ (Below.refl _ _) (Eng.off' hG (by rw [Bq17]))
      have e0 : a.eval (.tmp 16) = .int .i64 ((l1.length : Nat) : Int) := (Eng.on (H.dep 13 16 (by kernel_rfl) rfl) hG)
      have e1 : a.eval (.const (.int .i64 64)) = .int .i64 64 := (rfl : a.eval (.const (.int .i64 64)) = .int .i64 64)
      simp only [execOp, resolve, List.map_toArray, List.map_cons, List.map_nil, e0, e1]
      go_simp
      all_goals first | rfl | (simp; done) | (rw [Bool.eq_iff_iff]; simp; done) | omega | (split <;> first | (simp_all; done) | (split <;> simp_all; done)) | skip
    · refine Eng.plain rfl rfl fun a w' H => ?_
      exact Eng.val (w1 := w') (v := .bool (q12 && q17)) (Eng.run_and rfl rfl (G := true) (H.dep 10 13 (by kernel_rfl) rfl) (fun hb => (Eng.on (H.dep 14 17 (by kernel_rfl) rfl) (Eng.mk1 hb)))) (Below.refl _ _) (by show _ = Value.bool q18; rw [Bq18])
    · refine Eng.plain rfl rfl fun a w' H => ?_
      exact Eng.val (w1 := w') (v := .bool q18) (Eng.run_move rfl (H.dep 15 18 (by kernel_rfl) rfl)) (Below.refl _ _) rfl
    · refine Eng.guarded1 (j := 16) (d := 19) (b := q18) rfl rfl (by kernel_rfl) rfl (fun v w h => h) (fun hG w => Eng.off hG) fun hG a w' H => ?_
      refine Eng.val (w1 := w') (v := .pointer (some ⟨g1_1, 0, none⟩)) ?_ (Below.refl _ _) (Eng.off' hG rfl)
      have e0 : a.eval (.tmp 1) = .pointer (some ⟨g1_1, 0, none⟩) := ((H.kept 1 (by kernel_rfl)).trans h1_1)
      simp only [execOp, resolve, List.map_toArray, List.map_cons, List.map_nil, e0]
      go_simp
      all_goals first | rfl | (simp; done) | (rw [Bool.eq_iff_iff]; simp; done) | omega | (split <;> first | (simp_all; done) | (split <;> simp_all; done)) | skip
    · refine Eng.guarded1 (j := 16) (d := 19) (b := q18) rfl rfl (by kernel_rfl) rfl (fun v w h => h) (fun hG w => Eng.off hG) fun hG a w' H => ?_
      have kb := (H.below.block _ lg1_1_1).trans kg1_1_1
      have z0 : w'.cell? ⟨g1_1, 0, none⟩ = some (na) := (Eng.cells kb 0).trans rfl
      refine Eng.val (w1 := w') (v := na) ?_ (Below.refl _ _) (Eng.off' hG rfl)
      have e0 : a.eval (.tmp 20) = .pointer (some ⟨g1_1, 0, none⟩) := (Eng.on (H.dep 17 20 (by kernel_rfl) rfl) hG)
      simp only [execOp, resolve, List.map_toArray, List.map_cons, List.map_nil, e0]
      go_simp
      all_goals first | rfl | (simp; done) | (rw [Bool.eq_iff_iff]; simp; done) | omega | (split <;> first | (simp_all; done) | (split <;> simp_all; done)) | skip
    · refine Eng.guarded1 (j := 16) (d := 19) (b := q18) rfl rfl (by kernel_rfl) rfl (fun v w h => h) (fun hG w => Eng.off hG) fun hG a w' H => ?_
      refine Eng.call Tryd.func75 (by kernel_rfl) (by kernel_rfl) rfl #[na] ?_ ?_
      · have e0 : a.eval (.tmp 21) = na := (Eng.on (H.dep 18 21 (by kernel_rfl) rfl) hG); simp only [List.map_toArray, List.map_cons, List.map_nil, e0]
      refine (Lnm.names_calls na l0 _ (Eng.Reads.below Fn0_1 H.below)).mono ?_
      rintro e w'' ⟨rfl, hb⟩
      exact ⟨_, rfl, (Eng.off' hG (by rw [Bq22])), hb⟩
    · refine Eng.plain rfl rfl fun a w' H => ?_
      exact Eng.val (w1 := w') (v := .bool (q18 && q22)) (Eng.run_and rfl rfl (G := true) (H.dep 16 19 (by kernel_rfl) rfl) (fun hb => (Eng.on (H.dep 19 22 (by kernel_rfl) rfl) (Eng.mk1 hb)))) (Below.refl _ _) (by show _ = Value.bool q23; rw [Bq23])
    · refine Eng.plain rfl rfl fun a w' H => ?_
      exact Eng.val (w1 := w') (v := .bool q23) (Eng.run_move rfl (H.dep 20 23 (by kernel_rfl) rfl)) (Below.refl _ _) rfl
    · refine Eng.guarded1 (j := 21) (d := 24) (b := q23) rfl rfl (by kernel_rfl) rfl (fun v w h => h) (fun hG w => Eng.off hG) fun hG a w' H => ?_
      refine Eng.val (w1 := w') (v := .pointer (some ⟨g1_1, 1, none⟩)) ?_ (Below.refl _ _) (Eng.off' hG rfl)
      have e0 : a.eval (.tmp 1) = .pointer (some ⟨g1_1, 0, none⟩) := ((H.kept 1 (by kernel_rfl)).trans h1_1)
      simp only [execOp, resolve, List.map_toArray, List.map_cons, List.map_nil, e0]
      go_simp
      all_goals first | rfl | (simp; done) | (rw [Bool.eq_iff_iff]; simp; done) | omega | (split <;> first | (simp_all; done) | (split <;> simp_all; done)) | skip
    · refine Eng.guarded1 (j := 21) (d := 24) (b := q23) rfl rfl (by kernel_rfl) rfl (fun v w h => h) (fun hG w => Eng.off hG) fun hG a w' H => ?_
      have kb := (H.below.block _ lg1_1_1).trans kg1_1_1
      have z0 : w'.cell? ⟨g1_1, 1, none⟩ = some (nb) := (Eng.cells kb 1).trans rfl
      refine Eng.val (w1 := w') (v := nb) ?_ (Below.refl _ _) (Eng.off' hG rfl)
      have e0 : a.eval (.tmp 25) = .pointer (some ⟨g1_1, 1, none⟩) := (Eng.on (H.dep 22 25 (by kernel_rfl) rfl) hG)
      simp only [execOp, resolve, List.map_toArray, List.map_cons, List.map_nil, e0]
      go_simp
      all_goals first | rfl | (simp; done) | (rw [Bool.eq_iff_iff]; simp; done) | omega | (split <;> first | (simp_all; done) | (split <;> simp_all; done)) | skip
    · refine Eng.guarded1 (j := 21) (d := 24) (b := q23) rfl rfl (by kernel_rfl) rfl (fun v w h => h) (fun hG w => Eng.off hG) fun hG a w' H => ?_
      refine Eng.call Tryd.func75 (by kernel_rfl) (by kernel_rfl) rfl #[nb] ?_ ?_
      · have e0 : a.eval (.tmp 26) = nb := (Eng.on (H.dep 23 26 (by kernel_rfl) rfl) hG); simp only [List.map_toArray, List.map_cons, List.map_nil, e0]
      refine (Lnm.names_calls nb l1 _ (Eng.Reads.below Fn1_1 H.below)).mono ?_
      rintro e w'' ⟨rfl, hb⟩
      exact ⟨_, rfl, (Eng.off' hG (by rw [Bq27])), hb⟩
    · refine Eng.plain rfl rfl fun a w' H => ?_
      exact Eng.val (w1 := w') (v := .bool (q23 && q27)) (Eng.run_and rfl rfl (G := true) (H.dep 21 24 (by kernel_rfl) rfl) (fun hb => (Eng.on (H.dep 24 27 (by kernel_rfl) rfl) (Eng.mk1 hb)))) (Below.refl _ _) (by show _ = Value.bool q28; rw [Bq28])
    · refine Eng.plain rfl rfl fun a w' H => ?_
      exact Eng.val (w1 := w') (v := .bool q28) (Eng.run_assign rfl (H.dep 25 28 (by kernel_rfl) rfl)) (Below.refl _ _) rfl
  intro act2 w2 T
  have h0_2 : act2.eval (.tmp 0) = .agg #[na, nb] := (T.rest 0 (by kernel_rfl)).trans h0_1
  have h1_2 : act2.eval (.tmp 1) = .pointer (some ⟨g1_1, 0, none⟩) := (T.rest 1 (by kernel_rfl)).trans h1_1
  have kg1_1_2 := (T.below.block _ lg1_1_1).trans kg1_1_1
  have lg1_1_2 := Nat.lt_of_lt_of_le lg1_1_1 T.below.size
  have Fn0_2 := Eng.Reads.below Fn0_1 T.below
  have Fn1_2 := Eng.Reads.below Fn1_1 T.below
  have h2_2 : act2.eval (.tmp 2) = .bool q28 := T.done 26 2 rfl rfl
  have d2 := T.defers.trans d1
  have s2 := T.size.trans s1
  have bl2 := bl1.trans (T.below.mono bl1.size)
  clear T
  refine Eng.tail_nil ?_
  first | show Code.wp Tryd.prog _ _ _ _ | skip
  refine wp_ret ?_
  repeat (first | refine Eng.in_ret ?_ | refine Eng.then_ret ?_)
  exact Eng.ret1 rfl d2 (h2_2.trans (by rw [Bq28, Bq27, Bq23, Bq22, Bq18, Bq17, Bq12, Bq11, Bq6]; exact congrArg _ Lnm.may_form)) ⟨rfl, bl2⟩
set_option maxHeartbeats 4000000 in
set_option maxRecDepth 100000 in
theorem Lnm.place_calls (v : Value) (l : List ByteArray) (s : ByteArray) (w : World) (hx : Eng.Reads w v l.length 1 (Nfa.strs l)) : Calls Tryd.prog 73 #[v, .string s] w fun e w' => e = .returned (.int .i64 (place l (Lpr.bl s))) ∧ Below w.heap.size w w' := by
  have hm := Eng.Reads.len_le hx
  refine Eng.enter Tryd.func73 rfl fun act0 d0 s0 v0 => ?_
  have s0 : act0.tmps.size = 19 := s0
  have h0_0 : act0.eval (.tmp 0) = v := v0 0 (by simp)
  have h1_0 : act0.eval (.tmp 1) = .string s := v0 1 (by simp)
  clear v0
  have bl0 : Below w.heap.size w w := Below.refl _ _
  refine wp_seq ?_
  refine Eng.regionS (Eng.still [fun u_ => u_ = .int .i64 0]) (fun i => ([.plain] : List Eng.Kind).getD i .plain) 1 0 19 s0 rfl (by kernel_rfl) (Eng.still_stable _) (Or.inr (Eng.still_any _)) ?_ ?_
  · refine Eng.Steps.cons (fun _ => ?_) (Eng.Steps.nil)
    · refine Eng.plain rfl rfl fun a w' H => ?_
      exact Eng.val (w1 := w') (v := .int .i64 0) (Eng.run_assign rfl (rfl : a.eval (.const (.int .i64 0)) = .int .i64 0)) (Below.refl _ _) rfl
  intro act1 w1 T
  have h0_1 : act1.eval (.tmp 0) = v := (T.rest 0 (by kernel_rfl)).trans h0_0
  have h1_1 : act1.eval (.tmp 1) = .string s := (T.rest 1 (by kernel_rfl)).trans h1_0
  have Fin_1 := Eng.Reads.below hx T.below
  have h4_1 : act1.eval (.tmp 4) = .int .i64 0 := T.done 0 4 rfl rfl
  have d1 := T.defers.trans d0
  have s1 := T.size.trans s0
  have bl1 := bl0.trans (T.below.mono bl0.size)
  clear T
  refine Eng.tail_nil ?_
  first | show Code.wp Tryd.prog _ _ _ _ | skip
  refine wp_seq ?_
  refine wp_seq ?_
  refine Eng.regionS (Eng.still [fun u_ => u_ = .int .i64 0]) (fun i => ([.plain] : List Eng.Kind).getD i .plain) 1 0 19 s1 rfl (by kernel_rfl) (Eng.still_stable _) (Or.inr (Eng.still_any _)) ?_ ?_
  · refine Eng.Steps.cons (fun _ => ?_) (Eng.Steps.nil)
    · refine Eng.plain rfl rfl fun a w' H => ?_
      exact Eng.val (w1 := w') (v := .int .i64 0) (Eng.run_assign rfl (rfl : a.eval (.const (.int .i64 0)) = .int .i64 0)) (Below.refl _ _) rfl
  intro act2 w2 T
  have h0_2 : act2.eval (.tmp 0) = v := (T.rest 0 (by kernel_rfl)).trans h0_1
  have h1_2 : act2.eval (.tmp 1) = .string s := (T.rest 1 (by kernel_rfl)).trans h1_1
  have h4_2 : act2.eval (.tmp 4) = .int .i64 0 := (T.rest 4 (by kernel_rfl)).trans h4_1
  have Fin_2 := Eng.Reads.below Fin_1 T.below
  have h5_2 : act2.eval (.tmp 5) = .int .i64 0 := T.done 0 5 rfl rfl
  have d2 := T.defers.trans d1
  have s2 := T.size.trans s1
  have bl2 := bl1.trans (T.below.mono bl1.size)
  clear T
  refine Eng.tail_nil ?_
  first | show Code.wp Tryd.prog _ _ _ _ | skip
  refine wp_block ?_
  refine Eng.loopN (fun n a w' => ∃ (k : Nat), l.length - k = n ∧ (k ≤ l.length) ∧ (∀ i, i < k → ((l.getD i default).toList == s.toList) = false) ∧ a.defers = [] ∧ a.tmps.size = 19 ∧ Below w.heap.size w w' ∧ a.eval (.tmp 0) = v ∧ a.eval (.tmp 1) = .string s ∧ a.eval (.tmp 5) = .int .i64 (k : Nat)) (n0 := l.length - 0) ?_ ?_
  · exact ⟨0, rfl, by omega, fun i hi => absurd hi (by omega), d2, s2, bl2, h0_2, h1_2, (h5_2.trans (by first | rfl | (congr 1; rw [Eng.i64_id (by omega) (by omega)]; omega) | (simp; done)))⟩
  rintro n act3 w3 ⟨k, rfl, hc0_3, hc1_3, d3, s3, bl3, h0_3, h1_3, h5_3⟩
  have Fin_3 := Eng.Reads.below hx bl3
  have hk1 := hc0_3
  have hn1 := hc1_3
  refine wp_seq ?_
  refine wp_seq ?_
  obtain ⟨q9, Bq9⟩ : ∃ b : Bool, b = (decide ((k : Nat) < ((l.length : Nat) : Int))) := ⟨_, rfl⟩
  refine Eng.regionS (Eng.still [fun u_ => u_ = .int .i64 (k : Nat), fun u_ => u_ = v, fun u_ => u_ = .int .i64 ((l.length : Nat) : Int), fun u_ => u_ = .bool q9]) (fun i => ([.plain, .plain, .plain, .plain] : List Eng.Kind).getD i .plain) 4 0 19 s3 rfl (by kernel_rfl) (Eng.still_stable _) (Or.inr (Eng.still_any _)) ?_ ?_
  · refine Eng.Steps.cons (fun _ => ?_) (Eng.Steps.cons (fun _ => ?_) (Eng.Steps.cons (fun _ => ?_) (Eng.Steps.cons (fun _ => ?_) (Eng.Steps.nil))))
    · refine Eng.plain rfl rfl fun a w' H => ?_
      exact Eng.val (w1 := w') (v := .int .i64 (k : Nat)) (Eng.run_move rfl ((H.kept 5 (by kernel_rfl)).trans h5_3)) (Below.refl _ _) rfl
    · refine Eng.plain rfl rfl fun a w' H => ?_
      exact Eng.val (w1 := w') (v := v) (Eng.run_move rfl ((H.kept 0 (by kernel_rfl)).trans h0_3)) (Below.refl _ _) rfl
    · refine Eng.plain rfl rfl fun a w' H => ?_
      refine Eng.val (w1 := w') (v := .int .i64 ((l.length : Nat) : Int)) ?_ (Below.refl _ _) rfl
      exact Eng.run_len_sl rfl Tryd.underlying43 (show a.eval (.tmp 7) = v from (H.dep 1 7 (by kernel_rfl) rfl)) (Eng.Reads.below Fin_3 H.below)
    · refine Eng.plain rfl rfl fun a w' H => ?_
      refine Eng.val (w1 := w') (v := .bool (decide ((k : Nat) < ((l.length : Nat) : Int)))) ?_ (Below.refl _ _) (by show _ = Value.bool q9; rw [Bq9])
      have e0 : a.eval (.tmp 6) = .int .i64 (k : Nat) := (H.dep 0 6 (by kernel_rfl) rfl)
      have e1 : a.eval (.tmp 8) = .int .i64 ((l.length : Nat) : Int) := (H.dep 2 8 (by kernel_rfl) rfl)
      simp only [execOp, resolve, List.map_toArray, List.map_cons, List.map_nil, e0, e1]
      go_simp
      all_goals first | rfl | (simp; done) | (rw [Bool.eq_iff_iff]; simp; done) | omega | (split <;> first | (simp_all; done) | (split <;> simp_all; done)) | skip
  intro act4 w4 T
  have h0_4 : act4.eval (.tmp 0) = v := (T.rest 0 (by kernel_rfl)).trans h0_3
  have h1_4 : act4.eval (.tmp 1) = .string s := (T.rest 1 (by kernel_rfl)).trans h1_3
  have h5_4 : act4.eval (.tmp 5) = .int .i64 (k : Nat) := (T.rest 5 (by kernel_rfl)).trans h5_3
  have Fin_4 := Eng.Reads.below Fin_3 T.below
  have h9_4 : act4.eval (.tmp 9) = .bool q9 := T.done 3 9 rfl rfl
  have d4 := T.defers.trans d3
  have s4 := T.size.trans s3
  have bl4 := bl3.trans (T.below.mono bl3.size)
  clear T
  refine Eng.tail_nil ?_
  first | show Code.wp Tryd.prog _ _ _ _ | skip
  refine wp_cond_split h9_4 (fun hq => ?_) (fun hq => ?_)
  ·
    have kn5 := hq
    have c9 := Bq9.symm.trans hq
    clear hq
    have c9 := of_decide_eq_true c9
    have hk0 : k < l.length := by omega
    refine wp_skip ?_
    first | show Code.wp Tryd.prog _ _ _ _ | skip
    refine wp_seq ?_
    refine wp_block ?_
    refine wp_seq ?_
    obtain ⟨q17, Bq17⟩ : ∃ b : Bool, b = ((l.getD k default).toList == s.toList) := ⟨_, rfl⟩
    refine Eng.regionS (Eng.still [fun u_ => u_ = v, fun u_ => u_ = .int .i64 (k : Nat), fun u_ => u_ = Eng.elemPtr v (k * 1), fun u_ => u_ = .string (l.getD k default), fun u_ => u_ = .string s, fun u_ => u_ = .bool q17]) (fun i => ([.plain, .plain, .plain, .plain, .plain, .plain] : List Eng.Kind).getD i .plain) 6 0 19 s4 rfl (by kernel_rfl) (Eng.still_stable _) (Or.inr (Eng.still_any _)) ?_ ?_
    · refine Eng.Steps.cons (fun _ => ?_) (Eng.Steps.cons (fun _ => ?_) (Eng.Steps.cons (fun _ => ?_) (Eng.Steps.cons (fun _ => ?_) (Eng.Steps.cons (fun _ => ?_) (Eng.Steps.cons (fun _ => ?_) (Eng.Steps.nil))))))
      · refine Eng.plain rfl rfl fun a w' H => ?_
        exact Eng.val (w1 := w') (v := v) (Eng.run_move rfl ((H.kept 0 (by kernel_rfl)).trans h0_4)) (Below.refl _ _) rfl
      · refine Eng.plain rfl rfl fun a w' H => ?_
        exact Eng.val (w1 := w') (v := .int .i64 (k : Nat)) (Eng.run_move rfl ((H.kept 5 (by kernel_rfl)).trans h5_4)) (Below.refl _ _) rfl
      · refine Eng.plain rfl rfl fun a w' H => ?_
        refine Eng.val (w1 := w') (v := Eng.elemPtr v (k * 1)) ?_ (Below.refl _ _) rfl
        exact Eng.run_index_sl rfl Tryd.underlying43 (by kernel_rfl) (show a.eval (.tmp 12) = v from (H.dep 0 12 (by kernel_rfl) rfl)) ((show a.eval (.tmp 13) = .int .i64 (k : Nat) from (H.dep 1 13 (by kernel_rfl) rfl)).trans (congrArg (Value.int _) (show (k : Nat) = ((k : Nat) : Int) from by omega))) (Eng.Reads.below Fin_4 H.below) (by omega) rfl
      · refine Eng.plain rfl rfl fun a w' H => ?_
        refine Eng.val (w1 := w') (v := .string (l.getD k default)) ?_ (Below.refl _ _) rfl
        exact Eng.run_load_el (.string (l.getD k default)) rfl (show a.eval (.tmp 14) = Eng.elemPtr v (k * 1) from (H.dep 2 14 (by kernel_rfl) rfl)) (Eng.Reads.below Fin_4 H.below) (Nfa.strs_at l k (by omega)) (by kernel_rfl)
      · refine Eng.plain rfl rfl fun a w' H => ?_
        exact Eng.val (w1 := w') (v := .string s) (Eng.run_move rfl ((H.kept 1 (by kernel_rfl)).trans h1_4)) (Below.refl _ _) rfl
      · refine Eng.plain rfl rfl fun a w' H => ?_
        refine Eng.val (w1 := w') (v := .bool ((l.getD k default).toList == s.toList)) ?_ (Below.refl _ _) (by show _ = Value.bool q17; rw [Bq17])
        have e0 : a.eval (.tmp 15) = .string (l.getD k default) := (H.dep 3 15 (by kernel_rfl) rfl)
        have e1 : a.eval (.tmp 16) = .string s := (H.dep 4 16 (by kernel_rfl) rfl)
        simp only [execOp, resolve, List.map_toArray, List.map_cons, List.map_nil, e0, e1]
        go_simp
        all_goals first | rfl | (simp; done) | (rw [Bool.eq_iff_iff]; simp; done) | omega | (split <;> first | (simp_all; done) | (split <;> simp_all; done)) | skip
    intro act6 w6 T
    have h0_6 : act6.eval (.tmp 0) = v := (T.rest 0 (by kernel_rfl)).trans h0_4
    have h1_6 : act6.eval (.tmp 1) = .string s := (T.rest 1 (by kernel_rfl)).trans h1_4
    have h5_6 : act6.eval (.tmp 5) = .int .i64 (k : Nat) := (T.rest 5 (by kernel_rfl)).trans h5_4
    have h9_6 : act6.eval (.tmp 9) = .bool q9 := (T.rest 9 (by kernel_rfl)).trans h9_4
    have Fin_6 := Eng.Reads.below Fin_4 T.below
    have h17_6 : act6.eval (.tmp 17) = .bool q17 := T.done 5 17 rfl rfl
    have d6 := T.defers.trans d4
    have s6 := T.size.trans s4
    have bl6 := bl4.trans (T.below.mono bl4.size)
    clear T
    refine Eng.tail_nil ?_
    first | show Code.wp Tryd.prog _ _ _ _ | skip
    refine wp_cond_split h17_6 (fun hq => ?_) (fun hq => ?_)
    ·
      have kn7 := hq
      have c17 := Bq17.symm.trans hq
      clear hq
      have hhit := c17
      refine wp_seq ?_
      refine Eng.regionS (Eng.still [fun u_ => u_ = .int .i64 (k : Nat), fun u_ => u_ = .int .i64 (k : Nat)]) (fun i => ([.plain, .plain] : List Eng.Kind).getD i .plain) 2 0 19 s6 rfl (by kernel_rfl) (Eng.still_stable _) (Or.inr (Eng.still_any _)) ?_ ?_
      · refine Eng.Steps.cons (fun _ => ?_) (Eng.Steps.cons (fun _ => ?_) (Eng.Steps.nil))
        · refine Eng.plain rfl rfl fun a w' H => ?_
          exact Eng.val (w1 := w') (v := .int .i64 (k : Nat)) (Eng.run_move rfl ((H.kept 5 (by kernel_rfl)).trans h5_6)) (Below.refl _ _) rfl
        · refine Eng.plain rfl rfl fun a w' H => ?_
          exact Eng.val (w1 := w') (v := .int .i64 (k : Nat)) (Eng.run_assign rfl (H.dep 0 18 (by kernel_rfl) rfl)) (Below.refl _ _) rfl
      intro act8 w8 T
      have h0_8 : act8.eval (.tmp 0) = v := (T.rest 0 (by kernel_rfl)).trans h0_6
      have h1_8 : act8.eval (.tmp 1) = .string s := (T.rest 1 (by kernel_rfl)).trans h1_6
      have h5_8 : act8.eval (.tmp 5) = .int .i64 (k : Nat) := (T.rest 5 (by kernel_rfl)).trans h5_6
      have h9_8 : act8.eval (.tmp 9) = .bool q9 := (T.rest 9 (by kernel_rfl)).trans h9_6
      have h17_8 : act8.eval (.tmp 17) = .bool q17 := (T.rest 17 (by kernel_rfl)).trans h17_6
      have Fin_8 := Eng.Reads.below Fin_6 T.below
      have h4_8 : act8.eval (.tmp 4) = .int .i64 (k : Nat) := T.done 1 4 rfl rfl
      have d8 := T.defers.trans d6
      have s8 := T.size.trans s6
      have bl8 := bl6.trans (T.below.mono bl6.size)
      clear T
      refine Eng.tail_nil ?_
      first | show Code.wp Tryd.prog _ _ _ _ | skip
      refine wp_ret ?_
      repeat (first | refine Eng.in_ret ?_ | refine Eng.then_ret ?_)
      exact Eng.ret1 rfl d8 h4_8 ⟨congrArg _ (congrArg _ (by first | exact (Lnm.place_hit hk0 hhit hn1).symm | exact (Lnm.place_miss (fun i hi => hn1 i (by omega))).symm)), bl8⟩
    ·
      have kn9 := hq
      have c17 := Bq17.symm.trans hq
      clear hq
      have hno := c17
      refine wp_skip ?_
      first | show Code.wp Tryd.prog _ _ _ _ | skip
      refine Eng.regionS (Eng.still [fun u_ => u_ = .int .i64 (k : Nat), fun u_ => u_ = .int .i64 (IntKind.i64.wrap ((k : Nat) + 1)), fun u_ => u_ = .int .i64 (IntKind.i64.wrap ((k : Nat) + 1))]) (fun i => ([.plain, .plain, .plain] : List Eng.Kind).getD i .plain) 3 0 19 s6 rfl (by kernel_rfl) (Eng.still_stable _) (Or.inr (Eng.still_any _)) ?_ ?_
      · refine Eng.Steps.cons (fun _ => ?_) (Eng.Steps.cons (fun _ => ?_) (Eng.Steps.cons (fun _ => ?_) (Eng.Steps.nil)))
        · refine Eng.plain rfl rfl fun a w' H => ?_
          exact Eng.val (w1 := w') (v := .int .i64 (k : Nat)) (Eng.run_move rfl ((H.kept 5 (by kernel_rfl)).trans h5_6)) (Below.refl _ _) rfl
        · refine Eng.plain rfl rfl fun a w' H => ?_
          refine Eng.val (w1 := w') (v := .int .i64 (IntKind.i64.wrap ((k : Nat) + 1))) ?_ (Below.refl _ _) rfl
          have e0 : a.eval (.tmp 10) = .int .i64 (k : Nat) := (H.dep 0 10 (by kernel_rfl) rfl)
          have e1 : a.eval (.const (.int .i64 1)) = .int .i64 1 := (rfl : a.eval (.const (.int .i64 1)) = .int .i64 1)
          simp only [execOp, resolve, List.map_toArray, List.map_cons, List.map_nil, e0, e1]
          go_simp
          all_goals first | rfl | (simp; done) | (rw [Bool.eq_iff_iff]; simp; done) | omega | (split <;> first | (simp_all; done) | (split <;> simp_all; done)) | skip
        · refine Eng.plain rfl rfl fun a w' H => ?_
          exact Eng.val (w1 := w') (v := .int .i64 (IntKind.i64.wrap ((k : Nat) + 1))) (Eng.run_assign rfl (H.dep 1 11 (by kernel_rfl) rfl)) (Below.refl _ _) rfl
      intro act10 w10 T
      have h0_10 : act10.eval (.tmp 0) = v := (T.rest 0 (by kernel_rfl)).trans h0_6
      have h1_10 : act10.eval (.tmp 1) = .string s := (T.rest 1 (by kernel_rfl)).trans h1_6
      have h9_10 : act10.eval (.tmp 9) = .bool q9 := (T.rest 9 (by kernel_rfl)).trans h9_6
      have h17_10 : act10.eval (.tmp 17) = .bool q17 := (T.rest 17 (by kernel_rfl)).trans h17_6
      have Fin_10 := Eng.Reads.below Fin_6 T.below
      have h5_10 : act10.eval (.tmp 5) = .int .i64 (IntKind.i64.wrap ((k : Nat) + 1)) := T.done 2 5 rfl rfl
      have d10 := T.defers.trans d6
      have s10 := T.size.trans s6
      have bl10 := bl6.trans (T.below.mono bl6.size)
      clear T
      refine Eng.tail_nil ?_
      exact ⟨_, by omega, k + 1, rfl, by omega, Lnm.none_succ hn1 hno, d10, s10, bl10, h0_10, h1_10, (h5_10.trans (by first | rfl | (congr 1; rw [Eng.i64_id (by omega) (by omega)]; omega) | (simp; done)))⟩
  ·
    have kn11 := hq
    have c9 := Bq9.symm.trans hq
    clear hq
    have c9 := of_decide_eq_false c9
    refine wp_exit ?_
    first | show Code.wp Tryd.prog _ _ _ _ | skip
    first | show Code.wp Tryd.prog _ _ _ _ | skip
    refine wp_seq ?_
    refine Eng.regionS (Eng.still [fun u_ => u_ = .int .i64 (-1)]) (fun i => ([.plain] : List Eng.Kind).getD i .plain) 1 0 19 s4 rfl (by kernel_rfl) (Eng.still_stable _) (Or.inr (Eng.still_any _)) ?_ ?_
    · refine Eng.Steps.cons (fun _ => ?_) (Eng.Steps.nil)
      · refine Eng.plain rfl rfl fun a w' H => ?_
        exact Eng.val (w1 := w') (v := .int .i64 (-1)) (Eng.run_assign rfl (rfl : a.eval (.const (.int .i64 (-1))) = .int .i64 (-1))) (Below.refl _ _) rfl
    intro act12 w12 T
    have h0_12 : act12.eval (.tmp 0) = v := (T.rest 0 (by kernel_rfl)).trans h0_4
    have h1_12 : act12.eval (.tmp 1) = .string s := (T.rest 1 (by kernel_rfl)).trans h1_4
    have h5_12 : act12.eval (.tmp 5) = .int .i64 (k : Nat) := (T.rest 5 (by kernel_rfl)).trans h5_4
    have h9_12 : act12.eval (.tmp 9) = .bool q9 := (T.rest 9 (by kernel_rfl)).trans h9_4
    have Fin_12 := Eng.Reads.below Fin_4 T.below
    have h4_12 : act12.eval (.tmp 4) = .int .i64 (-1) := T.done 0 4 rfl rfl
    have d12 := T.defers.trans d4
    have s12 := T.size.trans s4
    have bl12 := bl4.trans (T.below.mono bl4.size)
    clear T
    refine Eng.tail_nil ?_
    first | show Code.wp Tryd.prog _ _ _ _ | skip
    refine wp_ret ?_
    repeat (first | refine Eng.in_ret ?_ | refine Eng.then_ret ?_)
    exact Eng.ret1 rfl d12 h4_12 ⟨congrArg _ (congrArg _ (by first | exact (Lnm.place_hit hk0 hhit hn1).symm | exact (Lnm.place_miss (fun i hi => hn1 i (by omega))).symm)), bl12⟩
end Go.Proofs.YthgafcaoibfchaaDoor.X
