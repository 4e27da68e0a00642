/- Words and walks that the row of LatticeNamesUpto needs: printed by programs, and plain laws. -/
import Derived.Test.YthgafcaoibfchaaDoorM10
import Derived.Test.YthgafcaoibfchaaDoorM6
namespace Go.Proofs.YthgafcaoibfchaaDoor.X
open Go.RowKit Go.Shelf Go.Proofs Go.Proofs.YthgafcaoibfchaaDoorW.PrintWords Go.Proofs.YthgafcaoibfchaaDoorW.PrintLast Go.Proofs.YthgafcaoibfchaaDoorW.PrintMore
set_option linter.unusedVariables false
set_option linter.unusedSimpArgs false
attribute [local go_sem] max2_int min2_int max_two min_two
set_option maxHeartbeats 4000000 in
set_option maxRecDepth 100000 in
theorem Lnm.name_calls (s : ByteArray) (w : World) : Calls Tryd.prog 105 #[.string s] w fun e w' => e = .returned (.bool (lexname.g s)) ∧ Below w.heap.size w w' := by
  refine Eng.enter Tryd.func105 rfl fun act0 d0 s0 v0 => ?_
  have s0 : act0.tmps.size = 52 := s0
  have h0_0 : act0.eval (.tmp 0) = .string s := v0 0 (by simp)
  clear v0
  have bl0 : Below w.heap.size w w := Below.refl _ _
  refine wp_seq ?_
  refine Eng.regionS (Eng.still [fun u_ => u_ = .bool false]) (fun i => ([.plain] : List Eng.Kind).getD i .plain) 1 0 52 s0 rfl (by kernel_rfl) (Eng.still_stable _) (Or.inr (Eng.still_any _)) ?_ ?_
  · refine Eng.Steps.cons (fun _ => ?_) (Eng.Steps.nil)
    · refine Eng.plain rfl rfl fun a w' H => ?_
      exact Eng.val (w1 := w') (v := .bool false) (Eng.run_assign rfl (rfl : a.eval (.const (.bool false)) = .bool false)) (Below.refl _ _) rfl
  intro act1 w1 T
  have h0_1 : act1.eval (.tmp 0) = .string s := (T.rest 0 (by kernel_rfl)).trans h0_0
  have h2_1 : act1.eval (.tmp 2) = .bool false := T.done 0 2 rfl rfl
  have d1 := T.defers.trans d0
  have s1 := T.size.trans s0
  have bl1 := bl0.trans (T.below.mono bl0.size)
  clear T
  refine Eng.tail_nil ?_
  first | show Code.wp Tryd.prog _ _ _ _ | skip
  refine wp_seq ?_
  refine wp_seq ?_
  obtain ⟨q7, Bq7⟩ : ∃ b : Bool, b = (decide ((s.size : Int) < 1)) := ⟨_, rfl⟩
  obtain ⟨q11, Bq11⟩ : ∃ b : Bool, b = (decide ((s.size : Int) > 40)) := ⟨_, rfl⟩
  obtain ⟨q12, Bq12⟩ : ∃ b : Bool, b = (q7 || q11) := ⟨_, rfl⟩
  refine Eng.regionS (Eng.still [fun u_ => u_ = .string s, fun u_ => u_ = .int .i64 (s.size : Int), fun u_ => u_ = .bool q7, fun u_ => u_ = .bool q7, fun u_ => u_ = bif (q7 == false) then (.string s) else undef, fun u_ => u_ = bif (q7 == false) then (.int .i64 (s.size : Int)) else undef, fun u_ => u_ = bif (q7 == false) then (.bool q11) else undef, fun u_ => u_ = .bool q12]) (fun i => ([.plain, .plain, .plain, .plain, .plain, .plain, .plain, .plain] : List Eng.Kind).getD i .plain) 8 0 52 s1 rfl (by kernel_rfl) (Eng.still_stable _) (Or.inr (Eng.still_any _)) ?_ ?_
  · refine Eng.Steps.cons (fun _ => ?_) (Eng.Steps.cons (fun _ => ?_) (Eng.Steps.cons (fun _ => ?_) (Eng.Steps.cons (fun _ => ?_) (Eng.Steps.cons (fun _ => ?_) (Eng.Steps.cons (fun _ => ?_) (Eng.Steps.cons (fun _ => ?_) (Eng.Steps.cons (fun _ => ?_) (Eng.Steps.nil))))))))
    · refine Eng.plain rfl rfl fun a w' H => ?_
      exact Eng.val (w1 := w') (v := .string s) (Eng.run_move rfl ((H.kept 0 (by kernel_rfl)).trans h0_1)) (Below.refl _ _) rfl
    · refine Eng.plain rfl rfl fun a w' H => ?_
      refine Eng.val (w1 := w') (v := .int .i64 (s.size : Int)) ?_ (Below.refl _ _) rfl
      have e0 : a.eval (.tmp 5) = .string s := (H.dep 0 5 (by kernel_rfl) rfl)
      simp only [execOp, resolve, List.map_toArray, List.map_cons, List.map_nil, e0]
      go_simp
      all_goals first | rfl | (simp; done) | (rw [Bool.eq_iff_iff]; simp; done) | omega | (split <;> first | (simp_all; done) | (split <;> simp_all; done)) | skip
    · refine Eng.plain rfl rfl fun a w' H => ?_
      refine Eng.val (w1 := w') (v := .bool (decide ((s.size : Int) < 1))) ?_ (Below.refl _ _) (by show _ = Value.bool q7; rw [Bq7])
      have e0 : a.eval (.tmp 6) = .int .i64 (s.size : Int) := (H.dep 1 6 (by kernel_rfl) rfl)
      have e1 : a.eval (.const (.int .i64 1)) = .int .i64 1 := (rfl : a.eval (.const (.int .i64 1)) = .int .i64 1)
      simp only [execOp, resolve, List.map_toArray, List.map_cons, List.map_nil, e0, e1]
      go_simp
      all_goals first | rfl | (simp; done) | (rw [Bool.eq_iff_iff]; simp; done) | omega | (split <;> first | (simp_all; done) | (split <;> simp_all; done)) | skip
    · refine Eng.plain rfl rfl fun a w' H => ?_
      exact Eng.val (w1 := w') (v := .bool q7) (Eng.run_move rfl (H.dep 2 7 (by kernel_rfl) rfl)) (Below.refl _ _) rfl
    · refine Eng.guarded1 (j := 3) (d := 8) (b := q7) rfl rfl (by kernel_rfl) rfl (fun v w h => h) (fun hG w => Eng.off hG) fun hG a w' H => ?_
      exact Eng.val (w1 := w') (v := .string s) (Eng.run_move rfl ((H.kept 0 (by kernel_rfl)).trans h0_1)) (Below.refl _ _) (Eng.off' hG rfl)
    · refine Eng.guarded1 (j := 3) (d := 8) (b := q7) rfl rfl (by kernel_rfl) rfl (fun v w h => h) (fun hG w => Eng.off hG) fun hG a w' H => ?_
      refine Eng.val (w1 := w') (v := .int .i64 (s.size : Int)) ?_ (Below.refl _ _) (Eng.off' hG rfl)
      have e0 : a.eval (.tmp 9) = .string s := (Eng.on (H.dep 4 9 (by kernel_rfl) rfl) hG)
      simp only [execOp, resolve, List.map_toArray, List.map_cons, List.map_nil, e0]
      go_simp
      all_goals first | rfl | (simp; done) | (rw [Bool.eq_iff_iff]; simp; done) | omega | (split <;> first | (simp_all; done) | (split <;> simp_all; done)) | skip
    · refine Eng.guarded1 (j := 3) (d := 8) (b := q7) rfl rfl (by kernel_rfl) rfl (fun v w h => h) (fun hG w => Eng.off hG) fun hG a w' H => ?_
      refine Eng.val (w1 := w') (v := .bool (decide ((s.size : Int) > 40))) ?_ (Below.refl _ _) (Eng.off' hG (by rw [Bq11]))
      have e0 : a.eval (.tmp 10) = .int .i64 (s.size : Int) := (Eng.on (H.dep 5 10 (by kernel_rfl) rfl) hG)
      have e1 : a.eval (.const (.int .i64 40)) = .int .i64 40 := (rfl : a.eval (.const (.int .i64 40)) = .int .i64 40)
      simp only [execOp, resolve, List.map_toArray, List.map_cons, List.map_nil, e0, e1]
      go_simp
      all_goals first | rfl | (simp; done) | (rw [Bool.eq_iff_iff]; simp; done) | omega | (split <;> first | (simp_all; done) | (split <;> simp_all; done)) | skip
    · refine Eng.plain rfl rfl fun a w' H => ?_
      exact Eng.val (w1 := w') (v := .bool (q7 || q11)) (Eng.run_or rfl rfl (G := true) (H.dep 3 8 (by kernel_rfl) rfl) (fun hb => (Eng.on (H.dep 6 11 (by kernel_rfl) rfl) (Eng.mk1 hb)))) (Below.refl _ _) (by show _ = Value.bool q12; rw [Bq12])
  intro act2 w2 T
  have h0_2 : act2.eval (.tmp 0) = .string s := (T.rest 0 (by kernel_rfl)).trans h0_1
  have h2_2 : act2.eval (.tmp 2) = .bool false := (T.rest 2 (by kernel_rfl)).trans h2_1
  have h12_2 : act2.eval (.tmp 12) = .bool q12 := T.done 7 12 rfl rfl
  have d2 := T.defers.trans d1
  have s2 := T.size.trans s1
  have bl2 := bl1.trans (T.below.mono bl1.size)
  clear T
  refine Eng.tail_nil ?_
  first | show Code.wp Tryd.prog _ _ _ _ | skip
  refine wp_cond_split h12_2 (fun hq => ?_) (fun hq => ?_)
  ·
    have kn3 := hq
    have c12 := Bq12.symm.trans hq
    clear hq
    rw [Bq11, Bq7] at c12
    simp only [Bool.or_eq_true, decide_eq_true_eq] at c12
    refine wp_seq ?_
    refine Eng.regionS (Eng.still [fun u_ => u_ = .bool false]) (fun i => ([.plain] : List Eng.Kind).getD i .plain) 1 0 52 s2 rfl (by kernel_rfl) (Eng.still_stable _) (Or.inr (Eng.still_any _)) ?_ ?_
    · refine Eng.Steps.cons (fun _ => ?_) (Eng.Steps.nil)
      · refine Eng.plain rfl rfl fun a w' H => ?_
        exact Eng.val (w1 := w') (v := .bool false) (Eng.run_assign rfl (rfl : a.eval (.const (.bool false)) = .bool false)) (Below.refl _ _) rfl
    intro act4 w4 T
    have h0_4 : act4.eval (.tmp 0) = .string s := (T.rest 0 (by kernel_rfl)).trans h0_2
    have h12_4 : act4.eval (.tmp 12) = .bool q12 := (T.rest 12 (by kernel_rfl)).trans h12_2
    have h2_4 : act4.eval (.tmp 2) = .bool false := T.done 0 2 rfl rfl
    have d4 := T.defers.trans d2
    have s4 := T.size.trans s2
    have bl4 := bl2.trans (T.below.mono bl2.size)
    clear T
    refine Eng.tail_nil ?_
    first | show Code.wp Tryd.prog _ _ _ _ | skip
    refine wp_ret ?_
    repeat (first | refine Eng.in_ret ?_ | refine Eng.then_ret ?_)
    exact Eng.ret1 rfl d4 h2_4 ⟨congrArg _ (congrArg _ (Lnm.name_len (by omega)).symm), bl4⟩
  ·
    have kn5 := hq
    have c12 := Bq12.symm.trans hq
    clear hq
    rw [Bq11, Bq7] at c12
    simp only [Bool.or_eq_false_iff, decide_eq_false_iff_not] at c12
    refine wp_skip ?_
    first | show Code.wp Tryd.prog _ _ _ _ | skip
    refine wp_seq ?_
    refine wp_seq ?_
    refine Eng.regionS (Eng.still [fun u_ => u_ = .int .i64 0]) (fun i => ([.plain] : List Eng.Kind).getD i .plain) 1 0 52 s2 rfl (by kernel_rfl) (Eng.still_stable _) (Or.inr (Eng.still_any _)) ?_ ?_
    · refine Eng.Steps.cons (fun _ => ?_) (Eng.Steps.nil)
      · refine Eng.plain rfl rfl fun a w' H => ?_
        exact Eng.val (w1 := w') (v := .int .i64 0) (Eng.run_assign rfl (rfl : a.eval (.const (.int .i64 0)) = .int .i64 0)) (Below.refl _ _) rfl
    intro act6 w6 T
    have h0_6 : act6.eval (.tmp 0) = .string s := (T.rest 0 (by kernel_rfl)).trans h0_2
    have h2_6 : act6.eval (.tmp 2) = .bool false := (T.rest 2 (by kernel_rfl)).trans h2_2
    have h12_6 : act6.eval (.tmp 12) = .bool q12 := (T.rest 12 (by kernel_rfl)).trans h12_2
    have h3_6 : act6.eval (.tmp 3) = .int .i64 0 := T.done 0 3 rfl rfl
    have d6 := T.defers.trans d2
    have s6 := T.size.trans s2
    have bl6 := bl2.trans (T.below.mono bl2.size)
    clear T
    refine Eng.tail_nil ?_
    first | show Code.wp Tryd.prog _ _ _ _ | skip
    refine wp_block ?_
    refine Eng.loopN (fun n a w' => ∃ (k : Nat), s.size - k = n ∧ (k ≤ s.size) ∧ (∀ i, i < k → Nam.namedN (Lnm.byteAt s i) = true) ∧ a.defers = [] ∧ a.tmps.size = 52 ∧ Below w.heap.size w w' ∧ a.eval (.tmp 0) = .string s ∧ a.eval (.tmp 3) = .int .i64 (k : Nat) ∧ a.eval (.tmp 12) = .bool q12) (n0 := s.size - 0) ?_ ?_
    · exact ⟨0, rfl, by omega, fun i hi => absurd hi (by omega), d6, s6, bl6, h0_6, (h3_6.trans (by first | rfl | (congr 1; rw [Eng.i64_id (by omega) (by omega)]; omega) | (simp; done))), h12_6⟩
    rintro n act7 w7 ⟨k, rfl, hc0_7, hc1_7, d7, s7, bl7, h0_7, h3_7, h12_7⟩
    have hk1 := hc0_7
    have hn1 := hc1_7
    refine wp_seq ?_
    refine wp_seq ?_
    obtain ⟨q16, Bq16⟩ : ∃ b : Bool, b = (decide ((k : Nat) < (s.size : Int))) := ⟨_, rfl⟩
    refine Eng.regionS (Eng.still [fun u_ => u_ = .int .i64 (k : Nat), fun u_ => u_ = .string s, fun u_ => u_ = .int .i64 (s.size : Int), fun u_ => u_ = .bool q16]) (fun i => ([.plain, .plain, .plain, .plain] : List Eng.Kind).getD i .plain) 4 0 52 s7 rfl (by kernel_rfl) (Eng.still_stable _) (Or.inr (Eng.still_any _)) ?_ ?_
    · refine Eng.Steps.cons (fun _ => ?_) (Eng.Steps.cons (fun _ => ?_) (Eng.Steps.cons (fun _ => ?_) (Eng.Steps.cons (fun _ => ?_) (Eng.Steps.nil))))
      · refine Eng.plain rfl rfl fun a w' H => ?_
        exact Eng.val (w1 := w') (v := .int .i64 (k : Nat)) (Eng.run_move rfl ((H.kept 3 (by kernel_rfl)).trans h3_7)) (Below.refl _ _) rfl
      · refine Eng.plain rfl rfl fun a w' H => ?_
        exact Eng.val (w1 := w') (v := .string s) (Eng.run_move rfl ((H.kept 0 (by kernel_rfl)).trans h0_7)) (Below.refl _ _) rfl
      · refine Eng.plain rfl rfl fun a w' H => ?_
        refine Eng.val (w1 := w') (v := .int .i64 (s.size : Int)) ?_ (Below.refl _ _) rfl
        have e0 : a.eval (.tmp 14) = .string s := (H.dep 1 14 (by kernel_rfl) rfl)
        simp only [execOp, resolve, List.map_toArray, List.map_cons, List.map_nil, e0]
        go_simp
        all_goals first | rfl | (simp; done) | (rw [Bool.eq_iff_iff]; simp; done) | omega | (split <;> first | (simp_all; done) | (split <;> simp_all; done)) | skip
      · refine Eng.plain rfl rfl fun a w' H => ?_
        refine Eng.val (w1 := w') (v := .bool (decide ((k : Nat) < (s.size : Int)))) ?_ (Below.refl _ _) (by show _ = Value.bool q16; rw [Bq16])
        have e0 : a.eval (.tmp 13) = .int .i64 (k : Nat) := (H.dep 0 13 (by kernel_rfl) rfl)
        have e1 : a.eval (.tmp 15) = .int .i64 (s.size : Int) := (H.dep 2 15 (by kernel_rfl) rfl)
        simp only [execOp, resolve, List.map_toArray, List.map_cons, List.map_nil, e0, e1]
        go_simp
        all_goals first | rfl | (simp; done) | (rw [Bool.eq_iff_iff]; simp; done) | omega | (split <;> first | (simp_all; done) | (split <;> simp_all; done)) | skip
    intro act8 w8 T
    have h0_8 : act8.eval (.tmp 0) = .string s := (T.rest 0 (by kernel_rfl)).trans h0_7
    have h3_8 : act8.eval (.tmp 3) = .int .i64 (k : Nat) := (T.rest 3 (by kernel_rfl)).trans h3_7
    have h12_8 : act8.eval (.tmp 12) = .bool q12 := (T.rest 12 (by kernel_rfl)).trans h12_7
    have h16_8 : act8.eval (.tmp 16) = .bool q16 := T.done 3 16 rfl rfl
    have d8 := T.defers.trans d7
    have s8 := T.size.trans s7
    have bl8 := bl7.trans (T.below.mono bl7.size)
    clear T
    refine Eng.tail_nil ?_
    first | show Code.wp Tryd.prog _ _ _ _ | skip
    refine wp_cond_split h16_8 (fun hq => ?_) (fun hq => ?_)
    ·
      have kn9 := hq
      have c16 := Bq16.symm.trans hq
      clear hq
      have c16 := of_decide_eq_true c16
      refine wp_skip ?_
      first | show Code.wp Tryd.prog _ _ _ _ | skip
      refine wp_seq ?_
      refine wp_block ?_
      refine wp_seq ?_
      refine Eng.regionS (Eng.still [fun u_ => u_ = .string s, fun u_ => u_ = .int .i64 (k : Nat), fun u_ => u_ = .int .u8 ((Lnm.byteAt s k : Nat) : Int), fun u_ => u_ = .int .u8 ((Lnm.byteAt s k : Nat) : Int)]) (fun i => ([.plain, .plain, .plain, .plain] : List Eng.Kind).getD i .plain) 4 0 52 s8 rfl (by kernel_rfl) (Eng.still_stable _) (Or.inr (Eng.still_any _)) ?_ ?_
      · refine Eng.Steps.cons (fun _ => ?_) (Eng.Steps.cons (fun _ => ?_) (Eng.Steps.cons (fun _ => ?_) (Eng.Steps.cons (fun _ => ?_) (Eng.Steps.nil))))
        · refine Eng.plain rfl rfl fun a w' H => ?_
          exact Eng.val (w1 := w') (v := .string s) (Eng.run_move rfl ((H.kept 0 (by kernel_rfl)).trans h0_8)) (Below.refl _ _) rfl
        · refine Eng.plain rfl rfl fun a w' H => ?_
          exact Eng.val (w1 := w') (v := .int .i64 (k : Nat)) (Eng.run_move rfl ((H.kept 3 (by kernel_rfl)).trans h3_8)) (Below.refl _ _) rfl
        · refine Eng.plain rfl rfl fun a w' H => ?_
          refine Eng.val (w1 := w') (v := .int .u8 ((Lnm.byteAt s k : Nat) : Int)) ?_ (Below.refl _ _) rfl
          exact Lnm.run_index_str rfl (show a.eval (.tmp 19) = .string s from (H.dep 0 19 (by kernel_rfl) rfl)) ((H.dep 1 20 (by kernel_rfl) rfl).trans (congrArg (Value.int _) (show (k : Nat) = ((k : Nat) : Int) from by first | rfl | omega))) (by first | rfl | omega)
        · refine Eng.plain rfl rfl fun a w' H => ?_
          exact Eng.val (w1 := w') (v := .int .u8 ((Lnm.byteAt s k : Nat) : Int)) (Eng.run_assign rfl (H.dep 2 21 (by kernel_rfl) rfl)) (Below.refl _ _) rfl
      intro act10 w10 T
      have h0_10 : act10.eval (.tmp 0) = .string s := (T.rest 0 (by kernel_rfl)).trans h0_8
      have h3_10 : act10.eval (.tmp 3) = .int .i64 (k : Nat) := (T.rest 3 (by kernel_rfl)).trans h3_8
      have h12_10 : act10.eval (.tmp 12) = .bool q12 := (T.rest 12 (by kernel_rfl)).trans h12_8
      have h16_10 : act10.eval (.tmp 16) = .bool q16 := (T.rest 16 (by kernel_rfl)).trans h16_8
      have h4_10 : act10.eval (.tmp 4) = .int .u8 ((Lnm.byteAt s k : Nat) : Int) := T.done 3 4 rfl rfl
      have d10 := T.defers.trans d8
      have s10 := T.size.trans s8
      have bl10 := bl8.trans (T.below.mono bl8.size)
      clear T
      refine Eng.tail_nil ?_
      first | show Code.wp Tryd.prog _ _ _ _ | skip
      refine wp_seq ?_
      obtain ⟨q23, Bq23⟩ : ∃ b : Bool, b = (decide (((Lnm.byteAt s k : Nat) : Int) < 97)) := ⟨_, rfl⟩
      obtain ⟨q26, Bq26⟩ : ∃ b : Bool, b = (decide (((Lnm.byteAt s k : Nat) : Int) > 122)) := ⟨_, rfl⟩
      obtain ⟨q27, Bq27⟩ : ∃ b : Bool, b = (q23 || q26) := ⟨_, rfl⟩
      obtain ⟨q30, Bq30⟩ : ∃ b : Bool, b = (decide (((Lnm.byteAt s k : Nat) : Int) < 65)) := ⟨_, rfl⟩
      obtain ⟨q33, Bq33⟩ : ∃ b : Bool, b = (decide (((Lnm.byteAt s k : Nat) : Int) > 90)) := ⟨_, rfl⟩
      obtain ⟨q34, Bq34⟩ : ∃ b : Bool, b = (q30 || q33) := ⟨_, rfl⟩
      obtain ⟨q35, Bq35⟩ : ∃ b : Bool, b = (q27 && q34) := ⟨_, rfl⟩
      obtain ⟨q38, Bq38⟩ : ∃ b : Bool, b = (decide (((Lnm.byteAt s k : Nat) : Int) < 48)) := ⟨_, rfl⟩
      obtain ⟨q41, Bq41⟩ : ∃ b : Bool, b = (decide (((Lnm.byteAt s k : Nat) : Int) > 57)) := ⟨_, rfl⟩
      obtain ⟨q42, Bq42⟩ : ∃ b : Bool, b = (q38 || q41) := ⟨_, rfl⟩
      obtain ⟨q43, Bq43⟩ : ∃ b : Bool, b = (q35 && q42) := ⟨_, rfl⟩
      obtain ⟨q46, Bq46⟩ : ∃ b : Bool, b = (!(((Lnm.byteAt s k : Nat) : Int) == 45)) := ⟨_, rfl⟩
      obtain ⟨q47, Bq47⟩ : ∃ b : Bool, b = (q43 && q46) := ⟨_, rfl⟩
      obtain ⟨q50, Bq50⟩ : ∃ b : Bool, b = (!(((Lnm.byteAt s k : Nat) : Int) == 95)) := ⟨_, rfl⟩
      obtain ⟨q51, Bq51⟩ : ∃ b : Bool, b = (q47 && q50) := ⟨_, rfl⟩
      refine Eng.regionS (Eng.still [fun u_ => u_ = .int .u8 ((Lnm.byteAt s k : Nat) : Int), fun u_ => u_ = .bool q23, fun u_ => u_ = .bool q23, fun u_ => u_ = bif (q23 == false) then (.int .u8 ((Lnm.byteAt s k : Nat) : Int)) else undef, fun u_ => u_ = bif (q23 == false) then (.bool q26) else undef, fun u_ => u_ = .bool q27, fun u_ => u_ = .bool q27, fun u_ => u_ = bif (q27 == true) then (.int .u8 ((Lnm.byteAt s k : Nat) : Int)) else undef, fun u_ => u_ = bif (q27 == true) then (.bool q30) else undef, fun u_ => u_ = bif (q27 == true) then (.bool q30) else undef, fun u_ => u_ = bif ((q27 == true) && (q30 == false)) then (.int .u8 ((Lnm.byteAt s k : Nat) : Int)) else undef, fun u_ => u_ = bif ((q27 == true) && (q30 == false)) then (.bool q33) else undef, fun u_ => u_ = bif (q27 == true) then (.bool q34) else undef, fun u_ => u_ = .bool q35, fun u_ => u_ = .bool q35, fun u_ => u_ = bif (q35 == true) then (.int .u8 ((Lnm.byteAt s k : Nat) : Int)) else undef, fun u_ => u_ = bif (q35 == true) then (.bool q38) else undef, fun u_ => u_ = bif (q35 == true) then (.bool q38) else undef, fun u_ => u_ = bif ((q35 == true) && (q38 == false)) then (.int .u8 ((Lnm.byteAt s k : Nat) : Int)) else undef, fun u_ => u_ = bif ((q35 == true) && (q38 == false)) then (.bool q41) else undef, fun u_ => u_ = bif (q35 == true) then (.bool q42) else undef, fun u_ => u_ = .bool q43, fun u_ => u_ = .bool q43, fun u_ => u_ = bif (q43 == true) then (.int .u8 ((Lnm.byteAt s k : Nat) : Int)) else undef, fun u_ => u_ = bif (q43 == true) then (.bool q46) else undef, fun u_ => u_ = .bool q47, fun u_ => u_ = .bool q47, fun u_ => u_ = bif (q47 == true) then (.int .u8 ((Lnm.byteAt s k : Nat) : Int)) else undef, fun u_ => u_ = bif (q47 == true) then (.bool q50) else undef, fun u_ => u_ = .bool q51]) (fun i => ([.plain, .plain, .plain, .plain, .plain, .plain, .plain, .plain, .plain, .plain, .plain, .plain, .plain, .plain, .plain, .plain, .plain, .plain, .plain, .plain, .plain, .plain, .plain, .plain, .plain, .plain, .plain, .plain, .plain, .plain] : List Eng.Kind).getD i .plain) 30 0 52 s10 rfl (by kernel_rfl) (Eng.still_stable _) (Or.inr (Eng.still_any _)) ?_ ?_
      · refine Eng.Steps.cons (fun _ => ?_) (Eng.Steps.cons (fun _ => ?_) (Eng.Steps.cons (fun _ => ?_) (Eng.Steps.cons (fun _ => ?_) (Eng.Steps.cons (fun _ => ?_) (Eng.Steps.cons (fun _ => ?_) (Eng.Steps.cons (fun _ => ?_) (Eng.Steps.cons (fun _ => ?_) (Eng.Steps.cons (fun _ => ?_) (Eng.Steps.cons (fun _ => ?_) (Eng.Steps.cons (fun _ => ?_) (Eng.Steps.cons (fun _ => ?_) (Eng.Steps.cons (fun _ => ?_) (Eng.Steps.cons (fun _ => ?_) (Eng.Steps.cons (fun _ => ?_) (Eng.Steps.cons (fun _ => ?_) (Eng.Steps.cons (fun _ => ?_) (Eng.Steps.cons (fun _ => ?_) (Eng.Steps.cons (fun _ => ?_) (Eng.Steps.cons (fun _ => ?_) (Eng.Steps.cons (fun _ => ?_) (Eng.Steps.cons (fun _ => ?_) (Eng.Steps.cons (fun _ => ?_) (Eng.Steps.cons (fun _ => ?_) (Eng.Steps.cons (fun _ => ?_) (Eng.Steps.cons (fun _ => ?_) (Eng.Steps.cons (fun _ => ?_) (Eng.Steps.cons (fun _ => ?_) (Eng.Steps.cons (fun _ => ?_) (Eng.Steps.cons (fun _ => ?_) (Eng.Steps.nil))))))))))))))))))))))))))))))
        · refine Eng.plain rfl rfl fun a w' H => ?_
          exact Eng.val (w1 := w') (v := .int .u8 ((Lnm.byteAt s k : Nat) : Int)) (Eng.run_move rfl ((H.kept 4 (by kernel_rfl)).trans h4_10)) (Below.refl _ _) rfl
        · refine Eng.plain rfl rfl fun a w' H => ?_
          refine Eng.val (w1 := w') (v := .bool (decide (((Lnm.byteAt s k : Nat) : Int) < 97))) ?_ (Below.refl _ _) (by show _ = Value.bool q23; rw [Bq23])
          have e0 : a.eval (.tmp 22) = .int .u8 ((Lnm.byteAt s k : Nat) : Int) := (H.dep 0 22 (by kernel_rfl) rfl)
          have e1 : a.eval (.const (.int .u8 97)) = .int .u8 97 := (rfl : a.eval (.const (.int .u8 97)) = .int .u8 97)
          simp only [execOp, resolve, List.map_toArray, List.map_cons, List.map_nil, e0, e1]
          go_simp
          all_goals first | rfl | (simp; done) | (rw [Bool.eq_iff_iff]; simp; done) | omega | (split <;> first | (simp_all; done) | (split <;> simp_all; done)) | skip
        · refine Eng.plain rfl rfl fun a w' H => ?_
          exact Eng.val (w1 := w') (v := .bool q23) (Eng.run_move rfl (H.dep 1 23 (by kernel_rfl) rfl)) (Below.refl _ _) rfl
        · refine Eng.guarded1 (j := 2) (d := 24) (b := q23) rfl rfl (by kernel_rfl) rfl (fun v w h => h) (fun hG w => Eng.off hG) fun hG a w' H => ?_
          exact Eng.val (w1 := w') (v := .int .u8 ((Lnm.byteAt s k : Nat) : Int)) (Eng.run_move rfl ((H.kept 4 (by kernel_rfl)).trans h4_10)) (Below.refl _ _) (Eng.off' hG rfl)
        · refine Eng.guarded1 (j := 2) (d := 24) (b := q23) rfl rfl (by kernel_rfl) rfl (fun v w h => h) (fun hG w => Eng.off hG) fun hG a w' H => ?_
          refine Eng.val (w1 := w') (v := .bool (decide (((Lnm.byteAt s k : Nat) : Int) > 122))) ?_ (Below.refl _ _) (Eng.off' hG (by rw [Bq26]))
          have e0 : a.eval (.tmp 25) = .int .u8 ((Lnm.byteAt s k : Nat) : Int) := (Eng.on (H.dep 3 25 (by kernel_rfl) rfl) hG)
          have e1 : a.eval (.const (.int .u8 122)) = .int .u8 122 := (rfl : a.eval (.const (.int .u8 122)) = .int .u8 122)
          simp only [execOp, resolve, List.map_toArray, List.map_cons, List.map_nil, e0, e1]
          go_simp
          all_goals first | rfl | (simp; done) | (rw [Bool.eq_iff_iff]; simp; done) | omega | (split <;> first | (simp_all; done) | (split <;> simp_all; done)) | skip
        · refine Eng.plain rfl rfl fun a w' H => ?_
          exact Eng.val (w1 := w') (v := .bool (q23 || q26)) (Eng.run_or rfl rfl (G := true) (H.dep 2 24 (by kernel_rfl) rfl) (fun hb => (Eng.on (H.dep 4 26 (by kernel_rfl) rfl) (Eng.mk1 hb)))) (Below.refl _ _) (by show _ = Value.bool q27; rw [Bq27])
        · refine Eng.plain rfl rfl fun a w' H => ?_
          exact Eng.val (w1 := w') (v := .bool q27) (Eng.run_move rfl (H.dep 5 27 (by kernel_rfl) rfl)) (Below.refl _ _) rfl
        · refine Eng.guarded1 (j := 6) (d := 28) (b := q27) rfl rfl (by kernel_rfl) rfl (fun v w h => h) (fun hG w => Eng.off hG) fun hG a w' H => ?_
          exact Eng.val (w1 := w') (v := .int .u8 ((Lnm.byteAt s k : Nat) : Int)) (Eng.run_move rfl ((H.kept 4 (by kernel_rfl)).trans h4_10)) (Below.refl _ _) (Eng.off' hG rfl)
        · refine Eng.guarded1 (j := 6) (d := 28) (b := q27) rfl rfl (by kernel_rfl) rfl (fun v w h => h) (fun hG w => Eng.off hG) fun hG a w' H => ?_
          refine Eng.val (w1 := w') (v := .bool (decide (((Lnm.byteAt s k : Nat) : Int) < 65))) ?_ (Below.refl _ _) (Eng.off' hG (by rw [Bq30]))
          have e0 : a.eval (.tmp 29) = .int .u8 ((Lnm.byteAt s k : Nat) : Int) := (Eng.on (H.dep 7 29 (by kernel_rfl) rfl) hG)
          have e1 : a.eval (.const (.int .u8 65)) = .int .u8 65 := (rfl : a.eval (.const (.int .u8 65)) = .int .u8 65)
          simp only [execOp, resolve, List.map_toArray, List.map_cons, List.map_nil, e0, e1]
          go_simp
          all_goals first | rfl | (simp; done) | (rw [Bool.eq_iff_iff]; simp; done) | omega | (split <;> first | (simp_all; done) | (split <;> simp_all; done)) | skip
        · refine Eng.guarded1 (j := 6) (d := 28) (b := q27) rfl rfl (by kernel_rfl) rfl (fun v w h => h) (fun hG w => Eng.off hG) fun hG a w' H => ?_
          exact Eng.val (w1 := w') (v := .bool q30) (Eng.run_move rfl (Eng.on (H.dep 8 30 (by kernel_rfl) rfl) hG)) (Below.refl _ _) (Eng.off' hG rfl)
        · refine Eng.guarded (j := 9) (d := 31) (b := q30) (G := (q27 == true)) rfl rfl (by kernel_rfl) rfl (fun v w h => h) (fun hG w => Eng.off hG) fun hG a w' H => ?_
          exact Eng.val (w1 := w') (v := .int .u8 ((Lnm.byteAt s k : Nat) : Int)) (Eng.run_move rfl ((H.kept 4 (by kernel_rfl)).trans h4_10)) (Below.refl _ _) (Eng.off' hG rfl)
        · refine Eng.guarded (j := 9) (d := 31) (b := q30) (G := (q27 == true)) rfl rfl (by kernel_rfl) rfl (fun v w h => h) (fun hG w => Eng.off hG) fun hG a w' H => ?_
          refine Eng.val (w1 := w') (v := .bool (decide (((Lnm.byteAt s k : Nat) : Int) > 90))) ?_ (Below.refl _ _) (Eng.off' hG (by rw [Bq33]))
          have e0 : a.eval (.tmp 32) = .int .u8 ((Lnm.byteAt s k : Nat) : Int) := (Eng.on (H.dep 10 32 (by kernel_rfl) rfl) hG)
          have e1 : a.eval (.const (.int .u8 90)) = .int .u8 90 := (rfl : a.eval (.const (.int .u8 90)) = .int .u8 90)
          simp only [execOp, resolve, List.map_toArray, List.map_cons, List.map_nil, e0, e1]
          go_simp
          all_goals first | rfl | (simp; done) | (rw [Bool.eq_iff_iff]; simp; done) | omega | (split <;> first | (simp_all; done) | (split <;> simp_all; done)) | skip
        · refine Eng.guarded1 (j := 6) (d := 28) (b := q27) rfl rfl (by kernel_rfl) rfl (fun v w h => h) (fun hG w => Eng.off hG) fun hG a w' H => ?_
          exact Eng.val (w1 := w') (v := .bool (q30 || q33)) (Eng.run_or rfl rfl (G := true) (Eng.on (H.dep 9 31 (by kernel_rfl) rfl) hG) (fun hb => (Eng.on (H.dep 11 33 (by kernel_rfl) rfl) (Eng.mk2 (Eng.mk1 (Eng.one2 hG)) hb)))) (Below.refl _ _) (Eng.off' hG (by rw [Bq34]))
        · refine Eng.plain rfl rfl fun a w' H => ?_
          exact Eng.val (w1 := w') (v := .bool (q27 && q34)) (Eng.run_and rfl rfl (G := true) (H.dep 6 28 (by kernel_rfl) rfl) (fun hb => (Eng.on (H.dep 12 34 (by kernel_rfl) rfl) (Eng.mk1 hb)))) (Below.refl _ _) (by show _ = Value.bool q35; rw [Bq35])
        · refine Eng.plain rfl rfl fun a w' H => ?_
          exact Eng.val (w1 := w') (v := .bool q35) (Eng.run_move rfl (H.dep 13 35 (by kernel_rfl) rfl)) (Below.refl _ _) rfl
        · refine Eng.guarded1 (j := 14) (d := 36) (b := q35) rfl rfl (by kernel_rfl) rfl (fun v w h => h) (fun hG w => Eng.off hG) fun hG a w' H => ?_
          exact Eng.val (w1 := w') (v := .int .u8 ((Lnm.byteAt s k : Nat) : Int)) (Eng.run_move rfl ((H.kept 4 (by kernel_rfl)).trans h4_10)) (Below.refl _ _) (Eng.off' hG rfl)
        · refine Eng.guarded1 (j := 14) (d := 36) (b := q35) rfl rfl (by kernel_rfl) rfl (fun v w h => h) (fun hG w => Eng.off hG) fun hG a w' H => ?_
          refine Eng.val (w1 := w') (v := .bool (decide (((Lnm.byteAt s k : Nat) : Int) < 48))) ?_ (Below.refl _ _) (Eng.off' hG (by rw [Bq38]))
          have e0 : a.eval (.tmp 37) = .int .u8 ((Lnm.byteAt s k : Nat) : Int) := (Eng.on (H.dep 15 37 (by kernel_rfl) rfl) hG)
          have e1 : a.eval (.const (.int .u8 48)) = .int .u8 48 := (rfl : a.eval (.const (.int .u8 48)) = .int .u8 48)
          simp only [execOp, resolve, List.map_toArray, List.map_cons, List.map_nil, e0, e1]
          go_simp
          all_goals first | rfl | (simp; done) | (rw [Bool.eq_iff_iff]; simp; done) | omega | (split <;> first | (simp_all; done) | (split <;> simp_all; done)) | skip
        · refine Eng.guarded1 (j := 14) (d := 36) (b := q35) rfl rfl (by kernel_rfl) rfl (fun v w h => h) (fun hG w => Eng.off hG) fun hG a w' H => ?_
          exact Eng.val (w1 := w') (v := .bool q38) (Eng.run_move rfl (Eng.on (H.dep 16 38 (by kernel_rfl) rfl) hG)) (Below.refl _ _) (Eng.off' hG rfl)
        · refine Eng.guarded (j := 17) (d := 39) (b := q38) (G := (q35 == true)) rfl rfl (by kernel_rfl) rfl (fun v w h => h) (fun hG w => Eng.off hG) fun hG a w' H => ?_
          exact Eng.val (w1 := w') (v := .int .u8 ((Lnm.byteAt s k : Nat) : Int)) (Eng.run_move rfl ((H.kept 4 (by kernel_rfl)).trans h4_10)) (Below.refl _ _) (Eng.off' hG rfl)
        · refine Eng.guarded (j := 17) (d := 39) (b := q38) (G := (q35 == true)) rfl rfl (by kernel_rfl) rfl (fun v w h => h) (fun hG w => Eng.off hG) fun hG a w' H => ?_
          refine Eng.val (w1 := w') (v := .bool (decide (((Lnm.byteAt s k : Nat) : Int) > 57))) ?_ (Below.refl _ _) (Eng.off' hG (by rw [Bq41]))
          have e0 : a.eval (.tmp 40) = .int .u8 ((Lnm.byteAt s k : Nat) : Int) := (Eng.on (H.dep 18 40 (by kernel_rfl) rfl) hG)
          have e1 : a.eval (.const (.int .u8 57)) = .int .u8 57 := (rfl : a.eval (.const (.int .u8 57)) = .int .u8 57)
          simp only [execOp, resolve, List.map_toArray, List.map_cons, List.map_nil, e0, e1]
          go_simp
          all_goals first | rfl | (simp; done) | (rw [Bool.eq_iff_iff]; simp; done) | omega | (split <;> first | (simp_all; done) | (split <;> simp_all; done)) | skip
        · refine Eng.guarded1 (j := 14) (d := 36) (b := q35) rfl rfl (by kernel_rfl) rfl (fun v w h => h) (fun hG w => Eng.off hG) fun hG a w' H => ?_
          exact Eng.val (w1 := w') (v := .bool (q38 || q41)) (Eng.run_or rfl rfl (G := true) (Eng.on (H.dep 17 39 (by kernel_rfl) rfl) hG) (fun hb => (Eng.on (H.dep 19 41 (by kernel_rfl) rfl) (Eng.mk2 (Eng.mk1 (Eng.one2 hG)) hb)))) (Below.refl _ _) (Eng.off' hG (by rw [Bq42]))
        · refine Eng.plain rfl rfl fun a w' H => ?_
          exact Eng.val (w1 := w') (v := .bool (q35 && q42)) (Eng.run_and rfl rfl (G := true) (H.dep 14 36 (by kernel_rfl) rfl) (fun hb => (Eng.on (H.dep 20 42 (by kernel_rfl) rfl) (Eng.mk1 hb)))) (Below.refl _ _) (by show _ = Value.bool q43; rw [Bq43])
        · refine Eng.plain rfl rfl fun a w' H => ?_
          exact Eng.val (w1 := w') (v := .bool q43) (Eng.run_move rfl (H.dep 21 43 (by kernel_rfl) rfl)) (Below.refl _ _) rfl
        · refine Eng.guarded1 (j := 22) (d := 44) (b := q43) rfl rfl (by kernel_rfl) rfl (fun v w h => h) (fun hG w => Eng.off hG) fun hG a w' H => ?_
          exact Eng.val (w1 := w') (v := .int .u8 ((Lnm.byteAt s k : Nat) : Int)) (Eng.run_move rfl ((H.kept 4 (by kernel_rfl)).trans h4_10)) (Below.refl _ _) (Eng.off' hG rfl)
        · refine Eng.guarded1 (j := 22) (d := 44) (b := q43) rfl rfl (by kernel_rfl) rfl (fun v w h => h) (fun hG w => Eng.off hG) fun hG a w' H => ?_
          refine Eng.val (w1 := w') (v := .bool (!(((Lnm.byteAt s k : Nat) : Int) == 45))) ?_ (Below.refl _ _) (Eng.off' hG (by rw [Bq46]))
          have e0 : a.eval (.tmp 45) = .int .u8 ((Lnm.byteAt s k : Nat) : Int) := (Eng.on (H.dep 23 45 (by kernel_rfl) rfl) hG)
          have e1 : a.eval (.const (.int .u8 45)) = .int .u8 45 := (rfl : a.eval (.const (.int .u8 45)) = .int .u8 45)
          simp only [execOp, resolve, List.map_toArray, List.map_cons, List.map_nil, e0, e1]
          go_simp
          all_goals first | rfl | (simp; done) | (rw [Bool.eq_iff_iff]; simp; done) | omega | (split <;> first | (simp_all; done) | (split <;> simp_all; done)) | skip
        · refine Eng.plain rfl rfl fun a w' H => ?_
          exact Eng.val (w1 := w') (v := .bool (q43 && q46)) (Eng.run_and rfl rfl (G := true) (H.dep 22 44 (by kernel_rfl) rfl) (fun hb => (Eng.on (H.dep 24 46 (by kernel_rfl) rfl) (Eng.mk1 hb)))) (Below.refl _ _) (by show _ = Value.bool q47; rw [Bq47])
        · refine Eng.plain rfl rfl fun a w' H => ?_
          exact Eng.val (w1 := w') (v := .bool q47) (Eng.run_move rfl (H.dep 25 47 (by kernel_rfl) rfl)) (Below.refl _ _) rfl
        · refine Eng.guarded1 (j := 26) (d := 48) (b := q47) rfl rfl (by kernel_rfl) rfl (fun v w h => h) (fun hG w => Eng.off hG) fun hG a w' H => ?_
          exact Eng.val (w1 := w') (v := .int .u8 ((Lnm.byteAt s k : Nat) : Int)) (Eng.run_move rfl ((H.kept 4 (by kernel_rfl)).trans h4_10)) (Below.refl _ _) (Eng.off' hG rfl)
        · refine Eng.guarded1 (j := 26) (d := 48) (b := q47) rfl rfl (by kernel_rfl) rfl (fun v w h => h) (fun hG w => Eng.off hG) fun hG a w' H => ?_
          refine Eng.val (w1 := w') (v := .bool (!(((Lnm.byteAt s k : Nat) : Int) == 95))) ?_ (Below.refl _ _) (Eng.off' hG (by rw [Bq50]))
          have e0 : a.eval (.tmp 49) = .int .u8 ((Lnm.byteAt s k : Nat) : Int) := (Eng.on (H.dep 27 49 (by kernel_rfl) rfl) hG)
          have e1 : a.eval (.const (.int .u8 95)) = .int .u8 95 := (rfl : a.eval (.const (.int .u8 95)) = .int .u8 95)
          simp only [execOp, resolve, List.map_toArray, List.map_cons, List.map_nil, e0, e1]
          go_simp
          all_goals first | rfl | (simp; done) | (rw [Bool.eq_iff_iff]; simp; done) | omega | (split <;> first | (simp_all; done) | (split <;> simp_all; done)) | skip
        · refine Eng.plain rfl rfl fun a w' H => ?_
          exact Eng.val (w1 := w') (v := .bool (q47 && q50)) (Eng.run_and rfl rfl (G := true) (H.dep 26 48 (by kernel_rfl) rfl) (fun hb => (Eng.on (H.dep 28 50 (by kernel_rfl) rfl) (Eng.mk1 hb)))) (Below.refl _ _) (by show _ = Value.bool q51; rw [Bq51])
      intro act11 w11 T
      have h0_11 : act11.eval (.tmp 0) = .string s := (T.rest 0 (by kernel_rfl)).trans h0_10
      have h3_11 : act11.eval (.tmp 3) = .int .i64 (k : Nat) := (T.rest 3 (by kernel_rfl)).trans h3_10
      have h4_11 : act11.eval (.tmp 4) = .int .u8 ((Lnm.byteAt s k : Nat) : Int) := (T.rest 4 (by kernel_rfl)).trans h4_10
      have h12_11 : act11.eval (.tmp 12) = .bool q12 := (T.rest 12 (by kernel_rfl)).trans h12_10
      have h16_11 : act11.eval (.tmp 16) = .bool q16 := (T.rest 16 (by kernel_rfl)).trans h16_10
      have h51_11 : act11.eval (.tmp 51) = .bool q51 := T.done 29 51 rfl rfl
      have d11 := T.defers.trans d10
      have s11 := T.size.trans s10
      have bl11 := bl10.trans (T.below.mono bl10.size)
      clear T
      refine Eng.tail_nil ?_
      first | show Code.wp Tryd.prog _ _ _ _ | skip
      refine wp_cond_split h51_11 (fun hq => ?_) (fun hq => ?_)
      ·
        have kn12 := hq
        have c51 := Bq51.symm.trans hq
        clear hq
        have hodd : Nam.namedN (Lnm.byteAt s k) = false := by rw [Bq50, Bq47, Bq46, Bq43, Bq42, Bq41, Bq38, Bq35, Bq34, Bq33, Bq30, Bq27, Bq26, Bq23, Lnm.odd_eq] at c51; simpa using c51
        refine wp_seq ?_
        refine Eng.regionS (Eng.still [fun u_ => u_ = .bool false]) (fun i => ([.plain] : List Eng.Kind).getD i .plain) 1 0 52 s11 rfl (by kernel_rfl) (Eng.still_stable _) (Or.inr (Eng.still_any _)) ?_ ?_
        · refine Eng.Steps.cons (fun _ => ?_) (Eng.Steps.nil)
          · refine Eng.plain rfl rfl fun a w' H => ?_
            exact Eng.val (w1 := w') (v := .bool false) (Eng.run_assign rfl (rfl : a.eval (.const (.bool false)) = .bool false)) (Below.refl _ _) rfl
        intro act13 w13 T
        have h0_13 : act13.eval (.tmp 0) = .string s := (T.rest 0 (by kernel_rfl)).trans h0_11
        have h3_13 : act13.eval (.tmp 3) = .int .i64 (k : Nat) := (T.rest 3 (by kernel_rfl)).trans h3_11
        have h4_13 : act13.eval (.tmp 4) = .int .u8 ((Lnm.byteAt s k : Nat) : Int) := (T.rest 4 (by kernel_rfl)).trans h4_11
        have h12_13 : act13.eval (.tmp 12) = .bool q12 := (T.rest 12 (by kernel_rfl)).trans h12_11
        have h16_13 : act13.eval (.tmp 16) = .bool q16 := (T.rest 16 (by kernel_rfl)).trans h16_11
        have h51_13 : act13.eval (.tmp 51) = .bool q51 := (T.rest 51 (by kernel_rfl)).trans h51_11
        have h2_13 : act13.eval (.tmp 2) = .bool false := T.done 0 2 rfl rfl
        have d13 := T.defers.trans d11
        have s13 := T.size.trans s11
        have bl13 := bl11.trans (T.below.mono bl11.size)
        clear T
        refine Eng.tail_nil ?_
        first | show Code.wp Tryd.prog _ _ _ _ | skip
        refine wp_ret ?_
        repeat (first | refine Eng.in_ret ?_ | refine Eng.then_ret ?_)
        exact Eng.ret1 rfl d13 h2_13 ⟨congrArg _ (congrArg _ (Lnm.name_at (by omega) hodd).symm), bl13⟩
      ·
        have kn14 := hq
        have c51 := Bq51.symm.trans hq
        clear hq
        have hnam : Nam.namedN (Lnm.byteAt s k) = true := by rw [Bq50, Bq47, Bq46, Bq43, Bq42, Bq41, Bq38, Bq35, Bq34, Bq33, Bq30, Bq27, Bq26, Bq23, Lnm.odd_eq] at c51; simpa using c51
        refine wp_skip ?_
        first | show Code.wp Tryd.prog _ _ _ _ | skip
        refine Eng.regionS (Eng.still [fun u_ => u_ = .int .i64 (k : Nat), fun u_ => u_ = .int .i64 (IntKind.i64.wrap ((k : Nat) + 1)), fun u_ => u_ = .int .i64 (IntKind.i64.wrap ((k : Nat) + 1))]) (fun i => ([.plain, .plain, .plain] : List Eng.Kind).getD i .plain) 3 0 52 s11 rfl (by kernel_rfl) (Eng.still_stable _) (Or.inr (Eng.still_any _)) ?_ ?_
        · refine Eng.Steps.cons (fun _ => ?_) (Eng.Steps.cons (fun _ => ?_) (Eng.Steps.cons (fun _ => ?_) (Eng.Steps.nil)))
          · refine Eng.plain rfl rfl fun a w' H => ?_
            exact Eng.val (w1 := w') (v := .int .i64 (k : Nat)) (Eng.run_move rfl ((H.kept 3 (by kernel_rfl)).trans h3_11)) (Below.refl _ _) rfl
          · refine Eng.plain rfl rfl fun a w' H => ?_
            refine Eng.val (w1 := w') (v := .int .i64 (IntKind.i64.wrap ((k : Nat) + 1))) ?_ (Below.refl _ _) rfl
            have e0 : a.eval (.tmp 17) = .int .i64 (k : Nat) := (H.dep 0 17 (by kernel_rfl) rfl)
            have e1 : a.eval (.const (.int .i64 1)) = .int .i64 1 := (rfl : a.eval (.const (.int .i64 1)) = .int .i64 1)
            simp only [execOp, resolve, List.map_toArray, List.map_cons, List.map_nil, e0, e1]
            go_simp
            all_goals first | rfl | (simp; done) | (rw [Bool.eq_iff_iff]; simp; done) | omega | (split <;> first | (simp_all; done) | (split <;> simp_all; done)) | skip
          · refine Eng.plain rfl rfl fun a w' H => ?_
            exact Eng.val (w1 := w') (v := .int .i64 (IntKind.i64.wrap ((k : Nat) + 1))) (Eng.run_assign rfl (H.dep 1 18 (by kernel_rfl) rfl)) (Below.refl _ _) rfl
        intro act15 w15 T
        have h0_15 : act15.eval (.tmp 0) = .string s := (T.rest 0 (by kernel_rfl)).trans h0_11
        have h4_15 : act15.eval (.tmp 4) = .int .u8 ((Lnm.byteAt s k : Nat) : Int) := (T.rest 4 (by kernel_rfl)).trans h4_11
        have h12_15 : act15.eval (.tmp 12) = .bool q12 := (T.rest 12 (by kernel_rfl)).trans h12_11
        have h16_15 : act15.eval (.tmp 16) = .bool q16 := (T.rest 16 (by kernel_rfl)).trans h16_11
        have h51_15 : act15.eval (.tmp 51) = .bool q51 := (T.rest 51 (by kernel_rfl)).trans h51_11
        have h3_15 : act15.eval (.tmp 3) = .int .i64 (IntKind.i64.wrap ((k : Nat) + 1)) := T.done 2 3 rfl rfl
        have d15 := T.defers.trans d11
        have s15 := T.size.trans s11
        have bl15 := bl11.trans (T.below.mono bl11.size)
        clear T
        refine Eng.tail_nil ?_
        exact ⟨_, by omega, k + 1, rfl, by omega, Lnm.named_succ hn1 hnam, d15, s15, bl15, h0_15, (h3_15.trans (by first | rfl | (congr 1; rw [Eng.i64_id (by omega) (by omega)]; omega) | (simp; done))), h12_15⟩
    ·
      have kn16 := hq
      have c16 := Bq16.symm.trans hq
      clear hq
      have c16 := of_decide_eq_false c16
      refine wp_exit ?_
      first | show Code.wp Tryd.prog _ _ _ _ | skip
      first | show Code.wp Tryd.prog _ _ _ _ | skip
      refine wp_seq ?_
      refine Eng.regionS (Eng.still [fun u_ => u_ = .bool true]) (fun i => ([.plain] : List Eng.Kind).getD i .plain) 1 0 52 s8 rfl (by kernel_rfl) (Eng.still_stable _) (Or.inr (Eng.still_any _)) ?_ ?_
      · refine Eng.Steps.cons (fun _ => ?_) (Eng.Steps.nil)
        · refine Eng.plain rfl rfl fun a w' H => ?_
          exact Eng.val (w1 := w') (v := .bool true) (Eng.run_assign rfl (rfl : a.eval (.const (.bool true)) = .bool true)) (Below.refl _ _) rfl
      intro act17 w17 T
      have h0_17 : act17.eval (.tmp 0) = .string s := (T.rest 0 (by kernel_rfl)).trans h0_8
      have h3_17 : act17.eval (.tmp 3) = .int .i64 (k : Nat) := (T.rest 3 (by kernel_rfl)).trans h3_8
      have h12_17 : act17.eval (.tmp 12) = .bool q12 := (T.rest 12 (by kernel_rfl)).trans h12_8
      have h16_17 : act17.eval (.tmp 16) = .bool q16 := (T.rest 16 (by kernel_rfl)).trans h16_8
      have h2_17 : act17.eval (.tmp 2) = .bool true := T.done 0 2 rfl rfl
      have d17 := T.defers.trans d8
      have s17 := T.size.trans s8
      have bl17 := bl8.trans (T.below.mono bl8.size)
      clear T
      refine Eng.tail_nil ?_
      first | show Code.wp Tryd.prog _ _ _ _ | skip
      refine wp_ret ?_
      repeat (first | refine Eng.in_ret ?_ | refine Eng.then_ret ?_)
      exact Eng.ret1 rfl d17 h2_17 ⟨congrArg _ (congrArg _ (Lnm.name_all (by omega) (by omega) (fun i hi => hn1 i (by omega))).symm), bl17⟩
end Go.Proofs.YthgafcaoibfchaaDoor.X
