/- Words and walks that the row of LatticeAll needs: printed by programs, and plain laws. -/
import Derived.Test.YthgafcaoibfchaaDoorM5
namespace Go.Proofs.YthgafcaoibfchaaDoor.X
open Go.RowKit Go.Shelf Go.Proofs Go.Proofs.YthgafcaoibfchaaDoorW.PrintWords Go.Proofs.YthgafcaoibfchaaDoorW.PrintLast Go.Proofs.YthgafcaoibfchaaDoorW.PrintMore
set_option linter.unusedVariables false
set_option linter.unusedSimpArgs false
attribute [local go_sem] max2_int min2_int max_two min_two
attribute [local go_sem high] Lat.eqA30 Lat.eqA28
set_option maxHeartbeats 4000000 in
set_option maxRecDepth 100000 in
theorem Laa.walk (v : Value) (l : List Lat.Lb) (at_ : Int) (w : World) (hF : Eng.Reads w v l.length 2 (Lat.cellsL l)) (hcs : ∀ x ∈ l, 0 ≤ x.2 ∧ x.2 ≤ 18446744073709551615) (h0 : 0 ≤ at_) (h1 : at_ ≤ 255) : Calls Tryd.prog 7 #[v, .int .u8 at_] w fun e w' => e = .returned (.bool true) ∧ Below w.heap.size w w' := by
  have hu30 := Tryd.underlying30
  have hu28 := Tryd.underlying28
  have hm := Eng.Reads.len_le hF
  obtain ⟨K, hKe⟩ : ∃ K : Nat, K = at_.toNat % (l.length + 1) := ⟨_, rfl⟩
  have hK : K ≤ l.length := hKe ▸ Nat.le_of_lt_succ (Nat.mod_lt _ (Nat.succ_pos _))
  have hr : Int.tmod at_ ((l.length : Int) + 1) = (K : Int) := by rw [hKe]; exact Lat.tmod_nat h0
  clear hKe
  refine Eng.enter Tryd.func7 rfl fun act0 d0 s0 v0 => ?_
  have s0 : act0.tmps.size = 79 := s0
  have h0_0 : act0.eval (.tmp 0) = v := v0 0 (by simp)
  have h1_0 : act0.eval (.tmp 1) = .int .u8 at_ := v0 1 (by simp)
  clear v0
  have bl0 : Below w.heap.size w w := Below.refl _ _
  refine wp_seq ?_
  refine Eng.regionS (Eng.still [fun u_ => u_ = .bool false]) (fun i => ([.plain] : List Eng.Kind).getD i .plain) 1 0 79 s0 rfl (by kernel_rfl) (Eng.still_stable _) (Or.inr (Eng.still_any _)) ?_ ?_
  · refine Eng.Steps.cons (fun _ => ?_) (Eng.Steps.nil)
    · refine Eng.plain rfl rfl fun a w' H => ?_
      exact Eng.val (w1 := w') (v := .bool false) (Eng.run_assign rfl (rfl : a.eval (.const (.bool false)) = .bool false)) (Below.refl _ _) rfl
  intro act1 w1 T
  have h0_1 : act1.eval (.tmp 0) = v := (T.rest 0 (by kernel_rfl)).trans h0_0
  have h1_1 : act1.eval (.tmp 1) = .int .u8 at_ := (T.rest 1 (by kernel_rfl)).trans h1_0
  have Fp_1 := Eng.Reads.below hF T.below
  have h4_1 : act1.eval (.tmp 4) = .bool false := T.done 0 4 rfl rfl
  have d1 := T.defers.trans d0
  have s1 := T.size.trans s0
  have bl1 := bl0.trans (T.below.mono bl0.size)
  clear T
  refine Eng.tail_nil ?_
  show Code.wp Tryd.prog _ _ _ _
  refine wp_seq ?_
  refine wp_seq ?_
  obtain ⟨q12, Bq12⟩ : ∃ b : Bool, b = (true) := ⟨_, rfl⟩
  obtain ⟨q13, Bq13⟩ : ∃ b : Bool, b = (!q12) := ⟨_, rfl⟩
  refine Eng.regionS (Eng.still [fun u_ => u_ = .bool q12, fun u_ => u_ = .bool q13]) (fun i => ([.plain, .plain] : List Eng.Kind).getD i .plain) 2 0 79 s1 rfl (by kernel_rfl) (Eng.still_stable _) (Or.inr (Eng.still_any _)) ?_ ?_
  · refine Eng.Steps.cons (fun _ => ?_) (Eng.Steps.cons (fun _ => ?_) (Eng.Steps.nil))
    · refine Eng.plain rfl rfl fun a w' H => ?_
      refine Eng.call Tryd.func17 (by kernel_rfl) (by kernel_rfl) rfl #[] ?_ ?_
      · simp
      refine (Alv.calls _).mono ?_
      rintro e w'' ⟨rfl, hb⟩
      exact ⟨_, rfl, (by show _ = Value.bool q12; rw [Bq12]), hb⟩
    · refine Eng.plain rfl rfl fun a w' H => ?_
      exact Eng.val (w1 := w') (v := .bool (!q12)) (Eng.run_not rfl (H.dep 0 12 (by kernel_rfl) rfl)) (Below.refl _ _) (by show _ = Value.bool q13; rw [Bq13])
  intro act2 w2 T
  have h0_2 : act2.eval (.tmp 0) = v := (T.rest 0 (by kernel_rfl)).trans h0_1
  have h1_2 : act2.eval (.tmp 1) = .int .u8 at_ := (T.rest 1 (by kernel_rfl)).trans h1_1
  have h4_2 : act2.eval (.tmp 4) = .bool false := (T.rest 4 (by kernel_rfl)).trans h4_1
  have Fp_2 := Eng.Reads.below Fp_1 T.below
  have h13_2 : act2.eval (.tmp 13) = .bool q13 := T.done 1 13 rfl rfl
  have d2 := T.defers.trans d1
  have s2 := T.size.trans s1
  have bl2 := bl1.trans (T.below.mono bl1.size)
  clear T
  refine Eng.tail_nil ?_
  show Code.wp Tryd.prog _ _ _ _
  have n13 : q13 = false := by
    simp only [Bq13, Bq12]
    rfl
  refine wp_cond_false (h13_2.trans (by rw [n13])) ?_
  refine wp_skip ?_
  show Code.wp Tryd.prog _ _ _ _
  refine wp_seq ?_
  refine wp_seq ?_
  obtain ⟨q16, Bq16⟩ : ∃ b : Bool, b = (decide (((l.length : Nat) : Int) > 100)) := ⟨_, rfl⟩
  refine Eng.regionS (Eng.still [fun u_ => u_ = v, fun u_ => u_ = .int .i64 ((l.length : Nat) : Int), fun u_ => u_ = .bool q16]) (fun i => ([.plain, .plain, .plain] : List Eng.Kind).getD i .plain) 3 0 79 s2 rfl (by kernel_rfl) (Eng.still_stable _) (Or.inr (Eng.still_any _)) ?_ ?_
  · refine Eng.Steps.cons (fun _ => ?_) (Eng.Steps.cons (fun _ => ?_) (Eng.Steps.cons (fun _ => ?_) (Eng.Steps.nil)))
    · refine Eng.plain rfl rfl fun a w' H => ?_
      exact Eng.val (w1 := w') (v := v) (Eng.run_move rfl ((H.kept 0 (by kernel_rfl)).trans h0_2)) (Below.refl _ _) rfl
    · refine Eng.plain rfl rfl fun a w' H => ?_
      refine Eng.val (w1 := w') (v := .int .i64 ((l.length : Nat) : Int)) ?_ (Below.refl _ _) rfl
      exact Eng.run_len_sl rfl Tryd.underlying39 (show a.eval (.tmp 14) = v from (H.dep 0 14 (by kernel_rfl) rfl)) (Eng.Reads.below Fp_2 H.below)
    · refine Eng.plain rfl rfl fun a w' H => ?_
      refine Eng.val (w1 := w') (v := .bool (decide (((l.length : Nat) : Int) > 100))) ?_ (Below.refl _ _) (by show _ = Value.bool q16; rw [Bq16])
      have e0 : a.eval (.tmp 15) = .int .i64 ((l.length : Nat) : Int) := (H.dep 1 15 (by kernel_rfl) rfl)
      have e1 : a.eval (.const (.int .i64 100)) = .int .i64 100 := (rfl : a.eval (.const (.int .i64 100)) = .int .i64 100)
      simp only [execOp, resolve, List.map_toArray, List.map_cons, List.map_nil, e0, e1]
      go_simp
      all_goals first | rfl | (simp; done) | (rw [Bool.eq_iff_iff]; simp; done) | omega | skip
  intro act3 w3 T
  have h0_3 : act3.eval (.tmp 0) = v := (T.rest 0 (by kernel_rfl)).trans h0_2
  have h1_3 : act3.eval (.tmp 1) = .int .u8 at_ := (T.rest 1 (by kernel_rfl)).trans h1_2
  have h4_3 : act3.eval (.tmp 4) = .bool false := (T.rest 4 (by kernel_rfl)).trans h4_2
  have h13_3 : act3.eval (.tmp 13) = .bool q13 := (T.rest 13 (by kernel_rfl)).trans h13_2
  have Fp_3 := Eng.Reads.below Fp_2 T.below
  have h16_3 : act3.eval (.tmp 16) = .bool q16 := T.done 2 16 rfl rfl
  have d3 := T.defers.trans d2
  have s3 := T.size.trans s2
  have bl3 := bl2.trans (T.below.mono bl2.size)
  clear T
  refine Eng.tail_nil ?_
  show Code.wp Tryd.prog _ _ _ _
  refine wp_cond_split h16_3 (fun hq => ?_) (fun hq => ?_)
  ·
    have kn4 := hq
    have c16 := Bq16.symm.trans hq
    clear hq
    have c16 := of_decide_eq_true c16
    refine wp_seq ?_
    refine Eng.regionS (Eng.still [fun u_ => u_ = .bool true]) (fun i => ([.plain] : List Eng.Kind).getD i .plain) 1 0 79 s3 rfl (by kernel_rfl) (Eng.still_stable _) (Or.inr (Eng.still_any _)) ?_ ?_
    · refine Eng.Steps.cons (fun _ => ?_) (Eng.Steps.nil)
      · refine Eng.plain rfl rfl fun a w' H => ?_
        exact Eng.val (w1 := w') (v := .bool true) (Eng.run_assign rfl (rfl : a.eval (.const (.bool true)) = .bool true)) (Below.refl _ _) rfl
    intro act5 w5 T
    have h0_5 : act5.eval (.tmp 0) = v := (T.rest 0 (by kernel_rfl)).trans h0_3
    have h1_5 : act5.eval (.tmp 1) = .int .u8 at_ := (T.rest 1 (by kernel_rfl)).trans h1_3
    have h13_5 : act5.eval (.tmp 13) = .bool q13 := (T.rest 13 (by kernel_rfl)).trans h13_3
    have h16_5 : act5.eval (.tmp 16) = .bool q16 := (T.rest 16 (by kernel_rfl)).trans h16_3
    have Fp_5 := Eng.Reads.below Fp_3 T.below
    have h4_5 : act5.eval (.tmp 4) = .bool true := T.done 0 4 rfl rfl
    have d5 := T.defers.trans d3
    have s5 := T.size.trans s3
    have bl5 := bl3.trans (T.below.mono bl3.size)
    clear T
    refine Eng.tail_nil ?_
    show Code.wp Tryd.prog _ _ _ _
    refine wp_ret ?_
    repeat (first | refine Eng.in_ret ?_ | refine Eng.then_ret ?_)
    exact Eng.ret1 rfl d5 h4_5 ⟨rfl, bl5⟩
  ·
    have kn6 := hq
    have c16 := Bq16.symm.trans hq
    clear hq
    have c16 := of_decide_eq_false c16
    refine wp_skip ?_
    show Code.wp Tryd.prog _ _ _ _
    refine wp_seq ?_
    refine Eng.regionS (Eng.still [fun u_ => u_ = .slice none 0 0]) (fun i => ([.plain] : List Eng.Kind).getD i .plain) 1 0 79 s3 rfl (by kernel_rfl) (Eng.still_stable _) (Or.inr (Eng.still_any _)) ?_ ?_
    · refine Eng.Steps.cons (fun _ => ?_) (Eng.Steps.nil)
      · refine Eng.plain rfl rfl fun a w' H => ?_
        exact Eng.val (w1 := w') (v := .slice none 0 0) (Eng.run_assign rfl (rfl : a.eval (.const (.slice none 0 0)) = .slice none 0 0)) (Below.refl _ _) rfl
    intro act7 w7 T
    have h0_7 : act7.eval (.tmp 0) = v := (T.rest 0 (by kernel_rfl)).trans h0_3
    have h1_7 : act7.eval (.tmp 1) = .int .u8 at_ := (T.rest 1 (by kernel_rfl)).trans h1_3
    have h4_7 : act7.eval (.tmp 4) = .bool false := (T.rest 4 (by kernel_rfl)).trans h4_3
    have h13_7 : act7.eval (.tmp 13) = .bool q13 := (T.rest 13 (by kernel_rfl)).trans h13_3
    have h16_7 : act7.eval (.tmp 16) = .bool q16 := (T.rest 16 (by kernel_rfl)).trans h16_3
    have Fp_7 := Eng.Reads.below Fp_3 T.below
    have h5_7 : act7.eval (.tmp 5) = .slice none 0 0 := T.done 0 5 rfl rfl
    have d7 := T.defers.trans d3
    have s7 := T.size.trans s3
    have bl7 := bl3.trans (T.below.mono bl3.size)
    clear T
    refine Eng.tail_nil ?_
    show Code.wp Tryd.prog _ _ _ _
    refine wp_seq ?_
    refine wp_seq ?_
    refine Eng.regionS (Eng.still [fun u_ => u_ = v, fun u_ => u_ = .int .i64 ((l.length : Nat) : Int), fun u_ => u_ = .int .i64 0]) (fun i => ([.plain, .plain, .plain] : List Eng.Kind).getD i .plain) 3 0 79 s7 rfl (by kernel_rfl) (Eng.still_stable _) (Or.inr (Eng.still_any _)) ?_ ?_
    · refine Eng.Steps.cons (fun _ => ?_) (Eng.Steps.cons (fun _ => ?_) (Eng.Steps.cons (fun _ => ?_) (Eng.Steps.nil)))
      · refine Eng.plain rfl rfl fun a w' H => ?_
        exact Eng.val (w1 := w') (v := v) (Eng.run_move rfl ((H.kept 0 (by kernel_rfl)).trans h0_7)) (Below.refl _ _) rfl
      · refine Eng.plain rfl rfl fun a w' H => ?_
        refine Eng.val (w1 := w') (v := .int .i64 ((l.length : Nat) : Int)) ?_ (Below.refl _ _) rfl
        exact Eng.run_len_sl rfl Tryd.underlying39 (show a.eval (.tmp 17) = v from (H.dep 0 17 (by kernel_rfl) rfl)) (Eng.Reads.below Fp_7 H.below)
      · refine Eng.plain rfl rfl fun a w' H => ?_
        exact Eng.val (w1 := w') (v := .int .i64 0) (Eng.run_move rfl (rfl : a.eval (.const (.int .i64 0)) = .int .i64 0)) (Below.refl _ _) rfl
    intro act8 w8 T
    have h0_8 : act8.eval (.tmp 0) = v := (T.rest 0 (by kernel_rfl)).trans h0_7
    have h1_8 : act8.eval (.tmp 1) = .int .u8 at_ := (T.rest 1 (by kernel_rfl)).trans h1_7
    have h4_8 : act8.eval (.tmp 4) = .bool false := (T.rest 4 (by kernel_rfl)).trans h4_7
    have h5_8 : act8.eval (.tmp 5) = .slice none 0 0 := (T.rest 5 (by kernel_rfl)).trans h5_7
    have h13_8 : act8.eval (.tmp 13) = .bool q13 := (T.rest 13 (by kernel_rfl)).trans h13_7
    have h16_8 : act8.eval (.tmp 16) = .bool q16 := (T.rest 16 (by kernel_rfl)).trans h16_7
    have Fp_8 := Eng.Reads.below Fp_7 T.below
    have h17_8 : act8.eval (.tmp 17) = v := T.done 0 17 rfl rfl
    have h18_8 : act8.eval (.tmp 18) = .int .i64 ((l.length : Nat) : Int) := T.done 1 18 rfl rfl
    have h19_8 : act8.eval (.tmp 19) = .int .i64 0 := T.done 2 19 rfl rfl
    have d8 := T.defers.trans d7
    have s8 := T.size.trans s7
    have bl8 := bl7.trans (T.below.mono bl7.size)
    clear T
    refine Eng.tail_nil ?_
    show Code.wp Tryd.prog _ _ _ _
    refine wp_block ?_
    refine Eng.loopN (fun n a w' => ∃ (k : Nat) (v5 : Value), l.length - k = n ∧ (k ≤ l.length) ∧ (w'.ownsRow w.heap.size 30 2 v5 (List.take k l).length (Lat.cellsL (List.take k l))) ∧ (∀ x ∈ List.take k l, 0 ≤ x.1) ∧ a.defers = [] ∧ a.tmps.size = 79 ∧ Below w.heap.size w w' ∧ a.eval (.tmp 0) = v ∧ a.eval (.tmp 1) = .int .u8 at_ ∧ a.eval (.tmp 5) = v5 ∧ a.eval (.tmp 13) = .bool q13 ∧ a.eval (.tmp 16) = .bool q16 ∧ a.eval (.tmp 17) = v ∧ a.eval (.tmp 18) = .int .i64 ((l.length : Nat) : Int) ∧ a.eval (.tmp 19) = .int .i64 (k : Nat)) (n0 := l.length - 0) ?_ ?_
    · exact ⟨0, .slice none 0 0, rfl, by omega, World.ownsRow_nil _ _ _ _, fun x hx => by simp at hx, d8, s8, bl8, h0_8, h1_8, (h5_8.trans (by first | rfl | (congr 1; rw [Eng.i64_id (by omega) (by omega)]; omega) | (simp; done))), h13_8, h16_8, h17_8, h18_8, (h19_8.trans (by first | rfl | (congr 1; rw [Eng.i64_id (by omega) (by omega)]; omega) | (simp; done)))⟩
    rintro n act9 w9 ⟨k, v5, rfl, hc0_9, hc1_9, hc2_9, d9, s9, bl9, h0_9, h1_9, h5_9, h13_9, h16_9, h17_9, h18_9, h19_9⟩
    have Fp_9 := Eng.Reads.below hF bl9
    have hk1 := hc0_9
    have hlv := hc2_9
    have Ft_9 := Eng.Reads.of_own hc1_9
    refine wp_seq ?_
    obtain ⟨q20, Bq20⟩ : ∃ b : Bool, b = (decide ((k : Nat) < ((l.length : Nat) : Int))) := ⟨_, rfl⟩
    refine Eng.regionS (Eng.still [fun u_ => u_ = .bool q20]) (fun i => ([.plain] : List Eng.Kind).getD i .plain) 1 0 79 s9 rfl (by kernel_rfl) (Eng.still_stable _) (Or.inr (Eng.still_any _)) ?_ ?_
    · refine Eng.Steps.cons (fun _ => ?_) (Eng.Steps.nil)
      · refine Eng.plain rfl rfl fun a w' H => ?_
        refine Eng.val (w1 := w') (v := .bool (decide ((k : Nat) < ((l.length : Nat) : Int)))) ?_ (Below.refl _ _) (by show _ = Value.bool q20; rw [Bq20])
        have e0 : a.eval (.tmp 19) = .int .i64 (k : Nat) := ((H.kept 19 (by kernel_rfl)).trans h19_9)
        have e1 : a.eval (.tmp 18) = .int .i64 ((l.length : Nat) : Int) := ((H.kept 18 (by kernel_rfl)).trans h18_9)
        simp only [execOp, resolve, List.map_toArray, List.map_cons, List.map_nil, e0, e1]
        go_simp
        all_goals first | rfl | (simp; done) | (rw [Bool.eq_iff_iff]; simp; done) | omega | skip
    intro act10 w10 T
    have h0_10 : act10.eval (.tmp 0) = v := (T.rest 0 (by kernel_rfl)).trans h0_9
    have h1_10 : act10.eval (.tmp 1) = .int .u8 at_ := (T.rest 1 (by kernel_rfl)).trans h1_9
    have h5_10 : act10.eval (.tmp 5) = v5 := (T.rest 5 (by kernel_rfl)).trans h5_9
    have h13_10 : act10.eval (.tmp 13) = .bool q13 := (T.rest 13 (by kernel_rfl)).trans h13_9
    have h16_10 : act10.eval (.tmp 16) = .bool q16 := (T.rest 16 (by kernel_rfl)).trans h16_9
    have h17_10 : act10.eval (.tmp 17) = v := (T.rest 17 (by kernel_rfl)).trans h17_9
    have h18_10 : act10.eval (.tmp 18) = .int .i64 ((l.length : Nat) : Int) := (T.rest 18 (by kernel_rfl)).trans h18_9
    have h19_10 : act10.eval (.tmp 19) = .int .i64 (k : Nat) := (T.rest 19 (by kernel_rfl)).trans h19_9
    have Fp_10 := Eng.Reads.below Fp_9 T.below
    have Ft_10 := Eng.Reads.below Ft_9 T.below
    have Ot_10 := Eng.own_below hc1_9 T.below
    have h20_10 : act10.eval (.tmp 20) = .bool q20 := T.done 0 20 rfl rfl
    have d10 := T.defers.trans d9
    have s10 := T.size.trans s9
    have bl10 := bl9.trans (T.below.mono bl9.size)
    clear T
    refine Eng.tail_nil ?_
    show Code.wp Tryd.prog _ _ _ _
    refine wp_seq ?_
    refine wp_cond_split h20_10 (fun hq => ?_) (fun hq => ?_)
    ·
      have kn11 := hq
      have c20 := Bq20.symm.trans hq
      clear hq
      have c20 := of_decide_eq_true c20
      have hk0 : k < l.length := by omega
      refine wp_skip ?_
      show Code.wp Tryd.prog _ _ _ _
      refine wp_seq ?_
      refine wp_block ?_
      refine wp_seq ?_
      refine Eng.regionS (Eng.still [fun u_ => u_ = Eng.elemPtr v (k * 2), fun u_ => u_ = .agg #[.int .i64 ((l.getD k default).1), .int .u64 ((l.getD k default).2)], fun u_ => True, fun u_ => True]) (fun i => ([.plain, .plain, .alloc 28 #[.int .i64 0, .int .u64 0], .store 2 #[.int .i64 ((l.getD k default).1), .int .u64 ((l.getD k default).2)]] : List Eng.Kind).getD i .plain) 4 0 79 s10 rfl (by kernel_rfl) (Eng.still_stable _) (Or.inr (Eng.still_any _)) ?_ ?_
      · refine Eng.Steps.cons (fun _ => ?_) (Eng.Steps.cons (fun _ => ?_) (Eng.Steps.cons (fun _ => ?_) (Eng.Steps.cons (fun _ => ?_) (Eng.Steps.nil))))
        · refine Eng.plain rfl rfl fun a w' H => ?_
          refine Eng.val (w1 := w') (v := Eng.elemPtr v (k * 2)) ?_ (Below.refl _ _) rfl
          exact Eng.run_index_sl rfl Tryd.underlying39 (by kernel_rfl) (show a.eval (.tmp 17) = v from ((H.kept 17 (by kernel_rfl)).trans h17_10)) ((show a.eval (.tmp 19) = .int .i64 (k : Nat) from ((H.kept 19 (by kernel_rfl)).trans h19_10)).trans (congrArg (Value.int _) (show (k : Nat) = ((k : Nat) : Int) from by omega))) (Eng.Reads.below Fp_10 H.below) (by omega) rfl
        · refine Eng.plain rfl rfl fun a w' H => ?_
          refine Eng.val (w1 := w') (v := .agg #[.int .i64 ((l.getD k default).1), .int .u64 ((l.getD k default).2)]) ?_ (Below.refl _ _) rfl
          exact Eng.run_load_els [.int .i64 ((l.getD k default).1), .int .u64 ((l.getD k default).2)] rfl (show a.eval (.tmp 21) = Eng.elemPtr v (k * 2) from (H.dep 0 21 (by kernel_rfl) rfl)) (Eng.Reads.below Fp_10 H.below) (Lat.cells_at l k (by omega)) rfl Tryd.underlying28 rfl (by kernel_rfl)
        · refine Eng.made rfl (by simp) rfl (fun a w' hd ho => ?_) (fun _ _ => trivial)
          simp only [execOp]
          go_simp
        · refine Eng.stored [.int .i64 ((l.getD k default).1), .int .u64 ((l.getD k default).2)] rfl rfl rfl (j := 2) (d := 7) (by kernel_rfl) rfl rfl (Eng.store_uniq (by kernel_rfl)) rfl rfl fun a w' g e hc hd ho => ?_
          have e0 : a.eval _ = .agg #[.int .i64 ((l.getD k default).1), .int .u64 ((l.getD k default).2)] := (hd 1 22 (by kernel_rfl) rfl)
          have z0 := (Eng.cells hc 0).trans rfl
          have z1 := (Eng.cells hc 1).trans rfl
          have f0 := Eng.unfrozen hc 0
          have f1 := Eng.unfrozen hc 1
          simp only [execOp, e, e0]
          go_simp
          rfl
      intro act12 w12 T
      have h0_12 : act12.eval (.tmp 0) = v := (T.rest 0 (by kernel_rfl)).trans h0_10
      have h1_12 : act12.eval (.tmp 1) = .int .u8 at_ := (T.rest 1 (by kernel_rfl)).trans h1_10
      have h5_12 : act12.eval (.tmp 5) = v5 := (T.rest 5 (by kernel_rfl)).trans h5_10
      have h13_12 : act12.eval (.tmp 13) = .bool q13 := (T.rest 13 (by kernel_rfl)).trans h13_10
      have h16_12 : act12.eval (.tmp 16) = .bool q16 := (T.rest 16 (by kernel_rfl)).trans h16_10
      have h17_12 : act12.eval (.tmp 17) = v := (T.rest 17 (by kernel_rfl)).trans h17_10
      have h18_12 : act12.eval (.tmp 18) = .int .i64 ((l.length : Nat) : Int) := (T.rest 18 (by kernel_rfl)).trans h18_10
      have h19_12 : act12.eval (.tmp 19) = .int .i64 (k : Nat) := (T.rest 19 (by kernel_rfl)).trans h19_10
      have h20_12 : act12.eval (.tmp 20) = .bool q20 := (T.rest 20 (by kernel_rfl)).trans h20_10
      have Fp_12 := Eng.Reads.below Fp_10 T.below
      have Ft_12 := Eng.Reads.below Ft_10 T.below
      have Ot_12 := Eng.own_below Ot_10 T.below
      obtain ⟨g7_12, h7_12, rg7_12, lg7_12_12, kg7_12_12⟩ := T.st 2 7 3 _ _ _ rfl rfl rfl rfl rfl
      have og7_12 : w.heap.size ≤ g7_12 := Nat.le_trans bl10.size rg7_12
      have d12 := T.defers.trans d10
      have s12 := T.size.trans s10
      have bl12 := bl10.trans (T.below.mono bl10.size)
      clear T
      refine Eng.tail_nil ?_
      show Code.wp Tryd.prog _ _ _ _
      refine wp_seq ?_
      refine wp_seq ?_
      obtain ⟨q25, Bq25⟩ : ∃ b : Bool, b = (decide (((l.getD k default).1) < 0)) := ⟨_, rfl⟩
      refine Eng.regionS (Eng.still [fun u_ => u_ = .pointer (some ⟨g7_12, 0, none⟩), fun u_ => u_ = .int .i64 ((l.getD k default).1), fun u_ => u_ = .bool q25]) (fun i => ([.plain, .plain, .plain] : List Eng.Kind).getD i .plain) 3 0 79 s12 rfl (by kernel_rfl) (Eng.still_stable _) (Or.inr (Eng.still_any _)) ?_ ?_
      · refine Eng.Steps.cons (fun _ => ?_) (Eng.Steps.cons (fun _ => ?_) (Eng.Steps.cons (fun _ => ?_) (Eng.Steps.nil)))
        · refine Eng.plain rfl rfl fun a w' H => ?_
          refine Eng.val (w1 := w') (v := .pointer (some ⟨g7_12, 0, none⟩)) ?_ (Below.refl _ _) rfl
          have e0 : a.eval (.tmp 7) = .pointer (some ⟨g7_12, 0, none⟩) := ((H.kept 7 (by kernel_rfl)).trans h7_12)
          simp only [execOp, resolve, List.map_toArray, List.map_cons, List.map_nil, e0]
          go_simp
          all_goals first | rfl | (simp; done) | (rw [Bool.eq_iff_iff]; simp; done) | omega | skip
        · refine Eng.plain rfl rfl fun a w' H => ?_
          have kb := (H.below.block _ lg7_12_12).trans kg7_12_12
          have z0 : w'.cell? ⟨g7_12, 0, none⟩ = some (.int .i64 ((l.getD k default).1)) := (Eng.cells kb 0).trans rfl
          refine Eng.val (w1 := w') (v := .int .i64 ((l.getD k default).1)) ?_ (Below.refl _ _) rfl
          have e0 : a.eval (.tmp 23) = .pointer (some ⟨g7_12, 0, none⟩) := (H.dep 0 23 (by kernel_rfl) rfl)
          simp only [execOp, resolve, List.map_toArray, List.map_cons, List.map_nil, e0]
          go_simp
          all_goals first | rfl | (simp; done) | (rw [Bool.eq_iff_iff]; simp; done) | omega | skip
        · refine Eng.plain rfl rfl fun a w' H => ?_
          refine Eng.val (w1 := w') (v := .bool (decide (((l.getD k default).1) < 0))) ?_ (Below.refl _ _) (by show _ = Value.bool q25; rw [Bq25])
          have e0 : a.eval (.tmp 24) = .int .i64 ((l.getD k default).1) := (H.dep 1 24 (by kernel_rfl) rfl)
          have e1 : a.eval (.const (.int .i64 0)) = .int .i64 0 := (rfl : a.eval (.const (.int .i64 0)) = .int .i64 0)
          simp only [execOp, resolve, List.map_toArray, List.map_cons, List.map_nil, e0, e1]
          go_simp
          all_goals first | rfl | (simp; done) | (rw [Bool.eq_iff_iff]; simp; done) | omega | skip
      intro act13 w13 T
      have h0_13 : act13.eval (.tmp 0) = v := (T.rest 0 (by kernel_rfl)).trans h0_12
      have h1_13 : act13.eval (.tmp 1) = .int .u8 at_ := (T.rest 1 (by kernel_rfl)).trans h1_12
      have h5_13 : act13.eval (.tmp 5) = v5 := (T.rest 5 (by kernel_rfl)).trans h5_12
      have h7_13 : act13.eval (.tmp 7) = .pointer (some ⟨g7_12, 0, none⟩) := (T.rest 7 (by kernel_rfl)).trans h7_12
      have h13_13 : act13.eval (.tmp 13) = .bool q13 := (T.rest 13 (by kernel_rfl)).trans h13_12
      have h16_13 : act13.eval (.tmp 16) = .bool q16 := (T.rest 16 (by kernel_rfl)).trans h16_12
      have h17_13 : act13.eval (.tmp 17) = v := (T.rest 17 (by kernel_rfl)).trans h17_12
      have h18_13 : act13.eval (.tmp 18) = .int .i64 ((l.length : Nat) : Int) := (T.rest 18 (by kernel_rfl)).trans h18_12
      have h19_13 : act13.eval (.tmp 19) = .int .i64 (k : Nat) := (T.rest 19 (by kernel_rfl)).trans h19_12
      have h20_13 : act13.eval (.tmp 20) = .bool q20 := (T.rest 20 (by kernel_rfl)).trans h20_12
      have kg7_12_13 := (T.below.block _ lg7_12_12).trans kg7_12_12
      have lg7_12_13 := Nat.lt_of_lt_of_le lg7_12_12 T.below.size
      have Fp_13 := Eng.Reads.below Fp_12 T.below
      have Ft_13 := Eng.Reads.below Ft_12 T.below
      have Ot_13 := Eng.own_below Ot_12 T.below
      have h25_13 : act13.eval (.tmp 25) = .bool q25 := T.done 2 25 rfl rfl
      have d13 := T.defers.trans d12
      have s13 := T.size.trans s12
      have bl13 := bl12.trans (T.below.mono bl12.size)
      clear T
      refine Eng.tail_nil ?_
      show Code.wp Tryd.prog _ _ _ _
      refine wp_cond_split h25_13 (fun hq => ?_) (fun hq => ?_)
      ·
        have kn14 := hq
        have c25 := Bq25.symm.trans hq
        clear hq
        have c25 := of_decide_eq_true c25
        refine wp_seq ?_
        refine Eng.regionS (Eng.still [fun u_ => u_ = .bool true]) (fun i => ([.plain] : List Eng.Kind).getD i .plain) 1 0 79 s13 rfl (by kernel_rfl) (Eng.still_stable _) (Or.inr (Eng.still_any _)) ?_ ?_
        · refine Eng.Steps.cons (fun _ => ?_) (Eng.Steps.nil)
          · refine Eng.plain rfl rfl fun a w' H => ?_
            exact Eng.val (w1 := w') (v := .bool true) (Eng.run_assign rfl (rfl : a.eval (.const (.bool true)) = .bool true)) (Below.refl _ _) rfl
        intro act15 w15 T
        have h0_15 : act15.eval (.tmp 0) = v := (T.rest 0 (by kernel_rfl)).trans h0_13
        have h1_15 : act15.eval (.tmp 1) = .int .u8 at_ := (T.rest 1 (by kernel_rfl)).trans h1_13
        have h5_15 : act15.eval (.tmp 5) = v5 := (T.rest 5 (by kernel_rfl)).trans h5_13
        have h7_15 : act15.eval (.tmp 7) = .pointer (some ⟨g7_12, 0, none⟩) := (T.rest 7 (by kernel_rfl)).trans h7_13
        have h13_15 : act15.eval (.tmp 13) = .bool q13 := (T.rest 13 (by kernel_rfl)).trans h13_13
        have h16_15 : act15.eval (.tmp 16) = .bool q16 := (T.rest 16 (by kernel_rfl)).trans h16_13
        have h17_15 : act15.eval (.tmp 17) = v := (T.rest 17 (by kernel_rfl)).trans h17_13
        have h18_15 : act15.eval (.tmp 18) = .int .i64 ((l.length : Nat) : Int) := (T.rest 18 (by kernel_rfl)).trans h18_13
        have h19_15 : act15.eval (.tmp 19) = .int .i64 (k : Nat) := (T.rest 19 (by kernel_rfl)).trans h19_13
        have h20_15 : act15.eval (.tmp 20) = .bool q20 := (T.rest 20 (by kernel_rfl)).trans h20_13
        have h25_15 : act15.eval (.tmp 25) = .bool q25 := (T.rest 25 (by kernel_rfl)).trans h25_13
        have kg7_12_15 := (T.below.block _ lg7_12_13).trans kg7_12_13
        have lg7_12_15 := Nat.lt_of_lt_of_le lg7_12_13 T.below.size
        have Fp_15 := Eng.Reads.below Fp_13 T.below
        have Ft_15 := Eng.Reads.below Ft_13 T.below
        have Ot_15 := Eng.own_below Ot_13 T.below
        have h4_15 : act15.eval (.tmp 4) = .bool true := T.done 0 4 rfl rfl
        have d15 := T.defers.trans d13
        have s15 := T.size.trans s13
        have bl15 := bl13.trans (T.below.mono bl13.size)
        clear T
        refine Eng.tail_nil ?_
        show Code.wp Tryd.prog _ _ _ _
        refine wp_ret ?_
        repeat (first | refine Eng.in_ret ?_ | refine Eng.then_ret ?_)
        exact Eng.ret1 rfl d15 h4_15 ⟨rfl, bl15⟩
      ·
        have kn16 := hq
        have c25 := Bq25.symm.trans hq
        clear hq
        have c25 := of_decide_eq_false c25
        refine wp_skip ?_
        show Code.wp Tryd.prog _ _ _ _
        refine Eng.regionT (n := 5) rfl ?_
        refine Eng.tail_val rfl rfl rfl (Eng.run_move rfl h5_13) s13 rfl fun act17 d17 s17 hv hr => ?_
        have h0_17 : act17.eval (.tmp 0) = v := (hr 0 rfl).trans h0_13
        have h1_17 : act17.eval (.tmp 1) = .int .u8 at_ := (hr 1 rfl).trans h1_13
        have h5_17 : act17.eval (.tmp 5) = v5 := (hr 5 rfl).trans h5_13
        have h7_17 : act17.eval (.tmp 7) = .pointer (some ⟨g7_12, 0, none⟩) := (hr 7 rfl).trans h7_13
        have h13_17 : act17.eval (.tmp 13) = .bool q13 := (hr 13 rfl).trans h13_13
        have h16_17 : act17.eval (.tmp 16) = .bool q16 := (hr 16 rfl).trans h16_13
        have h17_17 : act17.eval (.tmp 17) = v := (hr 17 rfl).trans h17_13
        have h18_17 : act17.eval (.tmp 18) = .int .i64 ((l.length : Nat) : Int) := (hr 18 rfl).trans h18_13
        have h19_17 : act17.eval (.tmp 19) = .int .i64 (k : Nat) := (hr 19 rfl).trans h19_13
        have h20_17 : act17.eval (.tmp 20) = .bool q20 := (hr 20 rfl).trans h20_13
        have h25_17 : act17.eval (.tmp 25) = .bool q25 := (hr 25 rfl).trans h25_13
        have h26_17 : act17.eval (.tmp 26) = v5 := hv
        have d17 := d17.trans d13
        clear hv hr
        refine Eng.tail_val rfl rfl rfl (Eng.run_load_all rfl h7_17 kg7_12_13 Tryd.underlying28 rfl (by kernel_rfl)) s17 rfl fun act18 d18 s18 hv hr => ?_
        have h0_18 : act18.eval (.tmp 0) = v := (hr 0 rfl).trans h0_17
        have h1_18 : act18.eval (.tmp 1) = .int .u8 at_ := (hr 1 rfl).trans h1_17
        have h5_18 : act18.eval (.tmp 5) = v5 := (hr 5 rfl).trans h5_17
        have h7_18 : act18.eval (.tmp 7) = .pointer (some ⟨g7_12, 0, none⟩) := (hr 7 rfl).trans h7_17
        have h13_18 : act18.eval (.tmp 13) = .bool q13 := (hr 13 rfl).trans h13_17
        have h16_18 : act18.eval (.tmp 16) = .bool q16 := (hr 16 rfl).trans h16_17
        have h17_18 : act18.eval (.tmp 17) = v := (hr 17 rfl).trans h17_17
        have h18_18 : act18.eval (.tmp 18) = .int .i64 ((l.length : Nat) : Int) := (hr 18 rfl).trans h18_17
        have h19_18 : act18.eval (.tmp 19) = .int .i64 (k : Nat) := (hr 19 rfl).trans h19_17
        have h20_18 : act18.eval (.tmp 20) = .bool q20 := (hr 20 rfl).trans h20_17
        have h25_18 : act18.eval (.tmp 25) = .bool q25 := (hr 25 rfl).trans h25_17
        have h26_18 : act18.eval (.tmp 26) = v5 := (hr 26 rfl).trans h26_17
        have h27_18 : act18.eval (.tmp 27) = .agg #[.int .i64 ((l.getD k default).1), .int .u64 ((l.getD k default).2)] := hv
        have d18 := d18.trans d17
        clear hv hr
        refine Eng.tail_ex rfl rfl rfl (Eng.run_build1I (size := 2) (z := .agg #[.int .i64 0, .int .u64 0]) [.int .i64 ((l.getD k default).1), .int .u64 ((l.getD k default).2)] rfl Tryd.underlying40 (by kernel_rfl) rfl rfl rfl (by kernel_rfl) h27_18) s18 rfl fun v_19 w19 act19 R d19 s19 hv hr => ?_
        obtain ⟨F_19, b_19⟩ := R
        have h0_19 : act19.eval (.tmp 0) = v := (hr 0 rfl).trans h0_18
        have h1_19 : act19.eval (.tmp 1) = .int .u8 at_ := (hr 1 rfl).trans h1_18
        have h5_19 : act19.eval (.tmp 5) = v5 := (hr 5 rfl).trans h5_18
        have h7_19 : act19.eval (.tmp 7) = .pointer (some ⟨g7_12, 0, none⟩) := (hr 7 rfl).trans h7_18
        have h13_19 : act19.eval (.tmp 13) = .bool q13 := (hr 13 rfl).trans h13_18
        have h16_19 : act19.eval (.tmp 16) = .bool q16 := (hr 16 rfl).trans h16_18
        have h17_19 : act19.eval (.tmp 17) = v := (hr 17 rfl).trans h17_18
        have h18_19 : act19.eval (.tmp 18) = .int .i64 ((l.length : Nat) : Int) := (hr 18 rfl).trans h18_18
        have h19_19 : act19.eval (.tmp 19) = .int .i64 (k : Nat) := (hr 19 rfl).trans h19_18
        have h20_19 : act19.eval (.tmp 20) = .bool q20 := (hr 20 rfl).trans h20_18
        have h25_19 : act19.eval (.tmp 25) = .bool q25 := (hr 25 rfl).trans h25_18
        have h26_19 : act19.eval (.tmp 26) = v5 := (hr 26 rfl).trans h26_18
        have h27_19 : act19.eval (.tmp 27) = .agg #[.int .i64 ((l.getD k default).1), .int .u64 ((l.getD k default).2)] := (hr 27 rfl).trans h27_18
        have h28_19 : act19.eval (.tmp 28) = v_19 := hv
        have d19 := d19.trans d18
        clear hv hr
        have kg7_12_19 := (b_19.block _ lg7_12_13).trans kg7_12_13
        have lg7_12_19 := Nat.lt_of_lt_of_le lg7_12_13 b_19.size
        have Fp_19 := Eng.Reads.below Fp_13 b_19
        have Ft_19 := Eng.Reads.below Ft_13 b_19
        have Ot_19 := Eng.own_below Ot_13 b_19
        have bl19 := bl13.trans (b_19.mono bl13.size)
        refine Eng.tail_ex rfl rfl rfl (Eng.run_appendI (z := .agg #[.int .i64 0, .int .u64 0]) rfl Tryd.underlying40 (by kernel_rfl) rfl rfl h26_19 Ot_19 h28_19 F_19 (by intro u hu; simp at hu; rcases hu with rfl | rfl <;> rfl) (by simp only [List.length_take, List.length_drop]; omega) bl19.size) s19 rfl fun v_20 w20 act20 R d20 s20 hv hr => ?_
        obtain ⟨O_20, _, b_20, G_20, _⟩ := R
        have h0_20 : act20.eval (.tmp 0) = v := (hr 0 rfl).trans h0_19
        have h1_20 : act20.eval (.tmp 1) = .int .u8 at_ := (hr 1 rfl).trans h1_19
        have h5_20 : act20.eval (.tmp 5) = v5 := (hr 5 rfl).trans h5_19
        have h7_20 : act20.eval (.tmp 7) = .pointer (some ⟨g7_12, 0, none⟩) := (hr 7 rfl).trans h7_19
        have h13_20 : act20.eval (.tmp 13) = .bool q13 := (hr 13 rfl).trans h13_19
        have h16_20 : act20.eval (.tmp 16) = .bool q16 := (hr 16 rfl).trans h16_19
        have h17_20 : act20.eval (.tmp 17) = v := (hr 17 rfl).trans h17_19
        have h18_20 : act20.eval (.tmp 18) = .int .i64 ((l.length : Nat) : Int) := (hr 18 rfl).trans h18_19
        have h19_20 : act20.eval (.tmp 19) = .int .i64 (k : Nat) := (hr 19 rfl).trans h19_19
        have h20_20 : act20.eval (.tmp 20) = .bool q20 := (hr 20 rfl).trans h20_19
        have h25_20 : act20.eval (.tmp 25) = .bool q25 := (hr 25 rfl).trans h25_19
        have h26_20 : act20.eval (.tmp 26) = v5 := (hr 26 rfl).trans h26_19
        have h27_20 : act20.eval (.tmp 27) = .agg #[.int .i64 ((l.getD k default).1), .int .u64 ((l.getD k default).2)] := (hr 27 rfl).trans h27_19
        have h28_20 : act20.eval (.tmp 28) = v_19 := (hr 28 rfl).trans h28_19
        have h29_20 : act20.eval (.tmp 29) = v_20 := hv
        have d20 := d20.trans d19
        clear hv hr
        have kg7_12_20 := (G_20.block _ lg7_12_19 (Eng.own_ne Ot_19 kg7_12_19 rfl)).trans kg7_12_19
        have lg7_12_20 := Nat.lt_of_lt_of_le lg7_12_19 G_20.size
        have bl20 := bl19.trans b_20
        have Fp_20 := Eng.Reads.below hF bl20
        have Oa20 : w20.ownsRow w.heap.size 30 2 v_20 ((List.take k l) ++ [(((l.getD k default).1), ((l.getD k default).2))]).length (Lat.cellsL ((List.take k l) ++ [(((l.getD k default).1), ((l.getD k default).2))])) := Lat.own_cat (r := [_]) O_20
        have Fa20 := Eng.Reads.of_own Oa20
        refine Eng.tail_val rfl rfl rfl (Eng.run_assign rfl h29_20) s20 rfl fun act21 d21 s21 hv hr => ?_
        have h0_21 : act21.eval (.tmp 0) = v := (hr 0 rfl).trans h0_20
        have h1_21 : act21.eval (.tmp 1) = .int .u8 at_ := (hr 1 rfl).trans h1_20
        have h7_21 : act21.eval (.tmp 7) = .pointer (some ⟨g7_12, 0, none⟩) := (hr 7 rfl).trans h7_20
        have h13_21 : act21.eval (.tmp 13) = .bool q13 := (hr 13 rfl).trans h13_20
        have h16_21 : act21.eval (.tmp 16) = .bool q16 := (hr 16 rfl).trans h16_20
        have h17_21 : act21.eval (.tmp 17) = v := (hr 17 rfl).trans h17_20
        have h18_21 : act21.eval (.tmp 18) = .int .i64 ((l.length : Nat) : Int) := (hr 18 rfl).trans h18_20
        have h19_21 : act21.eval (.tmp 19) = .int .i64 (k : Nat) := (hr 19 rfl).trans h19_20
        have h20_21 : act21.eval (.tmp 20) = .bool q20 := (hr 20 rfl).trans h20_20
        have h25_21 : act21.eval (.tmp 25) = .bool q25 := (hr 25 rfl).trans h25_20
        have h26_21 : act21.eval (.tmp 26) = v5 := (hr 26 rfl).trans h26_20
        have h27_21 : act21.eval (.tmp 27) = .agg #[.int .i64 ((l.getD k default).1), .int .u64 ((l.getD k default).2)] := (hr 27 rfl).trans h27_20
        have h28_21 : act21.eval (.tmp 28) = v_19 := (hr 28 rfl).trans h28_20
        have h29_21 : act21.eval (.tmp 29) = v_20 := (hr 29 rfl).trans h29_20
        have h5_21 : act21.eval (.tmp 5) = v_20 := hv
        have d21 := d21.trans d20
        clear hv hr
        refine Eng.tail_nil ?_
        show Code.wp Tryd.prog _ _ _ _
        refine Eng.regionS (Eng.still [fun u_ => u_ = .int .i64 (IntKind.i64.wrap ((k : Nat) + 1)), fun u_ => u_ = .int .i64 (IntKind.i64.wrap ((k : Nat) + 1))]) (fun i => ([.plain, .plain] : List Eng.Kind).getD i .plain) 2 0 79 s21 rfl (by kernel_rfl) (Eng.still_stable _) (Or.inr (Eng.still_any _)) ?_ ?_
        · refine Eng.Steps.cons (fun _ => ?_) (Eng.Steps.cons (fun _ => ?_) (Eng.Steps.nil))
          · refine Eng.plain rfl rfl fun a w' H => ?_
            refine Eng.val (w1 := w') (v := .int .i64 (IntKind.i64.wrap ((k : Nat) + 1))) ?_ (Below.refl _ _) rfl
            have e0 : a.eval (.tmp 19) = .int .i64 (k : Nat) := ((H.kept 19 (by kernel_rfl)).trans h19_21)
            have e1 : a.eval (.const (.int .i64 1)) = .int .i64 1 := (rfl : a.eval (.const (.int .i64 1)) = .int .i64 1)
            simp only [execOp, resolve, List.map_toArray, List.map_cons, List.map_nil, e0, e1]
            go_simp
            all_goals first | rfl | (simp; done) | (rw [Bool.eq_iff_iff]; simp; done) | omega | skip
          · refine Eng.plain rfl rfl fun a w' H => ?_
            exact Eng.val (w1 := w') (v := .int .i64 (IntKind.i64.wrap ((k : Nat) + 1))) (Eng.run_move rfl (H.dep 0 30 (by kernel_rfl) rfl)) (Below.refl _ _) rfl
        intro act22 w22 T
        have h0_22 : act22.eval (.tmp 0) = v := (T.rest 0 (by kernel_rfl)).trans h0_21
        have h1_22 : act22.eval (.tmp 1) = .int .u8 at_ := (T.rest 1 (by kernel_rfl)).trans h1_21
        have h5_22 : act22.eval (.tmp 5) = v_20 := (T.rest 5 (by kernel_rfl)).trans h5_21
        have h7_22 : act22.eval (.tmp 7) = .pointer (some ⟨g7_12, 0, none⟩) := (T.rest 7 (by kernel_rfl)).trans h7_21
        have h13_22 : act22.eval (.tmp 13) = .bool q13 := (T.rest 13 (by kernel_rfl)).trans h13_21
        have h16_22 : act22.eval (.tmp 16) = .bool q16 := (T.rest 16 (by kernel_rfl)).trans h16_21
        have h17_22 : act22.eval (.tmp 17) = v := (T.rest 17 (by kernel_rfl)).trans h17_21
        have h18_22 : act22.eval (.tmp 18) = .int .i64 ((l.length : Nat) : Int) := (T.rest 18 (by kernel_rfl)).trans h18_21
        have h20_22 : act22.eval (.tmp 20) = .bool q20 := (T.rest 20 (by kernel_rfl)).trans h20_21
        have h25_22 : act22.eval (.tmp 25) = .bool q25 := (T.rest 25 (by kernel_rfl)).trans h25_21
        have kg7_12_22 := (T.below.block _ lg7_12_20).trans kg7_12_20
        have lg7_12_22 := Nat.lt_of_lt_of_le lg7_12_20 T.below.size
        have Fp_22 := Eng.Reads.below Fp_20 T.below
        have Fa20_22 := Eng.Reads.below Fa20 T.below
        have Oa20_22 := Eng.own_below Oa20 T.below
        have h19_22 : act22.eval (.tmp 19) = .int .i64 (IntKind.i64.wrap ((k : Nat) + 1)) := T.done 1 19 rfl rfl
        have d22 := T.defers.trans d21
        have s22 := T.size.trans s21
        have bl22 := bl20.trans (T.below.mono bl20.size)
        clear T
        refine Eng.tail_nil ?_
        exact ⟨_, by omega, k + 1, v_20, rfl, by omega, by rw [Lat.take_one hk0]; exact Oa20_22, Lat.take_lv hk0 hlv (by omega), d22, s22, bl22, h0_22, h1_22, (h5_22.trans (by first | rfl | (congr 1; rw [Eng.i64_id (by omega) (by omega)]; omega) | (simp; done))), h13_22, h16_22, h17_22, h18_22, (h19_22.trans (by first | rfl | (congr 1; rw [Eng.i64_id (by omega) (by omega)]; omega) | (simp; done)))⟩
    ·
      have kn23 := hq
      have c20 := Bq20.symm.trans hq
      clear hq
      have c20 := of_decide_eq_false c20
      have hkl : k = l.length := by omega
      have Ot24 := Ot_10
      rw [hkl, List.take_length] at Ot24
      have Ft24 := Eng.Reads.of_own Ot24
      have hok : ∀ x ∈ l, Lat.ok x := fun x hx => ⟨hlv x (by rw [hkl, List.take_length]; exact hx), hcs x hx⟩
      refine wp_exit ?_
      show Code.wp Tryd.prog _ _ _ _
      show Code.wp Tryd.prog _ _ _ _
      refine wp_seq ?_
      refine Eng.regionS (Eng.still [fun u_ => u_ = v5, fun u_ => u_ = .agg #[.int .i64 ((Lat.allL l).1), .int .u64 ((Lat.allL l).2)], fun u_ => True, fun u_ => True]) (fun i => ([.plain, .plain, .alloc 30 #[.int .i64 0, .int .u64 0], .store 2 #[.int .i64 ((Lat.allL l).1), .int .u64 ((Lat.allL l).2)]] : List Eng.Kind).getD i .plain) 4 0 79 s10 rfl (by kernel_rfl) (Eng.still_stable _) (Or.inr (Eng.still_any _)) ?_ ?_
      · refine Eng.Steps.cons (fun _ => ?_) (Eng.Steps.cons (fun _ => ?_) (Eng.Steps.cons (fun _ => ?_) (Eng.Steps.cons (fun _ => ?_) (Eng.Steps.nil))))
        · refine Eng.plain rfl rfl fun a w' H => ?_
          exact Eng.val (w1 := w') (v := v5) (Eng.run_move rfl ((H.kept 5 (by kernel_rfl)).trans h5_10)) (Below.refl _ _) rfl
        · refine Eng.plain rfl rfl fun a w' H => ?_
          refine Eng.call Tryd.func26 (by kernel_rfl) (by kernel_rfl) rfl #[v5] ?_ ?_
          · have e0 : a.eval (.tmp 31) = v5 := (H.dep 0 31 (by kernel_rfl) rfl); simp only [List.map_toArray, List.map_cons, List.map_nil, e0]
          refine (Lat.all_calls v5 l _ (Eng.Reads.below Ft24 H.below)).mono ?_
          rintro e w'' ⟨rfl, hb⟩
          exact ⟨_, rfl, rfl, hb⟩
        · refine Eng.made rfl (by simp) rfl (fun a w' hd ho => ?_) (fun _ _ => trivial)
          simp only [execOp]
          go_simp
        · refine Eng.stored [.int .i64 ((Lat.allL l).1), .int .u64 ((Lat.allL l).2)] rfl rfl rfl (j := 2) (d := 8) (by kernel_rfl) rfl rfl (Eng.store_uniq (by kernel_rfl)) rfl rfl fun a w' g e hc hd ho => ?_
          have e0 : a.eval _ = .agg #[.int .i64 ((Lat.allL l).1), .int .u64 ((Lat.allL l).2)] := (hd 1 32 (by kernel_rfl) rfl)
          have z0 := (Eng.cells hc 0).trans rfl
          have z1 := (Eng.cells hc 1).trans rfl
          have f0 := Eng.unfrozen hc 0
          have f1 := Eng.unfrozen hc 1
          simp only [execOp, e, e0]
          go_simp
          rfl
      intro act25 w25 T
      have h0_25 : act25.eval (.tmp 0) = v := (T.rest 0 (by kernel_rfl)).trans h0_10
      have h1_25 : act25.eval (.tmp 1) = .int .u8 at_ := (T.rest 1 (by kernel_rfl)).trans h1_10
      have h5_25 : act25.eval (.tmp 5) = v5 := (T.rest 5 (by kernel_rfl)).trans h5_10
      have h13_25 : act25.eval (.tmp 13) = .bool q13 := (T.rest 13 (by kernel_rfl)).trans h13_10
      have h16_25 : act25.eval (.tmp 16) = .bool q16 := (T.rest 16 (by kernel_rfl)).trans h16_10
      have h17_25 : act25.eval (.tmp 17) = v := (T.rest 17 (by kernel_rfl)).trans h17_10
      have h18_25 : act25.eval (.tmp 18) = .int .i64 ((l.length : Nat) : Int) := (T.rest 18 (by kernel_rfl)).trans h18_10
      have h19_25 : act25.eval (.tmp 19) = .int .i64 (k : Nat) := (T.rest 19 (by kernel_rfl)).trans h19_10
      have h20_25 : act25.eval (.tmp 20) = .bool q20 := (T.rest 20 (by kernel_rfl)).trans h20_10
      have Fp_25 := Eng.Reads.below Fp_10 T.below
      have Ft_25 := Eng.Reads.below Ft24 T.below
      have Ot_25 := Eng.own_below Ot24 T.below
      obtain ⟨g8_25, h8_25, rg8_25, lg8_25_25, kg8_25_25⟩ := T.st 2 8 3 _ _ _ rfl rfl rfl rfl rfl
      have og8_25 : w.heap.size ≤ g8_25 := Nat.le_trans bl10.size rg8_25
      have d25 := T.defers.trans d10
      have s25 := T.size.trans s10
      have bl25 := bl10.trans (T.below.mono bl10.size)
      clear T
      refine Eng.tail_nil ?_
      show Code.wp Tryd.prog _ _ _ _
      refine wp_seq ?_
      refine Eng.regionS (Eng.still [fun u_ => u_ = .int .u8 at_, fun u_ => u_ = .int .i64 at_, fun u_ => u_ = v5, fun u_ => u_ = .int .i64 ((l.length : Nat) : Int), fun u_ => u_ = .int .i64 (IntKind.i64.wrap (((l.length : Nat) : Int) + 1)), fun u_ => u_ = .int .i64 (K : Int), fun u_ => u_ = .int .i64 (K : Int)]) (fun i => ([.plain, .plain, .plain, .plain, .plain, .plain, .plain] : List Eng.Kind).getD i .plain) 7 0 79 s25 rfl (by kernel_rfl) (Eng.still_stable _) (Or.inr (Eng.still_any _)) ?_ ?_
      · refine Eng.Steps.cons (fun _ => ?_) (Eng.Steps.cons (fun _ => ?_) (Eng.Steps.cons (fun _ => ?_) (Eng.Steps.cons (fun _ => ?_) (Eng.Steps.cons (fun _ => ?_) (Eng.Steps.cons (fun _ => ?_) (Eng.Steps.cons (fun _ => ?_) (Eng.Steps.nil)))))))
        · refine Eng.plain rfl rfl fun a w' H => ?_
          exact Eng.val (w1 := w') (v := .int .u8 at_) (Eng.run_move rfl ((H.kept 1 (by kernel_rfl)).trans h1_25)) (Below.refl _ _) rfl
        · refine Eng.plain rfl rfl fun a w' H => ?_
          refine Eng.val (w1 := w') (v := .int .i64 at_) ?_ (Below.refl _ _) rfl
          have e0 : a.eval (.tmp 33) = .int .u8 at_ := (H.dep 0 33 (by kernel_rfl) rfl)
          simp only [execOp, resolve, List.map_toArray, List.map_cons, List.map_nil, e0]
          go_simp
          all_goals first | rfl | (rw [Eng.i64_id (by omega) (by omega)]; done) | skip
        · refine Eng.plain rfl rfl fun a w' H => ?_
          exact Eng.val (w1 := w') (v := v5) (Eng.run_move rfl ((H.kept 5 (by kernel_rfl)).trans h5_25)) (Below.refl _ _) rfl
        · refine Eng.plain rfl rfl fun a w' H => ?_
          refine Eng.val (w1 := w') (v := .int .i64 ((l.length : Nat) : Int)) ?_ (Below.refl _ _) rfl
          exact Eng.run_len_sl rfl Tryd.underlying40 (show a.eval (.tmp 35) = v5 from (H.dep 2 35 (by kernel_rfl) rfl)) (Eng.Reads.below Ft_25 H.below)
        · refine Eng.plain rfl rfl fun a w' H => ?_
          refine Eng.val (w1 := w') (v := .int .i64 (IntKind.i64.wrap (((l.length : Nat) : Int) + 1))) ?_ (Below.refl _ _) rfl
          have e0 : a.eval (.tmp 36) = .int .i64 ((l.length : Nat) : Int) := (H.dep 3 36 (by kernel_rfl) rfl)
          have e1 : a.eval (.const (.int .i64 1)) = .int .i64 1 := (rfl : a.eval (.const (.int .i64 1)) = .int .i64 1)
          simp only [execOp, resolve, List.map_toArray, List.map_cons, List.map_nil, e0, e1]
          go_simp
          all_goals first | rfl | (simp; done) | (rw [Bool.eq_iff_iff]; simp; done) | omega | skip
        · refine Eng.plain rfl rfl fun a w' H => ?_
          have hy : IntKind.i64.wrap (((l.length : Nat) : Int) + 1) = ((l.length + 1 : Nat) : Int) := by rw [Eng.i64_id (by omega) (by omega)]; rfl
          have hz : ¬ (l.length : Int) + 1 = 0 := by omega
          refine Eng.val (w1 := w') (v := .int .i64 (K : Int)) ?_ (Below.refl _ _) rfl
          have e0 : a.eval (.tmp 34) = .int .i64 at_ := (H.dep 1 34 (by kernel_rfl) rfl)
          have e1 : a.eval (.tmp 37) = .int .i64 (IntKind.i64.wrap (((l.length : Nat) : Int) + 1)) := (H.dep 4 37 (by kernel_rfl) rfl)
          simp only [execOp, resolve, List.map_toArray, List.map_cons, List.map_nil, e0, e1]
          rw [hy]
          go_simp
          first | done | (rw [if_neg hz, hr]; done) | (simp only [hz, if_false, hr]; done)
        · refine Eng.plain rfl rfl fun a w' H => ?_
          exact Eng.val (w1 := w') (v := .int .i64 (K : Int)) (Eng.run_assign rfl (H.dep 5 38 (by kernel_rfl) rfl)) (Below.refl _ _) rfl
      intro act26 w26 T
      have h0_26 : act26.eval (.tmp 0) = v := (T.rest 0 (by kernel_rfl)).trans h0_25
      have h1_26 : act26.eval (.tmp 1) = .int .u8 at_ := (T.rest 1 (by kernel_rfl)).trans h1_25
      have h5_26 : act26.eval (.tmp 5) = v5 := (T.rest 5 (by kernel_rfl)).trans h5_25
      have h8_26 : act26.eval (.tmp 8) = .pointer (some ⟨g8_25, 0, none⟩) := (T.rest 8 (by kernel_rfl)).trans h8_25
      have h13_26 : act26.eval (.tmp 13) = .bool q13 := (T.rest 13 (by kernel_rfl)).trans h13_25
      have h16_26 : act26.eval (.tmp 16) = .bool q16 := (T.rest 16 (by kernel_rfl)).trans h16_25
      have h17_26 : act26.eval (.tmp 17) = v := (T.rest 17 (by kernel_rfl)).trans h17_25
      have h18_26 : act26.eval (.tmp 18) = .int .i64 ((l.length : Nat) : Int) := (T.rest 18 (by kernel_rfl)).trans h18_25
      have h19_26 : act26.eval (.tmp 19) = .int .i64 (k : Nat) := (T.rest 19 (by kernel_rfl)).trans h19_25
      have h20_26 : act26.eval (.tmp 20) = .bool q20 := (T.rest 20 (by kernel_rfl)).trans h20_25
      have kg8_25_26 := (T.below.block _ lg8_25_25).trans kg8_25_25
      have lg8_25_26 := Nat.lt_of_lt_of_le lg8_25_25 T.below.size
      have Fp_26 := Eng.Reads.below Fp_25 T.below
      have Ft_26 := Eng.Reads.below Ft_25 T.below
      have Ot_26 := Eng.own_below Ot_25 T.below
      have h9_26 : act26.eval (.tmp 9) = .int .i64 (K : Int) := T.done 6 9 rfl rfl
      have d26 := T.defers.trans d25
      have s26 := T.size.trans s25
      have bl26 := bl25.trans (T.below.mono bl25.size)
      clear T
      refine Eng.tail_nil ?_
      show Code.wp Tryd.prog _ _ _ _
      refine wp_seq ?_
      refine wp_seq ?_
      refine Eng.regionS (Eng.still [fun u_ => u_ = v5, fun u_ => u_ = .int .i64 ((l.length : Nat) : Int), fun u_ => u_ = .int .i64 0]) (fun i => ([.plain, .plain, .plain] : List Eng.Kind).getD i .plain) 3 0 79 s26 rfl (by kernel_rfl) (Eng.still_stable _) (Or.inr (Eng.still_any _)) ?_ ?_
      · refine Eng.Steps.cons (fun _ => ?_) (Eng.Steps.cons (fun _ => ?_) (Eng.Steps.cons (fun _ => ?_) (Eng.Steps.nil)))
        · refine Eng.plain rfl rfl fun a w' H => ?_
          exact Eng.val (w1 := w') (v := v5) (Eng.run_move rfl ((H.kept 5 (by kernel_rfl)).trans h5_26)) (Below.refl _ _) rfl
        · refine Eng.plain rfl rfl fun a w' H => ?_
          refine Eng.val (w1 := w') (v := .int .i64 ((l.length : Nat) : Int)) ?_ (Below.refl _ _) rfl
          exact Eng.run_len_sl rfl Tryd.underlying40 (show a.eval (.tmp 39) = v5 from (H.dep 0 39 (by kernel_rfl) rfl)) (Eng.Reads.below Ft_26 H.below)
        · refine Eng.plain rfl rfl fun a w' H => ?_
          exact Eng.val (w1 := w') (v := .int .i64 0) (Eng.run_move rfl (rfl : a.eval (.const (.int .i64 0)) = .int .i64 0)) (Below.refl _ _) rfl
      intro act27 w27 T
      have h0_27 : act27.eval (.tmp 0) = v := (T.rest 0 (by kernel_rfl)).trans h0_26
      have h1_27 : act27.eval (.tmp 1) = .int .u8 at_ := (T.rest 1 (by kernel_rfl)).trans h1_26
      have h5_27 : act27.eval (.tmp 5) = v5 := (T.rest 5 (by kernel_rfl)).trans h5_26
      have h8_27 : act27.eval (.tmp 8) = .pointer (some ⟨g8_25, 0, none⟩) := (T.rest 8 (by kernel_rfl)).trans h8_26
      have h9_27 : act27.eval (.tmp 9) = .int .i64 (K : Int) := (T.rest 9 (by kernel_rfl)).trans h9_26
      have h13_27 : act27.eval (.tmp 13) = .bool q13 := (T.rest 13 (by kernel_rfl)).trans h13_26
      have h16_27 : act27.eval (.tmp 16) = .bool q16 := (T.rest 16 (by kernel_rfl)).trans h16_26
      have h17_27 : act27.eval (.tmp 17) = v := (T.rest 17 (by kernel_rfl)).trans h17_26
      have h18_27 : act27.eval (.tmp 18) = .int .i64 ((l.length : Nat) : Int) := (T.rest 18 (by kernel_rfl)).trans h18_26
      have h19_27 : act27.eval (.tmp 19) = .int .i64 (k : Nat) := (T.rest 19 (by kernel_rfl)).trans h19_26
      have h20_27 : act27.eval (.tmp 20) = .bool q20 := (T.rest 20 (by kernel_rfl)).trans h20_26
      have kg8_25_27 := (T.below.block _ lg8_25_26).trans kg8_25_26
      have lg8_25_27 := Nat.lt_of_lt_of_le lg8_25_26 T.below.size
      have Fp_27 := Eng.Reads.below Fp_26 T.below
      have Ft_27 := Eng.Reads.below Ft_26 T.below
      have Ot_27 := Eng.own_below Ot_26 T.below
      have h39_27 : act27.eval (.tmp 39) = v5 := T.done 0 39 rfl rfl
      have h40_27 : act27.eval (.tmp 40) = .int .i64 ((l.length : Nat) : Int) := T.done 1 40 rfl rfl
      have h41_27 : act27.eval (.tmp 41) = .int .i64 0 := T.done 2 41 rfl rfl
      have d27 := T.defers.trans d26
      have s27 := T.size.trans s26
      have bl27 := bl26.trans (T.below.mono bl26.size)
      clear T
      refine Eng.tail_nil ?_
      show Code.wp Tryd.prog _ _ _ _
      refine wp_block ?_
      refine Eng.loopN (fun n a w' => ∃ (j : Nat), l.length - j = n ∧ (j ≤ l.length) ∧ (w'.ownsRow w.heap.size 30 2 v5 l.length (Lat.cellsL l)) ∧ a.defers = [] ∧ a.tmps.size = 79 ∧ Below w.heap.size w w' ∧ a.eval (.tmp 0) = v ∧ a.eval (.tmp 1) = .int .u8 at_ ∧ a.eval (.tmp 5) = v5 ∧ a.eval (.tmp 8) = .pointer (some ⟨g8_25, 0, none⟩) ∧ a.eval (.tmp 9) = .int .i64 (K : Int) ∧ a.eval (.tmp 13) = .bool q13 ∧ a.eval (.tmp 16) = .bool q16 ∧ a.eval (.tmp 17) = v ∧ a.eval (.tmp 18) = .int .i64 ((l.length : Nat) : Int) ∧ a.eval (.tmp 19) = .int .i64 (k : Nat) ∧ a.eval (.tmp 20) = .bool q20 ∧ a.eval (.tmp 39) = v5 ∧ a.eval (.tmp 40) = .int .i64 ((l.length : Nat) : Int) ∧ a.eval (.tmp 41) = .int .i64 (j : Nat) ∧ w'.heap[g8_25]? = some (.cells (#[.int .i64 ((Lat.allL l).1), .int .u64 ((Lat.allL l).2)]) 30 (0, 0)) ∧ g8_25 < w'.heap.size) (n0 := l.length - 0) ?_ ?_
      · exact ⟨0, rfl, by omega, Ot_27, d27, s27, bl27, h0_27, h1_27, h5_27, h8_27, h9_27, h13_27, h16_27, h17_27, h18_27, h19_27, h20_27, h39_27, h40_27, (h41_27.trans (by first | rfl | (congr 1; rw [Eng.i64_id (by omega) (by omega)]; omega) | (simp; done))), kg8_25_27, lg8_25_27⟩
      rintro n act28 w28 ⟨j, rfl, hc0_28, hc1_28, d28, s28, bl28, h0_28, h1_28, h5_28, h8_28, h9_28, h13_28, h16_28, h17_28, h18_28, h19_28, h20_28, h39_28, h40_28, h41_28, kg8_25_28, lg8_25_28⟩
      have Fp_28 := Eng.Reads.below hF bl28
      have hj1 := hc0_28
      have Ft_28 := Eng.Reads.of_own hc1_28
      refine wp_seq ?_
      obtain ⟨q42, Bq42⟩ : ∃ b : Bool, b = (decide ((j : Nat) < ((l.length : Nat) : Int))) := ⟨_, rfl⟩
      refine Eng.regionS (Eng.still [fun u_ => u_ = .bool q42]) (fun i => ([.plain] : List Eng.Kind).getD i .plain) 1 0 79 s28 rfl (by kernel_rfl) (Eng.still_stable _) (Or.inr (Eng.still_any _)) ?_ ?_
      · refine Eng.Steps.cons (fun _ => ?_) (Eng.Steps.nil)
        · refine Eng.plain rfl rfl fun a w' H => ?_
          refine Eng.val (w1 := w') (v := .bool (decide ((j : Nat) < ((l.length : Nat) : Int)))) ?_ (Below.refl _ _) (by show _ = Value.bool q42; rw [Bq42])
          have e0 : a.eval (.tmp 41) = .int .i64 (j : Nat) := ((H.kept 41 (by kernel_rfl)).trans h41_28)
          have e1 : a.eval (.tmp 40) = .int .i64 ((l.length : Nat) : Int) := ((H.kept 40 (by kernel_rfl)).trans h40_28)
          simp only [execOp, resolve, List.map_toArray, List.map_cons, List.map_nil, e0, e1]
          go_simp
          all_goals first | rfl | (simp; done) | (rw [Bool.eq_iff_iff]; simp; done) | omega | skip
      intro act29 w29 T
      have h0_29 : act29.eval (.tmp 0) = v := (T.rest 0 (by kernel_rfl)).trans h0_28
      have h1_29 : act29.eval (.tmp 1) = .int .u8 at_ := (T.rest 1 (by kernel_rfl)).trans h1_28
      have h5_29 : act29.eval (.tmp 5) = v5 := (T.rest 5 (by kernel_rfl)).trans h5_28
      have h8_29 : act29.eval (.tmp 8) = .pointer (some ⟨g8_25, 0, none⟩) := (T.rest 8 (by kernel_rfl)).trans h8_28
      have h9_29 : act29.eval (.tmp 9) = .int .i64 (K : Int) := (T.rest 9 (by kernel_rfl)).trans h9_28
      have h13_29 : act29.eval (.tmp 13) = .bool q13 := (T.rest 13 (by kernel_rfl)).trans h13_28
      have h16_29 : act29.eval (.tmp 16) = .bool q16 := (T.rest 16 (by kernel_rfl)).trans h16_28
      have h17_29 : act29.eval (.tmp 17) = v := (T.rest 17 (by kernel_rfl)).trans h17_28
      have h18_29 : act29.eval (.tmp 18) = .int .i64 ((l.length : Nat) : Int) := (T.rest 18 (by kernel_rfl)).trans h18_28
      have h19_29 : act29.eval (.tmp 19) = .int .i64 (k : Nat) := (T.rest 19 (by kernel_rfl)).trans h19_28
      have h20_29 : act29.eval (.tmp 20) = .bool q20 := (T.rest 20 (by kernel_rfl)).trans h20_28
      have h39_29 : act29.eval (.tmp 39) = v5 := (T.rest 39 (by kernel_rfl)).trans h39_28
      have h40_29 : act29.eval (.tmp 40) = .int .i64 ((l.length : Nat) : Int) := (T.rest 40 (by kernel_rfl)).trans h40_28
      have h41_29 : act29.eval (.tmp 41) = .int .i64 (j : Nat) := (T.rest 41 (by kernel_rfl)).trans h41_28
      have kg8_25_29 := (T.below.block _ lg8_25_28).trans kg8_25_28
      have lg8_25_29 := Nat.lt_of_lt_of_le lg8_25_28 T.below.size
      have Fp_29 := Eng.Reads.below Fp_28 T.below
      have Ft_29 := Eng.Reads.below Ft_28 T.below
      have Ot_29 := Eng.own_below hc1_28 T.below
      have h42_29 : act29.eval (.tmp 42) = .bool q42 := T.done 0 42 rfl rfl
      have d29 := T.defers.trans d28
      have s29 := T.size.trans s28
      have bl29 := bl28.trans (T.below.mono bl28.size)
      clear T
      refine Eng.tail_nil ?_
      show Code.wp Tryd.prog _ _ _ _
      refine wp_seq ?_
      refine wp_cond_split h42_29 (fun hq => ?_) (fun hq => ?_)
      ·
        have kn30 := hq
        have c42 := Bq42.symm.trans hq
        clear hq
        have c42 := of_decide_eq_true c42
        have hj0 : j < l.length := by omega
        refine wp_skip ?_
        show Code.wp Tryd.prog _ _ _ _
        refine wp_seq ?_
        refine wp_block ?_
        refine wp_seq ?_
        refine Eng.regionS (Eng.still [fun u_ => u_ = Eng.elemPtr v5 (j * 2), fun u_ => u_ = .agg #[.int .i64 ((l.getD j default).1), .int .u64 ((l.getD j default).2)], fun u_ => True, fun u_ => True]) (fun i => ([.plain, .plain, .alloc 30 #[.int .i64 0, .int .u64 0], .store 2 #[.int .i64 ((l.getD j default).1), .int .u64 ((l.getD j default).2)]] : List Eng.Kind).getD i .plain) 4 0 79 s29 rfl (by kernel_rfl) (Eng.still_stable _) (Or.inr (Eng.still_any _)) ?_ ?_
        · refine Eng.Steps.cons (fun _ => ?_) (Eng.Steps.cons (fun _ => ?_) (Eng.Steps.cons (fun _ => ?_) (Eng.Steps.cons (fun _ => ?_) (Eng.Steps.nil))))
          · refine Eng.plain rfl rfl fun a w' H => ?_
            refine Eng.val (w1 := w') (v := Eng.elemPtr v5 (j * 2)) ?_ (Below.refl _ _) rfl
            exact Eng.run_index_sl rfl Tryd.underlying40 (by kernel_rfl) (show a.eval (.tmp 39) = v5 from ((H.kept 39 (by kernel_rfl)).trans h39_29)) ((show a.eval (.tmp 41) = .int .i64 (j : Nat) from ((H.kept 41 (by kernel_rfl)).trans h41_29)).trans (congrArg (Value.int _) (show (j : Nat) = ((j : Nat) : Int) from by omega))) (Eng.Reads.below Ft_29 H.below) (by omega) rfl
          · refine Eng.plain rfl rfl fun a w' H => ?_
            refine Eng.val (w1 := w') (v := .agg #[.int .i64 ((l.getD j default).1), .int .u64 ((l.getD j default).2)]) ?_ (Below.refl _ _) rfl
            exact Eng.run_load_els [.int .i64 ((l.getD j default).1), .int .u64 ((l.getD j default).2)] rfl (show a.eval (.tmp 43) = Eng.elemPtr v5 (j * 2) from (H.dep 0 43 (by kernel_rfl) rfl)) (Eng.Reads.below Ft_29 H.below) (Lat.cells_at l j (by omega)) rfl Tryd.underlying30 rfl (by kernel_rfl)
          · refine Eng.made rfl (by simp) rfl (fun a w' hd ho => ?_) (fun _ _ => trivial)
            simp only [execOp]
            go_simp
          · refine Eng.stored [.int .i64 ((l.getD j default).1), .int .u64 ((l.getD j default).2)] rfl rfl rfl (j := 2) (d := 11) (by kernel_rfl) rfl rfl (Eng.store_uniq (by kernel_rfl)) rfl rfl fun a w' g e hc hd ho => ?_
            have e0 : a.eval _ = .agg #[.int .i64 ((l.getD j default).1), .int .u64 ((l.getD j default).2)] := (hd 1 44 (by kernel_rfl) rfl)
            have z0 := (Eng.cells hc 0).trans rfl
            have z1 := (Eng.cells hc 1).trans rfl
            have f0 := Eng.unfrozen hc 0
            have f1 := Eng.unfrozen hc 1
            simp only [execOp, e, e0]
            go_simp
            rfl
        intro act31 w31 T
        have h0_31 : act31.eval (.tmp 0) = v := (T.rest 0 (by kernel_rfl)).trans h0_29
        have h1_31 : act31.eval (.tmp 1) = .int .u8 at_ := (T.rest 1 (by kernel_rfl)).trans h1_29
        have h5_31 : act31.eval (.tmp 5) = v5 := (T.rest 5 (by kernel_rfl)).trans h5_29
        have h8_31 : act31.eval (.tmp 8) = .pointer (some ⟨g8_25, 0, none⟩) := (T.rest 8 (by kernel_rfl)).trans h8_29
        have h9_31 : act31.eval (.tmp 9) = .int .i64 (K : Int) := (T.rest 9 (by kernel_rfl)).trans h9_29
        have h13_31 : act31.eval (.tmp 13) = .bool q13 := (T.rest 13 (by kernel_rfl)).trans h13_29
        have h16_31 : act31.eval (.tmp 16) = .bool q16 := (T.rest 16 (by kernel_rfl)).trans h16_29
        have h17_31 : act31.eval (.tmp 17) = v := (T.rest 17 (by kernel_rfl)).trans h17_29
        have h18_31 : act31.eval (.tmp 18) = .int .i64 ((l.length : Nat) : Int) := (T.rest 18 (by kernel_rfl)).trans h18_29
        have h19_31 : act31.eval (.tmp 19) = .int .i64 (k : Nat) := (T.rest 19 (by kernel_rfl)).trans h19_29
        have h20_31 : act31.eval (.tmp 20) = .bool q20 := (T.rest 20 (by kernel_rfl)).trans h20_29
        have h39_31 : act31.eval (.tmp 39) = v5 := (T.rest 39 (by kernel_rfl)).trans h39_29
        have h40_31 : act31.eval (.tmp 40) = .int .i64 ((l.length : Nat) : Int) := (T.rest 40 (by kernel_rfl)).trans h40_29
        have h41_31 : act31.eval (.tmp 41) = .int .i64 (j : Nat) := (T.rest 41 (by kernel_rfl)).trans h41_29
        have h42_31 : act31.eval (.tmp 42) = .bool q42 := (T.rest 42 (by kernel_rfl)).trans h42_29
        have kg8_25_31 := (T.below.block _ lg8_25_29).trans kg8_25_29
        have lg8_25_31 := Nat.lt_of_lt_of_le lg8_25_29 T.below.size
        have Fp_31 := Eng.Reads.below Fp_29 T.below
        have Ft_31 := Eng.Reads.below Ft_29 T.below
        have Ot_31 := Eng.own_below Ot_29 T.below
        obtain ⟨g11_31, h11_31, rg11_31, lg11_31_31, kg11_31_31⟩ := T.st 2 11 3 _ _ _ rfl rfl rfl rfl rfl
        have og11_31 : w.heap.size ≤ g11_31 := Nat.le_trans bl29.size rg11_31
        have d31 := T.defers.trans d29
        have s31 := T.size.trans s29
        have bl31 := bl29.trans (T.below.mono bl29.size)
        clear T
        refine Eng.tail_nil ?_
        show Code.wp Tryd.prog _ _ _ _
        refine wp_seq ?_
        obtain ⟨q47, Bq47⟩ : ∃ b : Bool, b = (Lat.ov ((Lat.allL l).1) ((Lat.allL l).2) ((l.getD j default).1) ((l.getD j default).2)) := ⟨_, rfl⟩
        obtain ⟨q48, Bq48⟩ : ∃ b : Bool, b = (!q47) := ⟨_, rfl⟩
        refine Eng.regionS (Eng.still [fun u_ => u_ = .agg #[.int .i64 ((Lat.allL l).1), .int .u64 ((Lat.allL l).2)], fun u_ => u_ = .agg #[.int .i64 ((l.getD j default).1), .int .u64 ((l.getD j default).2)], fun u_ => u_ = .bool q47, fun u_ => u_ = .bool q48]) (fun i => ([.plain, .plain, .plain, .plain] : List Eng.Kind).getD i .plain) 4 0 79 s31 rfl (by kernel_rfl) (Eng.still_stable _) (Or.inr (Eng.still_any _)) ?_ ?_
        · refine Eng.Steps.cons (fun _ => ?_) (Eng.Steps.cons (fun _ => ?_) (Eng.Steps.cons (fun _ => ?_) (Eng.Steps.cons (fun _ => ?_) (Eng.Steps.nil))))
          · refine Eng.plain rfl rfl fun a w' H => ?_
            have kb := (H.below.block _ lg8_25_31).trans kg8_25_31
            have z0 : w'.cell? ⟨g8_25, 0, none⟩ = some (.int .i64 ((Lat.allL l).1)) := (Eng.cells kb 0).trans rfl
            have z1 : w'.cell? ⟨g8_25, 1, none⟩ = some (.int .u64 ((Lat.allL l).2)) := (Eng.cells kb 1).trans rfl
            refine Eng.val (w1 := w') (v := .agg #[.int .i64 ((Lat.allL l).1), .int .u64 ((Lat.allL l).2)]) ?_ (Below.refl _ _) rfl
            have e0 : a.eval (.tmp 8) = .pointer (some ⟨g8_25, 0, none⟩) := ((H.kept 8 (by kernel_rfl)).trans h8_31)
            simp only [execOp, resolve, List.map_toArray, List.map_cons, List.map_nil, e0]
            go_simp
            all_goals first | rfl | (simp; done) | (rw [Bool.eq_iff_iff]; simp; done) | omega | skip
          · refine Eng.plain rfl rfl fun a w' H => ?_
            have kb := (H.below.block _ lg11_31_31).trans kg11_31_31
            have z0 : w'.cell? ⟨g11_31, 0, none⟩ = some (.int .i64 ((l.getD j default).1)) := (Eng.cells kb 0).trans rfl
            have z1 : w'.cell? ⟨g11_31, 1, none⟩ = some (.int .u64 ((l.getD j default).2)) := (Eng.cells kb 1).trans rfl
            refine Eng.val (w1 := w') (v := .agg #[.int .i64 ((l.getD j default).1), .int .u64 ((l.getD j default).2)]) ?_ (Below.refl _ _) rfl
            have e0 : a.eval (.tmp 11) = .pointer (some ⟨g11_31, 0, none⟩) := ((H.kept 11 (by kernel_rfl)).trans h11_31)
            simp only [execOp, resolve, List.map_toArray, List.map_cons, List.map_nil, e0]
            go_simp
            all_goals first | rfl | (simp; done) | (rw [Bool.eq_iff_iff]; simp; done) | omega | skip
          · refine Eng.plain rfl rfl fun a w' H => ?_
            refine Eng.call Tryd.func22 (by kernel_rfl) (by kernel_rfl) rfl #[.agg #[.int .i64 ((Lat.allL l).1), .int .u64 ((Lat.allL l).2)], .agg #[.int .i64 ((l.getD j default).1), .int .u64 ((l.getD j default).2)]] ?_ ?_
            · have e0 : a.eval (.tmp 45) = .agg #[.int .i64 ((Lat.allL l).1), .int .u64 ((Lat.allL l).2)] := (H.dep 0 45 (by kernel_rfl) rfl); have e1 : a.eval (.tmp 46) = .agg #[.int .i64 ((l.getD j default).1), .int .u64 ((l.getD j default).2)] := (H.dep 1 46 (by kernel_rfl) rfl); simp only [List.map_toArray, List.map_cons, List.map_nil, e0, e1]
            refine (lattice_Over.calls ((Lat.allL l).1) ((Lat.allL l).2) ((l.getD j default).1) ((l.getD j default).2) (Lat.ov ((Lat.allL l).1) ((Lat.allL l).2) ((l.getD j default).1) ((l.getD j default).2)) _ (Lat.over ((Lat.allL l).1) ((Lat.allL l).2) ((l.getD j default).1) ((l.getD j default).2))).mono ?_
            rintro e w'' ⟨rfl, hb⟩
            exact ⟨_, rfl, (by show _ = Value.bool q47; rw [Bq47]), hb⟩
          · refine Eng.plain rfl rfl fun a w' H => ?_
            exact Eng.val (w1 := w') (v := .bool (!q47)) (Eng.run_not rfl (H.dep 2 47 (by kernel_rfl) rfl)) (Below.refl _ _) (by show _ = Value.bool q48; rw [Bq48])
        intro act32 w32 T
        have h0_32 : act32.eval (.tmp 0) = v := (T.rest 0 (by kernel_rfl)).trans h0_31
        have h1_32 : act32.eval (.tmp 1) = .int .u8 at_ := (T.rest 1 (by kernel_rfl)).trans h1_31
        have h5_32 : act32.eval (.tmp 5) = v5 := (T.rest 5 (by kernel_rfl)).trans h5_31
        have h8_32 : act32.eval (.tmp 8) = .pointer (some ⟨g8_25, 0, none⟩) := (T.rest 8 (by kernel_rfl)).trans h8_31
        have h9_32 : act32.eval (.tmp 9) = .int .i64 (K : Int) := (T.rest 9 (by kernel_rfl)).trans h9_31
        have h11_32 : act32.eval (.tmp 11) = .pointer (some ⟨g11_31, 0, none⟩) := (T.rest 11 (by kernel_rfl)).trans h11_31
        have h13_32 : act32.eval (.tmp 13) = .bool q13 := (T.rest 13 (by kernel_rfl)).trans h13_31
        have h16_32 : act32.eval (.tmp 16) = .bool q16 := (T.rest 16 (by kernel_rfl)).trans h16_31
        have h17_32 : act32.eval (.tmp 17) = v := (T.rest 17 (by kernel_rfl)).trans h17_31
        have h18_32 : act32.eval (.tmp 18) = .int .i64 ((l.length : Nat) : Int) := (T.rest 18 (by kernel_rfl)).trans h18_31
        have h19_32 : act32.eval (.tmp 19) = .int .i64 (k : Nat) := (T.rest 19 (by kernel_rfl)).trans h19_31
        have h20_32 : act32.eval (.tmp 20) = .bool q20 := (T.rest 20 (by kernel_rfl)).trans h20_31
        have h39_32 : act32.eval (.tmp 39) = v5 := (T.rest 39 (by kernel_rfl)).trans h39_31
        have h40_32 : act32.eval (.tmp 40) = .int .i64 ((l.length : Nat) : Int) := (T.rest 40 (by kernel_rfl)).trans h40_31
        have h41_32 : act32.eval (.tmp 41) = .int .i64 (j : Nat) := (T.rest 41 (by kernel_rfl)).trans h41_31
        have h42_32 : act32.eval (.tmp 42) = .bool q42 := (T.rest 42 (by kernel_rfl)).trans h42_31
        have kg8_25_32 := (T.below.block _ lg8_25_31).trans kg8_25_31
        have lg8_25_32 := Nat.lt_of_lt_of_le lg8_25_31 T.below.size
        have kg11_31_32 := (T.below.block _ lg11_31_31).trans kg11_31_31
        have lg11_31_32 := Nat.lt_of_lt_of_le lg11_31_31 T.below.size
        have Fp_32 := Eng.Reads.below Fp_31 T.below
        have Ft_32 := Eng.Reads.below Ft_31 T.below
        have Ot_32 := Eng.own_below Ot_31 T.below
        have h48_32 : act32.eval (.tmp 48) = .bool q48 := T.done 3 48 rfl rfl
        have d32 := T.defers.trans d31
        have s32 := T.size.trans s31
        have bl32 := bl31.trans (T.below.mono bl31.size)
        clear T
        refine Eng.tail_nil ?_
        show Code.wp Tryd.prog _ _ _ _
        have n48 : q48 = false := by
          simp only [Bq48, Bq47, Bq42, Bq20, Bq16, Bq13, Bq12]
          rw [Lat.ov_all hok (Lat.getD_mem hj0)]; rfl
        refine wp_cond_false (h48_32.trans (by rw [n48])) ?_
        refine wp_skip ?_
        show Code.wp Tryd.prog _ _ _ _
        refine Eng.regionS (Eng.still [fun u_ => u_ = .int .i64 (IntKind.i64.wrap ((j : Nat) + 1)), fun u_ => u_ = .int .i64 (IntKind.i64.wrap ((j : Nat) + 1))]) (fun i => ([.plain, .plain] : List Eng.Kind).getD i .plain) 2 0 79 s32 rfl (by kernel_rfl) (Eng.still_stable _) (Or.inr (Eng.still_any _)) ?_ ?_
        · refine Eng.Steps.cons (fun _ => ?_) (Eng.Steps.cons (fun _ => ?_) (Eng.Steps.nil))
          · refine Eng.plain rfl rfl fun a w' H => ?_
            refine Eng.val (w1 := w') (v := .int .i64 (IntKind.i64.wrap ((j : Nat) + 1))) ?_ (Below.refl _ _) rfl
            have e0 : a.eval (.tmp 41) = .int .i64 (j : Nat) := ((H.kept 41 (by kernel_rfl)).trans h41_32)
            have e1 : a.eval (.const (.int .i64 1)) = .int .i64 1 := (rfl : a.eval (.const (.int .i64 1)) = .int .i64 1)
            simp only [execOp, resolve, List.map_toArray, List.map_cons, List.map_nil, e0, e1]
            go_simp
            all_goals first | rfl | (simp; done) | (rw [Bool.eq_iff_iff]; simp; done) | omega | skip
          · refine Eng.plain rfl rfl fun a w' H => ?_
            exact Eng.val (w1 := w') (v := .int .i64 (IntKind.i64.wrap ((j : Nat) + 1))) (Eng.run_move rfl (H.dep 0 49 (by kernel_rfl) rfl)) (Below.refl _ _) rfl
        intro act33 w33 T
        have h0_33 : act33.eval (.tmp 0) = v := (T.rest 0 (by kernel_rfl)).trans h0_32
        have h1_33 : act33.eval (.tmp 1) = .int .u8 at_ := (T.rest 1 (by kernel_rfl)).trans h1_32
        have h5_33 : act33.eval (.tmp 5) = v5 := (T.rest 5 (by kernel_rfl)).trans h5_32
        have h8_33 : act33.eval (.tmp 8) = .pointer (some ⟨g8_25, 0, none⟩) := (T.rest 8 (by kernel_rfl)).trans h8_32
        have h9_33 : act33.eval (.tmp 9) = .int .i64 (K : Int) := (T.rest 9 (by kernel_rfl)).trans h9_32
        have h11_33 : act33.eval (.tmp 11) = .pointer (some ⟨g11_31, 0, none⟩) := (T.rest 11 (by kernel_rfl)).trans h11_32
        have h13_33 : act33.eval (.tmp 13) = .bool q13 := (T.rest 13 (by kernel_rfl)).trans h13_32
        have h16_33 : act33.eval (.tmp 16) = .bool q16 := (T.rest 16 (by kernel_rfl)).trans h16_32
        have h17_33 : act33.eval (.tmp 17) = v := (T.rest 17 (by kernel_rfl)).trans h17_32
        have h18_33 : act33.eval (.tmp 18) = .int .i64 ((l.length : Nat) : Int) := (T.rest 18 (by kernel_rfl)).trans h18_32
        have h19_33 : act33.eval (.tmp 19) = .int .i64 (k : Nat) := (T.rest 19 (by kernel_rfl)).trans h19_32
        have h20_33 : act33.eval (.tmp 20) = .bool q20 := (T.rest 20 (by kernel_rfl)).trans h20_32
        have h39_33 : act33.eval (.tmp 39) = v5 := (T.rest 39 (by kernel_rfl)).trans h39_32
        have h40_33 : act33.eval (.tmp 40) = .int .i64 ((l.length : Nat) : Int) := (T.rest 40 (by kernel_rfl)).trans h40_32
        have h42_33 : act33.eval (.tmp 42) = .bool q42 := (T.rest 42 (by kernel_rfl)).trans h42_32
        have h48_33 : act33.eval (.tmp 48) = .bool q48 := (T.rest 48 (by kernel_rfl)).trans h48_32
        have kg8_25_33 := (T.below.block _ lg8_25_32).trans kg8_25_32
        have lg8_25_33 := Nat.lt_of_lt_of_le lg8_25_32 T.below.size
        have kg11_31_33 := (T.below.block _ lg11_31_32).trans kg11_31_32
        have lg11_31_33 := Nat.lt_of_lt_of_le lg11_31_32 T.below.size
        have Fp_33 := Eng.Reads.below Fp_32 T.below
        have Ft_33 := Eng.Reads.below Ft_32 T.below
        have Ot_33 := Eng.own_below Ot_32 T.below
        have h41_33 : act33.eval (.tmp 41) = .int .i64 (IntKind.i64.wrap ((j : Nat) + 1)) := T.done 1 41 rfl rfl
        have d33 := T.defers.trans d32
        have s33 := T.size.trans s32
        have bl33 := bl32.trans (T.below.mono bl32.size)
        clear T
        refine Eng.tail_nil ?_
        exact ⟨_, by omega, j + 1, rfl, by omega, Ot_33, d33, s33, bl33, h0_33, h1_33, h5_33, h8_33, h9_33, h13_33, h16_33, h17_33, h18_33, h19_33, h20_33, h39_33, h40_33, (h41_33.trans (by first | rfl | (congr 1; rw [Eng.i64_id (by omega) (by omega)]; omega) | (simp; done))), kg8_25_33, lg8_25_33⟩
      ·
        have kn34 := hq
        have c42 := Bq42.symm.trans hq
        clear hq
        have c42 := of_decide_eq_false c42
        refine wp_exit ?_
        show Code.wp Tryd.prog _ _ _ _
        show Code.wp Tryd.prog _ _ _ _
        refine wp_seq ?_
        obtain ⟨q60, Bq60⟩ : ∃ b : Bool, b = (((Lat.allL ((List.take (l.length - K) (List.drop K l)) ++ (List.take (K - 0) (List.drop 0 l)))).1) == ((Lat.allL l).1) && (((Lat.allL ((List.take (l.length - K) (List.drop K l)) ++ (List.take (K - 0) (List.drop 0 l)))).2) == ((Lat.allL l).2))) := ⟨_, rfl⟩
        obtain ⟨q72, Bq72⟩ : ∃ b : Bool, b = ((mx ((Lat.allL (List.take (K - 0) (List.drop 0 l))).1) ((Lat.allL (List.take (l.length - K) (List.drop K l))).1)) == ((Lat.allL l).1) && ((Go.bits .or .u64 ((Lat.allL (List.take (K - 0) (List.drop 0 l))).2) ((Lat.allL (List.take (l.length - K) (List.drop K l))).2)) == ((Lat.allL l).2))) := ⟨_, rfl⟩
        obtain ⟨q73, Bq73⟩ : ∃ b : Bool, b = (q60 && q72) := ⟨_, rfl⟩
        obtain ⟨q77, Bq77⟩ : ∃ b : Bool, b = (0 == 0 && (0 == 0)) := ⟨_, rfl⟩
        obtain ⟨q78, Bq78⟩ : ∃ b : Bool, b = (q73 && q77) := ⟨_, rfl⟩
        refine Eng.regionD (Eng.tell [.still fun u_ => u_ = v5, .still fun u_ => u_ = .int .i64 (K : Int), .still fun u_ => u_ = Eng.cutVal v5 K l.length 2, .own w29.heap.size 30 2 (List.take (l.length - K) (List.drop K l)).length (Lat.cellsL (List.take (l.length - K) (List.drop K l))), .still fun u_ => u_ = v5, .still fun u_ => u_ = .int .i64 (K : Int), .still fun u_ => u_ = Eng.cutVal v5 0 K 2, .own w29.heap.size 30 2 ((List.take (l.length - K) (List.drop K l)) ++ (List.take (K - 0) (List.drop 0 l))).length (Lat.cellsL ((List.take (l.length - K) (List.drop K l)) ++ (List.take (K - 0) (List.drop 0 l)))), .still fun u_ => u_ = .agg #[.int .i64 ((Lat.allL ((List.take (l.length - K) (List.drop K l)) ++ (List.take (K - 0) (List.drop 0 l)))).1), .int .u64 ((Lat.allL ((List.take (l.length - K) (List.drop K l)) ++ (List.take (K - 0) (List.drop 0 l)))).2)], .still fun u_ => u_ = .agg #[.int .i64 ((Lat.allL l).1), .int .u64 ((Lat.allL l).2)], .still fun u_ => u_ = .bool q60, .still fun u_ => u_ = .bool q60, .still fun u_ => u_ = bif (q60 == true) then (v5) else undef, .still fun u_ => u_ = bif (q60 == true) then (.int .i64 (K : Int)) else undef, .still fun u_ => u_ = bif (q60 == true) then (Eng.cutVal v5 0 K 2) else undef, .still fun u_ => u_ = bif (q60 == true) then (.agg #[.int .i64 ((Lat.allL (List.take (K - 0) (List.drop 0 l))).1), .int .u64 ((Lat.allL (List.take (K - 0) (List.drop 0 l))).2)]) else undef, .still fun u_ => u_ = bif (q60 == true) then (v5) else undef, .still fun u_ => u_ = bif (q60 == true) then (.int .i64 (K : Int)) else undef, .still fun u_ => u_ = bif (q60 == true) then (Eng.cutVal v5 K l.length 2) else undef, .still fun u_ => u_ = bif (q60 == true) then (.agg #[.int .i64 ((Lat.allL (List.take (l.length - K) (List.drop K l))).1), .int .u64 ((Lat.allL (List.take (l.length - K) (List.drop K l))).2)]) else undef, .still fun u_ => u_ = bif (q60 == true) then (.agg #[.int .i64 (mx ((Lat.allL (List.take (K - 0) (List.drop 0 l))).1) ((Lat.allL (List.take (l.length - K) (List.drop K l))).1)), .int .u64 (Go.bits .or .u64 ((Lat.allL (List.take (K - 0) (List.drop 0 l))).2) ((Lat.allL (List.take (l.length - K) (List.drop K l))).2))]) else undef, .still fun u_ => u_ = bif (q60 == true) then (.agg #[.int .i64 ((Lat.allL l).1), .int .u64 ((Lat.allL l).2)]) else undef, .still fun u_ => u_ = bif (q60 == true) then (.bool q72) else undef, .still fun u_ => u_ = .bool q73, .still fun u_ => u_ = .bool q73, .still fun u_ => u_ = bif (q73 == true) then (.agg #[.int .i64 0, .int .u64 0]) else undef, .still fun u_ => u_ = bif (q73 == true) then (.agg #[.int .i64 0, .int .u64 0]) else undef, .still fun u_ => u_ = bif (q73 == true) then (.bool q77) else undef, .still fun u_ => u_ = .bool q78, .still fun u_ => u_ = .bool q78]) (fun i => ([.plain, .plain, .plain, .plain, .plain, .plain, .plain, .eats, .plain, .plain, .plain, .plain, .plain, .plain, .plain, .plain, .plain, .plain, .plain, .plain, .plain, .plain, .plain, .plain, .plain, .plain, .plain, .plain, .plain, .plain] : List Eng.Kind).getD i .plain) 30 0 79 (by kernel_rfl) s29 rfl (by kernel_rfl) (Eng.tell_stable _) (Or.inl (Eng.no_stores (by kernel_rfl))) ?_ ?_
        · refine Eng.Steps.cons (fun _ => ?_) (Eng.Steps.cons (fun _ => ?_) (Eng.Steps.cons (fun _ => ?_) (Eng.Steps.cons (fun _ => ?_) (Eng.Steps.cons (fun _ => ?_) (Eng.Steps.cons (fun _ => ?_) (Eng.Steps.cons (fun _ => ?_) (Eng.Steps.cons (fun _ => ?_) (Eng.Steps.cons (fun _ => ?_) (Eng.Steps.cons (fun _ => ?_) (Eng.Steps.cons (fun _ => ?_) (Eng.Steps.cons (fun _ => ?_) (Eng.Steps.cons (fun _ => ?_) (Eng.Steps.cons (fun _ => ?_) (Eng.Steps.cons (fun _ => ?_) (Eng.Steps.cons (fun _ => ?_) (Eng.Steps.cons (fun _ => ?_) (Eng.Steps.cons (fun _ => ?_) (Eng.Steps.cons (fun _ => ?_) (Eng.Steps.cons (fun _ => ?_) (Eng.Steps.cons (fun _ => ?_) (Eng.Steps.cons (fun _ => ?_) (Eng.Steps.cons (fun _ => ?_) (Eng.Steps.cons (fun _ => ?_) (Eng.Steps.cons (fun _ => ?_) (Eng.Steps.cons (fun _ => ?_) (Eng.Steps.cons (fun _ => ?_) (Eng.Steps.cons (fun _ => ?_) (Eng.Steps.cons (fun _ => ?_) (Eng.Steps.cons (fun _ => ?_) (Eng.Steps.nil))))))))))))))))))))))))))))))
          · refine Eng.plain rfl rfl fun a w' H => ?_
            exact Eng.val (w1 := w') (v := v5) (Eng.run_move rfl ((H.kept 5 (by kernel_rfl)).trans h5_29)) (Below.refl _ _) rfl
          · refine Eng.plain rfl rfl fun a w' H => ?_
            exact Eng.val (w1 := w') (v := .int .i64 (K : Int)) (Eng.run_move rfl ((H.kept 9 (by kernel_rfl)).trans h9_29)) (Below.refl _ _) rfl
          · refine Eng.plain rfl rfl fun a w' H => ?_
            refine Eng.val (w1 := w') (v := Eng.cutVal v5 K l.length 2) ?_ (Below.refl _ _) rfl
            exact Eng.run_cutv (l := K) (h := l.length) (size := 2) rfl Tryd.underlying40 (by kernel_rfl) (show a.eval (.tmp 50) = v5 from (H.dep 0 50 (by kernel_rfl) rfl)) (Eng.Reads.below Ft_29 H.below) (congrArg some (show a.eval (.tmp 51) = .int .i64 (K : Int) from (H.dep 1 51 (by kernel_rfl) rfl))) rfl (Or.inr ⟨_, rfl⟩) (Or.inl ⟨rfl, rfl⟩) (by omega) (by omega)
          · refine Eng.plain rfl rfl fun a w' H => ?_
            refine Eng.val_ex (Eng.run_appendI (B := w'.heap.size) (z := .agg #[.int .i64 0, .int .u64 0]) rfl Tryd.underlying40 (by kernel_rfl) rfl rfl (rfl : a.eval (.const (.slice none 0 0)) = .slice none 0 0) (World.ownsRow_nil w' w'.heap.size 30 2) (show a.eval (.tmp 52) = Eng.cutVal v5 K l.length 2 from (H.dep 2 52 (by kernel_rfl) rfl)) (Lat.cut_reads (a := K) (b := l.length) (Eng.Reads.below Ft_29 H.below) (by omega) (by omega)) (Lat.cells_one _) (by simp only [List.length_take, List.length_drop]; omega) (Nat.le_refl _)) fun v1 w'' R => ?_
            obtain ⟨O, _, hb, _, _⟩ := R
            exact ⟨hb, Eng.own_mono (Lat.own_nil_cat O) H.below.size⟩
          · refine Eng.plain rfl rfl fun a w' H => ?_
            exact Eng.val (w1 := w') (v := v5) (Eng.run_move rfl ((H.kept 5 (by kernel_rfl)).trans h5_29)) (Below.refl _ _) rfl
          · refine Eng.plain rfl rfl fun a w' H => ?_
            exact Eng.val (w1 := w') (v := .int .i64 (K : Int)) (Eng.run_move rfl ((H.kept 9 (by kernel_rfl)).trans h9_29)) (Below.refl _ _) rfl
          · refine Eng.plain rfl rfl fun a w' H => ?_
            refine Eng.val (w1 := w') (v := Eng.cutVal v5 0 K 2) ?_ (Below.refl _ _) rfl
            exact Eng.run_cutv (l := 0) (h := K) (size := 2) rfl Tryd.underlying40 (by kernel_rfl) (show a.eval (.tmp 54) = v5 from (H.dep 4 54 (by kernel_rfl) rfl)) (Eng.Reads.below Ft_29 H.below) rfl (congrArg some (show a.eval (.tmp 55) = .int .i64 (K : Int) from (H.dep 5 55 (by kernel_rfl) rfl))) (Or.inl ⟨rfl, rfl⟩) (Or.inr ⟨_, rfl⟩) (by omega) (by omega)
          · refine Eng.eats (e := 3) (d := 53) rfl rfl (Eng.no_allocs (by kernel_rfl)) (by kernel_rfl) rfl rfl rfl (by kernel_rfl) fun a w' H OO => ?_
            refine Eng.ex_mono (Eng.run_appendI (B := w29.heap.size) (z := .agg #[.int .i64 0, .int .u64 0]) rfl Tryd.underlying40 (by kernel_rfl) rfl rfl (rfl : a.eval (.tmp 53) = a.eval (.tmp 53)) OO (show a.eval (.tmp 56) = Eng.cutVal v5 0 K 2 from (H.dep 6 56 (by kernel_rfl) rfl)) (Lat.cut_reads (a := 0) (b := K) (Eng.Reads.below Ft_29 H.below) (by omega) (by omega)) (Lat.cells_one _) (by simp only [List.length_take, List.length_drop]; omega) H.below.size) fun v1 w'' R => ?_
            obtain ⟨O, O2, hb, _, _⟩ := R
            exact ⟨hb, Lat.own_cat O, O2⟩
          · refine Eng.plain rfl rfl fun a w' H => ?_
            refine Eng.call Tryd.func26 (by kernel_rfl) (by kernel_rfl) rfl #[(a.eval (.tmp 57))] ?_ ?_
            · simp only [List.map_toArray, List.map_cons, List.map_nil]
            refine (Lat.all_calls (a.eval (.tmp 57)) ((List.take (l.length - K) (List.drop K l)) ++ (List.take (K - 0) (List.drop 0 l))) _ (Eng.Reads.of_own (H.dep 7 57 (by kernel_rfl) rfl))).mono ?_
            rintro e w'' ⟨rfl, hb⟩
            exact ⟨_, rfl, rfl, hb⟩
          · refine Eng.plain rfl rfl fun a w' H => ?_
            have kb := (H.below.block _ lg8_25_29).trans kg8_25_29
            have z0 : w'.cell? ⟨g8_25, 0, none⟩ = some (.int .i64 ((Lat.allL l).1)) := (Eng.cells kb 0).trans rfl
            have z1 : w'.cell? ⟨g8_25, 1, none⟩ = some (.int .u64 ((Lat.allL l).2)) := (Eng.cells kb 1).trans rfl
            refine Eng.val (w1 := w') (v := .agg #[.int .i64 ((Lat.allL l).1), .int .u64 ((Lat.allL l).2)]) ?_ (Below.refl _ _) rfl
            have e0 : a.eval (.tmp 8) = .pointer (some ⟨g8_25, 0, none⟩) := ((H.kept 8 (by kernel_rfl)).trans h8_29)
            simp only [execOp, resolve, List.map_toArray, List.map_cons, List.map_nil, e0]
            go_simp
            all_goals first | rfl | (simp; done) | (rw [Bool.eq_iff_iff]; simp; done) | omega | skip
          · refine Eng.plain rfl rfl fun a w' H => ?_
            refine Eng.val (w1 := w') (v := .bool (((Lat.allL ((List.take (l.length - K) (List.drop K l)) ++ (List.take (K - 0) (List.drop 0 l)))).1) == ((Lat.allL l).1) && (((Lat.allL ((List.take (l.length - K) (List.drop K l)) ++ (List.take (K - 0) (List.drop 0 l)))).2) == ((Lat.allL l).2)))) ?_ (Below.refl _ _) (by show _ = Value.bool q60; rw [Bq60])
            have e0 : a.eval (.tmp 58) = .agg #[.int .i64 ((Lat.allL ((List.take (l.length - K) (List.drop K l)) ++ (List.take (K - 0) (List.drop 0 l)))).1), .int .u64 ((Lat.allL ((List.take (l.length - K) (List.drop K l)) ++ (List.take (K - 0) (List.drop 0 l)))).2)] := (H.dep 8 58 (by kernel_rfl) rfl)
            have e1 : a.eval (.tmp 59) = .agg #[.int .i64 ((Lat.allL l).1), .int .u64 ((Lat.allL l).2)] := (H.dep 9 59 (by kernel_rfl) rfl)
            simp only [execOp, resolve, List.map_toArray, List.map_cons, List.map_nil, e0, e1]
            go_simp
            all_goals first | rfl | (simp; done) | (rw [Bool.eq_iff_iff]; simp; done) | omega | skip
          · refine Eng.plain rfl rfl fun a w' H => ?_
            exact Eng.val (w1 := w') (v := .bool q60) (Eng.run_move rfl (H.dep 10 60 (by kernel_rfl) rfl)) (Below.refl _ _) rfl
          · refine Eng.guarded1 (j := 11) (d := 61) (b := q60) rfl rfl (by kernel_rfl) rfl (fun v w h => h) (fun hG w => Eng.off hG) fun hG a w' H => ?_
            exact Eng.val (w1 := w') (v := v5) (Eng.run_move rfl ((H.kept 5 (by kernel_rfl)).trans h5_29)) (Below.refl _ _) (Eng.off' hG rfl)
          · refine Eng.guarded1 (j := 11) (d := 61) (b := q60) rfl rfl (by kernel_rfl) rfl (fun v w h => h) (fun hG w => Eng.off hG) fun hG a w' H => ?_
            exact Eng.val (w1 := w') (v := .int .i64 (K : Int)) (Eng.run_move rfl ((H.kept 9 (by kernel_rfl)).trans h9_29)) (Below.refl _ _) (Eng.off' hG rfl)
          · refine Eng.guarded1 (j := 11) (d := 61) (b := q60) rfl rfl (by kernel_rfl) rfl (fun v w h => h) (fun hG w => Eng.off hG) fun hG a w' H => ?_
            refine Eng.val (w1 := w') (v := Eng.cutVal v5 0 K 2) ?_ (Below.refl _ _) (Eng.off' hG rfl)
            exact Eng.run_cutv (l := 0) (h := K) (size := 2) rfl Tryd.underlying40 (by kernel_rfl) (show a.eval (.tmp 62) = v5 from (Eng.on (H.dep 12 62 (by kernel_rfl) rfl) hG)) (Eng.Reads.below Ft_29 H.below) rfl (congrArg some (show a.eval (.tmp 63) = .int .i64 (K : Int) from (Eng.on (H.dep 13 63 (by kernel_rfl) rfl) hG))) (Or.inl ⟨rfl, rfl⟩) (Or.inr ⟨_, rfl⟩) (by omega) (by omega)
          · refine Eng.guarded1 (j := 11) (d := 61) (b := q60) rfl rfl (by kernel_rfl) rfl (fun v w h => h) (fun hG w => Eng.off hG) fun hG a w' H => ?_
            refine Eng.call Tryd.func26 (by kernel_rfl) (by kernel_rfl) rfl #[Eng.cutVal v5 0 K 2] ?_ ?_
            · have e0 : a.eval (.tmp 64) = Eng.cutVal v5 0 K 2 := (Eng.on (H.dep 14 64 (by kernel_rfl) rfl) hG); simp only [List.map_toArray, List.map_cons, List.map_nil, e0]
            refine (Lat.all_calls (Eng.cutVal v5 0 K 2) (List.take (K - 0) (List.drop 0 l)) _ (Lat.cut_reads (a := 0) (b := K) (Eng.Reads.below Ft_29 H.below) (by omega) (by omega))).mono ?_
            rintro e w'' ⟨rfl, hb⟩
            exact ⟨_, rfl, (Eng.off' hG rfl), hb⟩
          · refine Eng.guarded1 (j := 11) (d := 61) (b := q60) rfl rfl (by kernel_rfl) rfl (fun v w h => h) (fun hG w => Eng.off hG) fun hG a w' H => ?_
            exact Eng.val (w1 := w') (v := v5) (Eng.run_move rfl ((H.kept 5 (by kernel_rfl)).trans h5_29)) (Below.refl _ _) (Eng.off' hG rfl)
          · refine Eng.guarded1 (j := 11) (d := 61) (b := q60) rfl rfl (by kernel_rfl) rfl (fun v w h => h) (fun hG w => Eng.off hG) fun hG a w' H => ?_
            exact Eng.val (w1 := w') (v := .int .i64 (K : Int)) (Eng.run_move rfl ((H.kept 9 (by kernel_rfl)).trans h9_29)) (Below.refl _ _) (Eng.off' hG rfl)
          · refine Eng.guarded1 (j := 11) (d := 61) (b := q60) rfl rfl (by kernel_rfl) rfl (fun v w h => h) (fun hG w => Eng.off hG) fun hG a w' H => ?_
            refine Eng.val (w1 := w') (v := Eng.cutVal v5 K l.length 2) ?_ (Below.refl _ _) (Eng.off' hG rfl)
            exact Eng.run_cutv (l := K) (h := l.length) (size := 2) rfl Tryd.underlying40 (by kernel_rfl) (show a.eval (.tmp 66) = v5 from (Eng.on (H.dep 16 66 (by kernel_rfl) rfl) hG)) (Eng.Reads.below Ft_29 H.below) (congrArg some (show a.eval (.tmp 67) = .int .i64 (K : Int) from (Eng.on (H.dep 17 67 (by kernel_rfl) rfl) hG))) rfl (Or.inr ⟨_, rfl⟩) (Or.inl ⟨rfl, rfl⟩) (by omega) (by omega)
          · refine Eng.guarded1 (j := 11) (d := 61) (b := q60) rfl rfl (by kernel_rfl) rfl (fun v w h => h) (fun hG w => Eng.off hG) fun hG a w' H => ?_
            refine Eng.call Tryd.func26 (by kernel_rfl) (by kernel_rfl) rfl #[Eng.cutVal v5 K l.length 2] ?_ ?_
            · have e0 : a.eval (.tmp 68) = Eng.cutVal v5 K l.length 2 := (Eng.on (H.dep 18 68 (by kernel_rfl) rfl) hG); simp only [List.map_toArray, List.map_cons, List.map_nil, e0]
            refine (Lat.all_calls (Eng.cutVal v5 K l.length 2) (List.take (l.length - K) (List.drop K l)) _ (Lat.cut_reads (a := K) (b := l.length) (Eng.Reads.below Ft_29 H.below) (by omega) (by omega))).mono ?_
            rintro e w'' ⟨rfl, hb⟩
            exact ⟨_, rfl, (Eng.off' hG rfl), hb⟩
          · refine Eng.guarded1 (j := 11) (d := 61) (b := q60) rfl rfl (by kernel_rfl) rfl (fun v w h => h) (fun hG w => Eng.off hG) fun hG a w' H => ?_
            refine Eng.call Tryd.func18 (by kernel_rfl) (by kernel_rfl) rfl #[.agg #[.int .i64 ((Lat.allL (List.take (K - 0) (List.drop 0 l))).1), .int .u64 ((Lat.allL (List.take (K - 0) (List.drop 0 l))).2)], .agg #[.int .i64 ((Lat.allL (List.take (l.length - K) (List.drop K l))).1), .int .u64 ((Lat.allL (List.take (l.length - K) (List.drop K l))).2)]] ?_ ?_
            · have e0 : a.eval (.tmp 65) = .agg #[.int .i64 ((Lat.allL (List.take (K - 0) (List.drop 0 l))).1), .int .u64 ((Lat.allL (List.take (K - 0) (List.drop 0 l))).2)] := (Eng.on (H.dep 15 65 (by kernel_rfl) rfl) hG); have e1 : a.eval (.tmp 69) = .agg #[.int .i64 ((Lat.allL (List.take (l.length - K) (List.drop K l))).1), .int .u64 ((Lat.allL (List.take (l.length - K) (List.drop K l))).2)] := (Eng.on (H.dep 19 69 (by kernel_rfl) rfl) hG); simp only [List.map_toArray, List.map_cons, List.map_nil, e0, e1]
            refine (lattice_Join.calls ((Lat.allL (List.take (K - 0) (List.drop 0 l))).1) ((Lat.allL (List.take (K - 0) (List.drop 0 l))).2) ((Lat.allL (List.take (l.length - K) (List.drop K l))).1) ((Lat.allL (List.take (l.length - K) (List.drop K l))).2) _ _ _ (Lat.join ((Lat.allL (List.take (K - 0) (List.drop 0 l))).1) ((Lat.allL (List.take (K - 0) (List.drop 0 l))).2) ((Lat.allL (List.take (l.length - K) (List.drop K l))).1) ((Lat.allL (List.take (l.length - K) (List.drop K l))).2))).mono ?_
            rintro e w'' ⟨rfl, hb⟩
            exact ⟨_, rfl, (Eng.off' hG rfl), hb⟩
          · refine Eng.guarded1 (j := 11) (d := 61) (b := q60) rfl rfl (by kernel_rfl) rfl (fun v w h => h) (fun hG w => Eng.off hG) fun hG a w' H => ?_
            have kb := (H.below.block _ lg8_25_29).trans kg8_25_29
            have z0 : w'.cell? ⟨g8_25, 0, none⟩ = some (.int .i64 ((Lat.allL l).1)) := (Eng.cells kb 0).trans rfl
            have z1 : w'.cell? ⟨g8_25, 1, none⟩ = some (.int .u64 ((Lat.allL l).2)) := (Eng.cells kb 1).trans rfl
            refine Eng.val (w1 := w') (v := .agg #[.int .i64 ((Lat.allL l).1), .int .u64 ((Lat.allL l).2)]) ?_ (Below.refl _ _) (Eng.off' hG rfl)
            have e0 : a.eval (.tmp 8) = .pointer (some ⟨g8_25, 0, none⟩) := ((H.kept 8 (by kernel_rfl)).trans h8_29)
            simp only [execOp, resolve, List.map_toArray, List.map_cons, List.map_nil, e0]
            go_simp
            all_goals first | rfl | (simp; done) | (rw [Bool.eq_iff_iff]; simp; done) | omega | skip
          · refine Eng.guarded1 (j := 11) (d := 61) (b := q60) rfl rfl (by kernel_rfl) rfl (fun v w h => h) (fun hG w => Eng.off hG) fun hG a w' H => ?_
            refine Eng.val (w1 := w') (v := .bool ((mx ((Lat.allL (List.take (K - 0) (List.drop 0 l))).1) ((Lat.allL (List.take (l.length - K) (List.drop K l))).1)) == ((Lat.allL l).1) && ((Go.bits .or .u64 ((Lat.allL (List.take (K - 0) (List.drop 0 l))).2) ((Lat.allL (List.take (l.length - K) (List.drop K l))).2)) == ((Lat.allL l).2)))) ?_ (Below.refl _ _) (Eng.off' hG (by rw [Bq72]))
            have e0 : a.eval (.tmp 70) = .agg #[.int .i64 (mx ((Lat.allL (List.take (K - 0) (List.drop 0 l))).1) ((Lat.allL (List.take (l.length - K) (List.drop K l))).1)), .int .u64 (Go.bits .or .u64 ((Lat.allL (List.take (K - 0) (List.drop 0 l))).2) ((Lat.allL (List.take (l.length - K) (List.drop K l))).2))] := (Eng.on (H.dep 20 70 (by kernel_rfl) rfl) hG)
            have e1 : a.eval (.tmp 71) = .agg #[.int .i64 ((Lat.allL l).1), .int .u64 ((Lat.allL l).2)] := (Eng.on (H.dep 21 71 (by kernel_rfl) rfl) hG)
            simp only [execOp, resolve, List.map_toArray, List.map_cons, List.map_nil, e0, e1]
            go_simp
            all_goals first | rfl | (simp; done) | (rw [Bool.eq_iff_iff]; simp; done) | omega | skip
          · refine Eng.plain rfl rfl fun a w' H => ?_
            exact Eng.val (w1 := w') (v := .bool (q60 && q72)) (Eng.run_and rfl rfl (G := true) (H.dep 11 61 (by kernel_rfl) rfl) (fun hb => (Eng.on (H.dep 22 72 (by kernel_rfl) rfl) (Eng.mk1 hb)))) (Below.refl _ _) (by show _ = Value.bool q73; rw [Bq73])
          · refine Eng.plain rfl rfl fun a w' H => ?_
            exact Eng.val (w1 := w') (v := .bool q73) (Eng.run_move rfl (H.dep 23 73 (by kernel_rfl) rfl)) (Below.refl _ _) rfl
          · refine Eng.guarded1 (j := 24) (d := 74) (b := q73) rfl rfl (by kernel_rfl) rfl (fun v w h => h) (fun hG w => Eng.off hG) fun hG a w' H => ?_
            refine Eng.call Tryd.func26 (by kernel_rfl) (by kernel_rfl) rfl #[.slice none 0 0] ?_ ?_
            · have e0 : a.eval (.const (.slice none 0 0)) = .slice none 0 0 := (rfl : a.eval (.const (.slice none 0 0)) = .slice none 0 0); simp only [List.map_toArray, List.map_cons, List.map_nil, e0]
            refine (Lat.all_calls (.slice none 0 0) [] _ (Eng.Reads.nil _ 2)).mono ?_
            rintro e w'' ⟨rfl, hb⟩
            exact ⟨_, rfl, (Eng.off' hG rfl), hb⟩
          · refine Eng.guarded1 (j := 24) (d := 74) (b := q73) rfl rfl (by kernel_rfl) rfl (fun v w h => h) (fun hG w => Eng.off hG) fun hG a w' H => ?_
            refine Eng.val (w1 := w') (v := .agg #[.int .i64 0, .int .u64 0]) ?_ (Below.refl _ _) (Eng.off' hG rfl)
            simp only [execOp, resolve, List.map_toArray, List.map_cons, List.map_nil]
            go_simp
            all_goals first | rfl | (simp; done) | (rw [Bool.eq_iff_iff]; simp; done) | omega | skip
          · refine Eng.guarded1 (j := 24) (d := 74) (b := q73) rfl rfl (by kernel_rfl) rfl (fun v w h => h) (fun hG w => Eng.off hG) fun hG a w' H => ?_
            refine Eng.val (w1 := w') (v := .bool (0 == 0 && (0 == 0))) ?_ (Below.refl _ _) (Eng.off' hG (by rw [Bq77]))
            have e0 : a.eval (.tmp 75) = .agg #[.int .i64 0, .int .u64 0] := (Eng.on (H.dep 25 75 (by kernel_rfl) rfl) hG)
            have e1 : a.eval (.tmp 76) = .agg #[.int .i64 0, .int .u64 0] := (Eng.on (H.dep 26 76 (by kernel_rfl) rfl) hG)
            simp only [execOp, resolve, List.map_toArray, List.map_cons, List.map_nil, e0, e1]
            go_simp
            all_goals first | rfl | (simp; done) | (rw [Bool.eq_iff_iff]; simp; done) | omega | skip
          · refine Eng.plain rfl rfl fun a w' H => ?_
            exact Eng.val (w1 := w') (v := .bool (q73 && q77)) (Eng.run_and rfl rfl (G := true) (H.dep 24 74 (by kernel_rfl) rfl) (fun hb => (Eng.on (H.dep 27 77 (by kernel_rfl) rfl) (Eng.mk1 hb)))) (Below.refl _ _) (by show _ = Value.bool q78; rw [Bq78])
          · refine Eng.plain rfl rfl fun a w' H => ?_
            exact Eng.val (w1 := w') (v := .bool q78) (Eng.run_assign rfl (H.dep 28 78 (by kernel_rfl) rfl)) (Below.refl _ _) rfl
        intro act35 w35 T
        have h0_35 : act35.eval (.tmp 0) = v := (T.rest 0 (by kernel_rfl)).trans h0_29
        have h1_35 : act35.eval (.tmp 1) = .int .u8 at_ := (T.rest 1 (by kernel_rfl)).trans h1_29
        have h5_35 : act35.eval (.tmp 5) = v5 := (T.rest 5 (by kernel_rfl)).trans h5_29
        have h8_35 : act35.eval (.tmp 8) = .pointer (some ⟨g8_25, 0, none⟩) := (T.rest 8 (by kernel_rfl)).trans h8_29
        have h9_35 : act35.eval (.tmp 9) = .int .i64 (K : Int) := (T.rest 9 (by kernel_rfl)).trans h9_29
        have h13_35 : act35.eval (.tmp 13) = .bool q13 := (T.rest 13 (by kernel_rfl)).trans h13_29
        have h16_35 : act35.eval (.tmp 16) = .bool q16 := (T.rest 16 (by kernel_rfl)).trans h16_29
        have h17_35 : act35.eval (.tmp 17) = v := (T.rest 17 (by kernel_rfl)).trans h17_29
        have h18_35 : act35.eval (.tmp 18) = .int .i64 ((l.length : Nat) : Int) := (T.rest 18 (by kernel_rfl)).trans h18_29
        have h19_35 : act35.eval (.tmp 19) = .int .i64 (k : Nat) := (T.rest 19 (by kernel_rfl)).trans h19_29
        have h20_35 : act35.eval (.tmp 20) = .bool q20 := (T.rest 20 (by kernel_rfl)).trans h20_29
        have h39_35 : act35.eval (.tmp 39) = v5 := (T.rest 39 (by kernel_rfl)).trans h39_29
        have h40_35 : act35.eval (.tmp 40) = .int .i64 ((l.length : Nat) : Int) := (T.rest 40 (by kernel_rfl)).trans h40_29
        have h41_35 : act35.eval (.tmp 41) = .int .i64 (j : Nat) := (T.rest 41 (by kernel_rfl)).trans h41_29
        have h42_35 : act35.eval (.tmp 42) = .bool q42 := (T.rest 42 (by kernel_rfl)).trans h42_29
        have kg8_25_35 := (T.below.block _ lg8_25_29).trans kg8_25_29
        have lg8_25_35 := Nat.lt_of_lt_of_le lg8_25_29 T.below.size
        have Fp_35 := Eng.Reads.below Fp_29 T.below
        have Ft_35 := Eng.Reads.below Ft_29 T.below
        have Ot_35 := Eng.own_below Ot_29 T.below
        have h4_35 : act35.eval (.tmp 4) = .bool q78 := T.done 29 4 rfl rfl
        have d35 := T.defers.trans d29
        have s35 := T.size.trans s29
        have bl35 := bl29.trans (T.below.mono bl29.size)
        clear T
        refine Eng.tail_nil ?_
        show Code.wp Tryd.prog _ _ _ _
        refine wp_ret ?_
        repeat (first | refine Eng.in_ret ?_ | refine Eng.then_ret ?_)
        have fin : q78 = true := by
          simp only [Bq78, Bq77, Bq73, Bq72, Bq60, Bq42, Bq20, Bq16, Bq13, Bq12]
          rw [Lat.take_hi, Lat.take_lo]
          exact Lat.all_fin hok K
        exact Eng.ret1 rfl d35 (h4_35.trans (by rw [fin])) ⟨rfl, bl35⟩
end Go.Proofs.YthgafcaoibfchaaDoor.X
