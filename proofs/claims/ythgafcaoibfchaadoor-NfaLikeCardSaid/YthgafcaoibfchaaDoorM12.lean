/- Words and walks that the row of NfaLike needs: printed by programs, and plain laws. -/
import Derived.Test.YthgafcaoibfchaaDoorM2
import Derived.Test.YthgafcaoibfchaaDoorM3
import Derived.Test.YthgafcaoibfchaaDoorM4
section
namespace Go.Proofs.YthgafcaoibfchaaDoor.X
open Go.RowKit Go.Shelf Go.Proofs Go.Proofs.YthgafcaoibfchaaDoorW.PrintWords Go.Proofs.YthgafcaoibfchaaDoorW.PrintLast Go.Proofs.YthgafcaoibfchaaDoorW.PrintMore
set_option linter.unusedVariables false
set_option linter.unusedSimpArgs false
attribute [local go_sem] max2_int min2_int max_two min_two
set_option maxHeartbeats 4000000 in
set_option maxRecDepth 100000 in
theorem Pth.heavy_calls (v : Value) (l : List Pth.Part) (w : World) (hx : Eng.Reads w v l.length 2 (Pth.cellsP l)) : Calls Tryd.prog 80 #[v] w fun e w' => e = .returned (.bool (Pth.heavy l)) ∧ Below w.heap.size w w' := by
  have hu157 := Tryd.underlying157
  have hm := Eng.Reads.len_le hx
  refine Eng.enter Tryd.func80 rfl fun act0 d0 s0 v0 => ?_
  have s0 : act0.tmps.size = 19 := s0
  have h0_0 : act0.eval (.tmp 0) = v := v0 0 (by simp)
  clear v0
  have bl0 : Below w.heap.size w w := Below.refl _ _
  refine wp_seq ?_
  refine Eng.regionS (Eng.still [fun u_ => u_ = .bool false]) (fun i => ([.plain] : List Eng.Kind).getD i .plain) 1 0 19 s0 rfl (by kernel_rfl) (Eng.still_stable _) (Or.inr (Eng.still_any _)) ?_ ?_
  · refine Eng.Steps.cons (fun _ => ?_) (Eng.Steps.nil)
    · refine Eng.plain rfl rfl fun a w' H => ?_
      exact Eng.val (w1 := w') (v := .bool false) (Eng.run_assign rfl (rfl : a.eval (.const (.bool false)) = .bool false)) (Below.refl _ _) rfl
  intro act1 w1 T
  have h0_1 : act1.eval (.tmp 0) = v := (T.rest 0 (by kernel_rfl)).trans h0_0
  have Fin_1 := Eng.Reads.below hx T.below
  have h2_1 : act1.eval (.tmp 2) = .bool false := T.done 0 2 rfl rfl
  have d1 := T.defers.trans d0
  have s1 := T.size.trans s0
  have bl1 := bl0.trans (T.below.mono bl0.size)
  clear T
  refine Eng.tail_nil ?_
  first | show Code.wp Tryd.prog _ _ _ _ | skip
  refine wp_seq ?_
  refine wp_seq ?_
  refine Eng.regionS (Eng.still [fun u_ => u_ = v, fun u_ => u_ = .int .i64 ((l.length : Nat) : Int), fun u_ => u_ = .int .i64 0]) (fun i => ([.plain, .plain, .plain] : List Eng.Kind).getD i .plain) 3 0 19 s1 rfl (by kernel_rfl) (Eng.still_stable _) (Or.inr (Eng.still_any _)) ?_ ?_
  · refine Eng.Steps.cons (fun _ => ?_) (Eng.Steps.cons (fun _ => ?_) (Eng.Steps.cons (fun _ => ?_) (Eng.Steps.nil)))
    · refine Eng.plain rfl rfl fun a w' H => ?_
      exact Eng.val (w1 := w') (v := v) (Eng.run_move rfl ((H.kept 0 (by kernel_rfl)).trans h0_1)) (Below.refl _ _) rfl
    · refine Eng.plain rfl rfl fun a w' H => ?_
      refine Eng.val (w1 := w') (v := .int .i64 ((l.length : Nat) : Int)) ?_ (Below.refl _ _) rfl
      exact Eng.run_len_sl rfl Tryd.underlying118 (show a.eval (.tmp 5) = v from (H.dep 0 5 (by kernel_rfl) rfl)) (Eng.Reads.below Fin_1 H.below)
    · refine Eng.plain rfl rfl fun a w' H => ?_
      exact Eng.val (w1 := w') (v := .int .i64 0) (Eng.run_move rfl (rfl : a.eval (.const (.int .i64 0)) = .int .i64 0)) (Below.refl _ _) rfl
  intro act2 w2 T
  have h0_2 : act2.eval (.tmp 0) = v := (T.rest 0 (by kernel_rfl)).trans h0_1
  have h2_2 : act2.eval (.tmp 2) = .bool false := (T.rest 2 (by kernel_rfl)).trans h2_1
  have Fin_2 := Eng.Reads.below Fin_1 T.below
  have h5_2 : act2.eval (.tmp 5) = v := T.done 0 5 rfl rfl
  have h6_2 : act2.eval (.tmp 6) = .int .i64 ((l.length : Nat) : Int) := T.done 1 6 rfl rfl
  have h7_2 : act2.eval (.tmp 7) = .int .i64 0 := T.done 2 7 rfl rfl
  have d2 := T.defers.trans d1
  have s2 := T.size.trans s1
  have bl2 := bl1.trans (T.below.mono bl1.size)
  clear T
  refine Eng.tail_nil ?_
  first | show Code.wp Tryd.prog _ _ _ _ | skip
  refine wp_block ?_
  refine Eng.loopN (fun n a w' => ∃ (k : Nat), l.length - k = n ∧ (k ≤ l.length) ∧ (∀ i, i < k → (l.getD i default).2.size ≤ 2000) ∧ a.defers = [] ∧ a.tmps.size = 19 ∧ Below w.heap.size w w' ∧ a.eval (.tmp 0) = v ∧ a.eval (.tmp 5) = v ∧ a.eval (.tmp 6) = .int .i64 ((l.length : Nat) : Int) ∧ a.eval (.tmp 7) = .int .i64 (k : Nat)) (n0 := l.length - 0) ?_ ?_
  · exact ⟨0, rfl, by omega, fun i hi => absurd hi (by omega), d2, s2, bl2, h0_2, h5_2, h6_2, (h7_2.trans (by first | rfl | (congr 1; rw [Eng.i64_id (by omega) (by omega)]; omega) | (simp; done)))⟩
  rintro n act3 w3 ⟨k, rfl, hc0_3, hc1_3, d3, s3, bl3, h0_3, h5_3, h6_3, h7_3⟩
  have Fin_3 := Eng.Reads.below hx bl3
  have hk1 := hc0_3
  have hsm := hc1_3
  refine wp_seq ?_
  obtain ⟨q8, Bq8⟩ : ∃ b : Bool, b = (decide ((k : Nat) < ((l.length : Nat) : Int))) := ⟨_, rfl⟩
  refine Eng.regionS (Eng.still [fun u_ => u_ = .bool q8]) (fun i => ([.plain] : List Eng.Kind).getD i .plain) 1 0 19 s3 rfl (by kernel_rfl) (Eng.still_stable _) (Or.inr (Eng.still_any _)) ?_ ?_
  · refine Eng.Steps.cons (fun _ => ?_) (Eng.Steps.nil)
    · refine Eng.plain rfl rfl fun a w' H => ?_
      refine Eng.val (w1 := w') (v := .bool (decide ((k : Nat) < ((l.length : Nat) : Int)))) ?_ (Below.refl _ _) (by show _ = Value.bool q8; rw [Bq8])
      have e0 : a.eval (.tmp 7) = .int .i64 (k : Nat) := ((H.kept 7 (by kernel_rfl)).trans h7_3)
      have e1 : a.eval (.tmp 6) = .int .i64 ((l.length : Nat) : Int) := ((H.kept 6 (by kernel_rfl)).trans h6_3)
      simp only [execOp, resolve, List.map_toArray, List.map_cons, List.map_nil, e0, e1]
      go_simp
      all_goals first | rfl | (simp; done) | (rw [Bool.eq_iff_iff]; simp; done) | omega | skip
  intro act4 w4 T
  have h0_4 : act4.eval (.tmp 0) = v := (T.rest 0 (by kernel_rfl)).trans h0_3
  have h5_4 : act4.eval (.tmp 5) = v := (T.rest 5 (by kernel_rfl)).trans h5_3
  have h6_4 : act4.eval (.tmp 6) = .int .i64 ((l.length : Nat) : Int) := (T.rest 6 (by kernel_rfl)).trans h6_3
  have h7_4 : act4.eval (.tmp 7) = .int .i64 (k : Nat) := (T.rest 7 (by kernel_rfl)).trans h7_3
  have Fin_4 := Eng.Reads.below Fin_3 T.below
  have h8_4 : act4.eval (.tmp 8) = .bool q8 := T.done 0 8 rfl rfl
  have d4 := T.defers.trans d3
  have s4 := T.size.trans s3
  have bl4 := bl3.trans (T.below.mono bl3.size)
  clear T
  refine Eng.tail_nil ?_
  first | show Code.wp Tryd.prog _ _ _ _ | skip
  refine wp_seq ?_
  refine wp_cond_split h8_4 (fun hq => ?_) (fun hq => ?_)
  ·
    have kn5 := hq
    have c8 := Bq8.symm.trans hq
    clear hq
    have c8 := of_decide_eq_true c8
    have hk0 : k < l.length := by omega
    refine wp_skip ?_
    first | show Code.wp Tryd.prog _ _ _ _ | skip
    refine wp_seq ?_
    refine wp_block ?_
    refine wp_seq ?_
    refine Eng.regionS (Eng.still [fun u_ => u_ = Eng.elemPtr v (k * 2), fun u_ => u_ = .agg #[.int .i64 ((l.getD k default).1), .string ((l.getD k default).2)], fun u_ => True, fun u_ => True]) (fun i => ([.plain, .plain, .alloc 157 #[.int .i64 0, .string ⟨#[]⟩], .store 2 #[.int .i64 ((l.getD k default).1), .string ((l.getD k default).2)]] : List Eng.Kind).getD i .plain) 4 0 19 s4 rfl (by kernel_rfl) (Eng.still_stable _) (Or.inr (Eng.still_any _)) ?_ ?_
    · refine Eng.Steps.cons (fun _ => ?_) (Eng.Steps.cons (fun _ => ?_) (Eng.Steps.cons (fun _ => ?_) (Eng.Steps.cons (fun _ => ?_) (Eng.Steps.nil))))
      · refine Eng.plain rfl rfl fun a w' H => ?_
        refine Eng.val (w1 := w') (v := Eng.elemPtr v (k * 2)) ?_ (Below.refl _ _) rfl
        exact Eng.run_index_sl rfl Tryd.underlying118 (by kernel_rfl) (show a.eval (.tmp 5) = v from ((H.kept 5 (by kernel_rfl)).trans h5_4)) ((show a.eval (.tmp 7) = .int .i64 (k : Nat) from ((H.kept 7 (by kernel_rfl)).trans h7_4)).trans (congrArg (Value.int _) (show (k : Nat) = ((k : Nat) : Int) from by omega))) (Eng.Reads.below Fin_4 H.below) (by omega) rfl
      · refine Eng.plain rfl rfl fun a w' H => ?_
        refine Eng.val (w1 := w') (v := .agg #[.int .i64 ((l.getD k default).1), .string ((l.getD k default).2)]) ?_ (Below.refl _ _) rfl
        exact Eng.run_load_els [.int .i64 ((l.getD k default).1), .string ((l.getD k default).2)] rfl (show a.eval (.tmp 9) = Eng.elemPtr v (k * 2) from (H.dep 0 9 (by kernel_rfl) rfl)) (Eng.Reads.below Fin_4 H.below) (Pth.cells_at l k (by omega)) rfl Tryd.underlying157 rfl (by kernel_rfl)
      · refine Eng.made rfl (by simp) rfl (fun a w' hd ho => ?_) (fun _ _ => trivial)
        simp only [execOp]
        go_simp
      · refine Eng.stored [.int .i64 ((l.getD k default).1), .string ((l.getD k default).2)] rfl rfl rfl (j := 2) (d := 4) (by kernel_rfl) rfl rfl (Eng.store_uniq (by kernel_rfl)) rfl rfl fun a w' g e hc hd ho => ?_
        have e0 : a.eval _ = .agg #[.int .i64 ((l.getD k default).1), .string ((l.getD k default).2)] := (hd 1 10 (by kernel_rfl) rfl)
        have z0 := (Eng.cells hc 0).trans rfl
        have z1 := (Eng.cells hc 1).trans rfl
        have f0 := Eng.unfrozen hc 0
        have f1 := Eng.unfrozen hc 1
        simp only [execOp, e, e0]
        go_simp
        rfl
    intro act6 w6 T
    have h0_6 : act6.eval (.tmp 0) = v := (T.rest 0 (by kernel_rfl)).trans h0_4
    have h5_6 : act6.eval (.tmp 5) = v := (T.rest 5 (by kernel_rfl)).trans h5_4
    have h6_6 : act6.eval (.tmp 6) = .int .i64 ((l.length : Nat) : Int) := (T.rest 6 (by kernel_rfl)).trans h6_4
    have h7_6 : act6.eval (.tmp 7) = .int .i64 (k : Nat) := (T.rest 7 (by kernel_rfl)).trans h7_4
    have h8_6 : act6.eval (.tmp 8) = .bool q8 := (T.rest 8 (by kernel_rfl)).trans h8_4
    have Fin_6 := Eng.Reads.below Fin_4 T.below
    obtain ⟨g4_6, h4_6, rg4_6, lg4_6_6, kg4_6_6⟩ := T.st 2 4 3 _ _ _ rfl rfl rfl rfl rfl
    have og4_6 : w.heap.size ≤ g4_6 := Nat.le_trans bl4.size rg4_6
    have d6 := T.defers.trans d4
    have s6 := T.size.trans s4
    have bl6 := bl4.trans (T.below.mono bl4.size)
    clear T
    refine Eng.tail_nil ?_
    first | show Code.wp Tryd.prog _ _ _ _ | skip
    refine wp_seq ?_
    obtain ⟨q14, Bq14⟩ : ∃ b : Bool, b = (decide ((((l.getD k default).2).size : Int) > 2000)) := ⟨_, rfl⟩
    refine Eng.regionS (Eng.still [fun u_ => u_ = .pointer (some ⟨g4_6, 1, none⟩), fun u_ => u_ = .string ((l.getD k default).2), fun u_ => u_ = .int .i64 (((l.getD k default).2).size : Int), fun u_ => u_ = .bool q14]) (fun i => ([.plain, .plain, .plain, .plain] : List Eng.Kind).getD i .plain) 4 0 19 s6 rfl (by kernel_rfl) (Eng.still_stable _) (Or.inr (Eng.still_any _)) ?_ ?_
    · refine Eng.Steps.cons (fun _ => ?_) (Eng.Steps.cons (fun _ => ?_) (Eng.Steps.cons (fun _ => ?_) (Eng.Steps.cons (fun _ => ?_) (Eng.Steps.nil))))
      · refine Eng.plain rfl rfl fun a w' H => ?_
        refine Eng.val (w1 := w') (v := .pointer (some ⟨g4_6, 1, none⟩)) ?_ (Below.refl _ _) rfl
        have e0 : a.eval (.tmp 4) = .pointer (some ⟨g4_6, 0, none⟩) := ((H.kept 4 (by kernel_rfl)).trans h4_6)
        simp only [execOp, resolve, List.map_toArray, List.map_cons, List.map_nil, e0]
        go_simp
        all_goals first | rfl | (simp; done) | (rw [Bool.eq_iff_iff]; simp; done) | omega | skip
      · refine Eng.plain rfl rfl fun a w' H => ?_
        have kb := (H.below.block _ lg4_6_6).trans kg4_6_6
        have z0 : w'.cell? ⟨g4_6, 1, none⟩ = some (.string ((l.getD k default).2)) := (Eng.cells kb 1).trans rfl
        refine Eng.val (w1 := w') (v := .string ((l.getD k default).2)) ?_ (Below.refl _ _) rfl
        have e0 : a.eval (.tmp 11) = .pointer (some ⟨g4_6, 1, none⟩) := (H.dep 0 11 (by kernel_rfl) rfl)
        simp only [execOp, resolve, List.map_toArray, List.map_cons, List.map_nil, e0]
        go_simp
        all_goals first | rfl | (simp; done) | (rw [Bool.eq_iff_iff]; simp; done) | omega | skip
      · refine Eng.plain rfl rfl fun a w' H => ?_
        refine Eng.val (w1 := w') (v := .int .i64 (((l.getD k default).2).size : Int)) ?_ (Below.refl _ _) rfl
        have e0 : a.eval (.tmp 12) = .string ((l.getD k default).2) := (H.dep 1 12 (by kernel_rfl) rfl)
        simp only [execOp, resolve, List.map_toArray, List.map_cons, List.map_nil, e0]
        go_simp
        all_goals first | rfl | (simp; done) | (rw [Bool.eq_iff_iff]; simp; done) | omega | skip
      · refine Eng.plain rfl rfl fun a w' H => ?_
        refine Eng.val (w1 := w') (v := .bool (decide ((((l.getD k default).2).size : Int) > 2000))) ?_ (Below.refl _ _) (by show _ = Value.bool q14; rw [Bq14])
        have e0 : a.eval (.tmp 13) = .int .i64 (((l.getD k default).2).size : Int) := (H.dep 2 13 (by kernel_rfl) rfl)
        have e1 : a.eval (.const (.int .i64 2000)) = .int .i64 2000 := (rfl : a.eval (.const (.int .i64 2000)) = .int .i64 2000)
        simp only [execOp, resolve, List.map_toArray, List.map_cons, List.map_nil, e0, e1]
        go_simp
        all_goals first | rfl | (simp; done) | (rw [Bool.eq_iff_iff]; simp; done) | omega | skip
    intro act7 w7 T
    have h0_7 : act7.eval (.tmp 0) = v := (T.rest 0 (by kernel_rfl)).trans h0_6
    have h4_7 : act7.eval (.tmp 4) = .pointer (some ⟨g4_6, 0, none⟩) := (T.rest 4 (by kernel_rfl)).trans h4_6
    have h5_7 : act7.eval (.tmp 5) = v := (T.rest 5 (by kernel_rfl)).trans h5_6
    have h6_7 : act7.eval (.tmp 6) = .int .i64 ((l.length : Nat) : Int) := (T.rest 6 (by kernel_rfl)).trans h6_6
    have h7_7 : act7.eval (.tmp 7) = .int .i64 (k : Nat) := (T.rest 7 (by kernel_rfl)).trans h7_6
    have h8_7 : act7.eval (.tmp 8) = .bool q8 := (T.rest 8 (by kernel_rfl)).trans h8_6
    have kg4_6_7 := (T.below.block _ lg4_6_6).trans kg4_6_6
    have lg4_6_7 := Nat.lt_of_lt_of_le lg4_6_6 T.below.size
    have Fin_7 := Eng.Reads.below Fin_6 T.below
    have h14_7 : act7.eval (.tmp 14) = .bool q14 := T.done 3 14 rfl rfl
    have d7 := T.defers.trans d6
    have s7 := T.size.trans s6
    have bl7 := bl6.trans (T.below.mono bl6.size)
    clear T
    refine Eng.tail_nil ?_
    first | show Code.wp Tryd.prog _ _ _ _ | skip
    refine wp_cond_split h14_7 (fun hq => ?_) (fun hq => ?_)
    ·
      have kn8 := hq
      have c14 := Bq14.symm.trans hq
      clear hq
      have c14 := of_decide_eq_true c14
      refine wp_seq ?_
      refine Eng.regionS (Eng.still [fun u_ => u_ = .bool true]) (fun i => ([.plain] : List Eng.Kind).getD i .plain) 1 0 19 s7 rfl (by kernel_rfl) (Eng.still_stable _) (Or.inr (Eng.still_any _)) ?_ ?_
      · refine Eng.Steps.cons (fun _ => ?_) (Eng.Steps.nil)
        · refine Eng.plain rfl rfl fun a w' H => ?_
          exact Eng.val (w1 := w') (v := .bool true) (Eng.run_assign rfl (rfl : a.eval (.const (.bool true)) = .bool true)) (Below.refl _ _) rfl
      intro act9 w9 T
      have h0_9 : act9.eval (.tmp 0) = v := (T.rest 0 (by kernel_rfl)).trans h0_7
      have h4_9 : act9.eval (.tmp 4) = .pointer (some ⟨g4_6, 0, none⟩) := (T.rest 4 (by kernel_rfl)).trans h4_7
      have h5_9 : act9.eval (.tmp 5) = v := (T.rest 5 (by kernel_rfl)).trans h5_7
      have h6_9 : act9.eval (.tmp 6) = .int .i64 ((l.length : Nat) : Int) := (T.rest 6 (by kernel_rfl)).trans h6_7
      have h7_9 : act9.eval (.tmp 7) = .int .i64 (k : Nat) := (T.rest 7 (by kernel_rfl)).trans h7_7
      have h8_9 : act9.eval (.tmp 8) = .bool q8 := (T.rest 8 (by kernel_rfl)).trans h8_7
      have h14_9 : act9.eval (.tmp 14) = .bool q14 := (T.rest 14 (by kernel_rfl)).trans h14_7
      have kg4_6_9 := (T.below.block _ lg4_6_7).trans kg4_6_7
      have lg4_6_9 := Nat.lt_of_lt_of_le lg4_6_7 T.below.size
      have Fin_9 := Eng.Reads.below Fin_7 T.below
      have h2_9 : act9.eval (.tmp 2) = .bool true := T.done 0 2 rfl rfl
      have d9 := T.defers.trans d7
      have s9 := T.size.trans s7
      have bl9 := bl7.trans (T.below.mono bl7.size)
      clear T
      refine Eng.tail_nil ?_
      first | show Code.wp Tryd.prog _ _ _ _ | skip
      refine wp_ret ?_
      repeat (first | refine Eng.in_ret ?_ | refine Eng.then_ret ?_)
      exact Eng.ret1 rfl d9 h2_9 ⟨congrArg _ (congrArg _ (Pth.heavy_at hk0 (by omega)).symm), bl9⟩
    ·
      have kn10 := hq
      have c14 := Bq14.symm.trans hq
      clear hq
      have c14 := of_decide_eq_false c14
      refine wp_skip ?_
      first | show Code.wp Tryd.prog _ _ _ _ | skip
      refine Eng.regionS (Eng.still [fun u_ => u_ = .int .i64 (IntKind.i64.wrap ((k : Nat) + 1)), fun u_ => u_ = .int .i64 (IntKind.i64.wrap ((k : Nat) + 1))]) (fun i => ([.plain, .plain] : List Eng.Kind).getD i .plain) 2 0 19 s7 rfl (by kernel_rfl) (Eng.still_stable _) (Or.inr (Eng.still_any _)) ?_ ?_
      · refine Eng.Steps.cons (fun _ => ?_) (Eng.Steps.cons (fun _ => ?_) (Eng.Steps.nil))
        · refine Eng.plain rfl rfl fun a w' H => ?_
          refine Eng.val (w1 := w') (v := .int .i64 (IntKind.i64.wrap ((k : Nat) + 1))) ?_ (Below.refl _ _) rfl
          have e0 : a.eval (.tmp 7) = .int .i64 (k : Nat) := ((H.kept 7 (by kernel_rfl)).trans h7_7)
          have e1 : a.eval (.const (.int .i64 1)) = .int .i64 1 := (rfl : a.eval (.const (.int .i64 1)) = .int .i64 1)
          simp only [execOp, resolve, List.map_toArray, List.map_cons, List.map_nil, e0, e1]
          go_simp
          all_goals first | rfl | (simp; done) | (rw [Bool.eq_iff_iff]; simp; done) | omega | skip
        · refine Eng.plain rfl rfl fun a w' H => ?_
          exact Eng.val (w1 := w') (v := .int .i64 (IntKind.i64.wrap ((k : Nat) + 1))) (Eng.run_move rfl (H.dep 0 15 (by kernel_rfl) rfl)) (Below.refl _ _) rfl
      intro act11 w11 T
      have h0_11 : act11.eval (.tmp 0) = v := (T.rest 0 (by kernel_rfl)).trans h0_7
      have h4_11 : act11.eval (.tmp 4) = .pointer (some ⟨g4_6, 0, none⟩) := (T.rest 4 (by kernel_rfl)).trans h4_7
      have h5_11 : act11.eval (.tmp 5) = v := (T.rest 5 (by kernel_rfl)).trans h5_7
      have h6_11 : act11.eval (.tmp 6) = .int .i64 ((l.length : Nat) : Int) := (T.rest 6 (by kernel_rfl)).trans h6_7
      have h8_11 : act11.eval (.tmp 8) = .bool q8 := (T.rest 8 (by kernel_rfl)).trans h8_7
      have h14_11 : act11.eval (.tmp 14) = .bool q14 := (T.rest 14 (by kernel_rfl)).trans h14_7
      have kg4_6_11 := (T.below.block _ lg4_6_7).trans kg4_6_7
      have lg4_6_11 := Nat.lt_of_lt_of_le lg4_6_7 T.below.size
      have Fin_11 := Eng.Reads.below Fin_7 T.below
      have h7_11 : act11.eval (.tmp 7) = .int .i64 (IntKind.i64.wrap ((k : Nat) + 1)) := T.done 1 7 rfl rfl
      have d11 := T.defers.trans d7
      have s11 := T.size.trans s7
      have bl11 := bl7.trans (T.below.mono bl7.size)
      clear T
      refine Eng.tail_nil ?_
      exact ⟨_, by omega, k + 1, rfl, by omega, Pth.light_succ hsm (by omega), d11, s11, bl11, h0_11, h5_11, h6_11, (h7_11.trans (by first | rfl | (congr 1; rw [Eng.i64_id (by omega) (by omega)]; omega) | (simp; done)))⟩
  ·
    have kn12 := hq
    have c8 := Bq8.symm.trans hq
    clear hq
    have c8 := of_decide_eq_false c8
    have hke : k = l.length := by omega
    refine wp_exit ?_
    first | show Code.wp Tryd.prog _ _ _ _ | skip
    first | show Code.wp Tryd.prog _ _ _ _ | skip
    refine wp_seq ?_
    obtain ⟨q18, Bq18⟩ : ∃ b : Bool, b = (decide (((l.length : Nat) : Int) > 40)) := ⟨_, rfl⟩
    refine Eng.regionS (Eng.still [fun u_ => u_ = v, fun u_ => u_ = .int .i64 ((l.length : Nat) : Int), fun u_ => u_ = .bool q18, fun u_ => u_ = .bool q18]) (fun i => ([.plain, .plain, .plain, .plain] : List Eng.Kind).getD i .plain) 4 0 19 s4 rfl (by kernel_rfl) (Eng.still_stable _) (Or.inr (Eng.still_any _)) ?_ ?_
    · refine Eng.Steps.cons (fun _ => ?_) (Eng.Steps.cons (fun _ => ?_) (Eng.Steps.cons (fun _ => ?_) (Eng.Steps.cons (fun _ => ?_) (Eng.Steps.nil))))
      · refine Eng.plain rfl rfl fun a w' H => ?_
        exact Eng.val (w1 := w') (v := v) (Eng.run_move rfl ((H.kept 0 (by kernel_rfl)).trans h0_4)) (Below.refl _ _) rfl
      · refine Eng.plain rfl rfl fun a w' H => ?_
        refine Eng.val (w1 := w') (v := .int .i64 ((l.length : Nat) : Int)) ?_ (Below.refl _ _) rfl
        exact Eng.run_len_sl rfl Tryd.underlying118 (show a.eval (.tmp 16) = v from (H.dep 0 16 (by kernel_rfl) rfl)) (Eng.Reads.below Fin_4 H.below)
      · refine Eng.plain rfl rfl fun a w' H => ?_
        refine Eng.val (w1 := w') (v := .bool (decide (((l.length : Nat) : Int) > 40))) ?_ (Below.refl _ _) (by show _ = Value.bool q18; rw [Bq18])
        have e0 : a.eval (.tmp 17) = .int .i64 ((l.length : Nat) : Int) := (H.dep 1 17 (by kernel_rfl) rfl)
        have e1 : a.eval (.const (.int .i64 40)) = .int .i64 40 := (rfl : a.eval (.const (.int .i64 40)) = .int .i64 40)
        simp only [execOp, resolve, List.map_toArray, List.map_cons, List.map_nil, e0, e1]
        go_simp
        all_goals first | rfl | (simp; done) | (rw [Bool.eq_iff_iff]; simp; done) | omega | skip
      · refine Eng.plain rfl rfl fun a w' H => ?_
        exact Eng.val (w1 := w') (v := .bool q18) (Eng.run_assign rfl (H.dep 2 18 (by kernel_rfl) rfl)) (Below.refl _ _) rfl
    intro act13 w13 T
    have h0_13 : act13.eval (.tmp 0) = v := (T.rest 0 (by kernel_rfl)).trans h0_4
    have h5_13 : act13.eval (.tmp 5) = v := (T.rest 5 (by kernel_rfl)).trans h5_4
    have h6_13 : act13.eval (.tmp 6) = .int .i64 ((l.length : Nat) : Int) := (T.rest 6 (by kernel_rfl)).trans h6_4
    have h7_13 : act13.eval (.tmp 7) = .int .i64 (k : Nat) := (T.rest 7 (by kernel_rfl)).trans h7_4
    have h8_13 : act13.eval (.tmp 8) = .bool q8 := (T.rest 8 (by kernel_rfl)).trans h8_4
    have Fin_13 := Eng.Reads.below Fin_4 T.below
    have h2_13 : act13.eval (.tmp 2) = .bool q18 := T.done 3 2 rfl rfl
    have d13 := T.defers.trans d4
    have s13 := T.size.trans s4
    have bl13 := bl4.trans (T.below.mono bl4.size)
    clear T
    refine Eng.tail_nil ?_
    first | show Code.wp Tryd.prog _ _ _ _ | skip
    refine wp_ret ?_
    repeat (first | refine Eng.in_ret ?_ | refine Eng.then_ret ?_)
    exact Eng.ret1 rfl d13 (h2_13.trans (by rw [Bq18, Pth.heavy_all (fun i hi => hsm i (by omega))]; simp; omega)) ⟨rfl, bl13⟩
end Go.Proofs.YthgafcaoibfchaaDoor.X
end
section
namespace Go.Proofs.YthgafcaoibfchaaDoor.X
open Go.RowKit Go.Shelf Go.Proofs Go.Proofs.YthgafcaoibfchaaDoorW.PrintWords Go.Proofs.YthgafcaoibfchaaDoorW.PrintLast Go.Proofs.YthgafcaoibfchaaDoorW.PrintMore
set_option linter.unusedVariables false
set_option linter.unusedSimpArgs false
attribute [local go_sem] max2_int min2_int max_two min_two
set_option maxHeartbeats 4000000 in
set_option maxRecDepth 100000 in
theorem Pth.heavies_calls (pv : Value) (ps : List (List Pth.Part)) (vs : List Value) (w : World) (hvl : vs.length = ps.length) (hp : Eng.Reads w pv ps.length 1 vs) (hin : ∀ k, k < ps.length → Eng.Reads w (vs.getD k undef) (ps.getD k []).length 2 (Pth.cellsP (ps.getD k []))) : Calls Tryd.prog 38 #[pv] w fun e w' => e = .returned (.bool (Pth.heavies ps)) ∧ Below w.heap.size w w' := by
  have hm := Eng.Reads.len_le hp
  refine Eng.enter Tryd.func38 rfl fun act0 d0 s0 v0 => ?_
  have s0 : act0.tmps.size = 17 := s0
  have h0_0 : act0.eval (.tmp 0) = pv := v0 0 (by simp)
  clear v0
  have bl0 : Below w.heap.size w w := Below.refl _ _
  refine wp_seq ?_
  refine Eng.regionS (Eng.still [fun u_ => u_ = .bool false]) (fun i => ([.plain] : List Eng.Kind).getD i .plain) 1 0 17 s0 rfl (by kernel_rfl) (Eng.still_stable _) (Or.inr (Eng.still_any _)) ?_ ?_
  · refine Eng.Steps.cons (fun _ => ?_) (Eng.Steps.nil)
    · refine Eng.plain rfl rfl fun a w' H => ?_
      exact Eng.val (w1 := w') (v := .bool false) (Eng.run_assign rfl (rfl : a.eval (.const (.bool false)) = .bool false)) (Below.refl _ _) rfl
  intro act1 w1 T
  have h0_1 : act1.eval (.tmp 0) = pv := (T.rest 0 (by kernel_rfl)).trans h0_0
  have Fpp_1 := Eng.Reads.below hp T.below
  have h2_1 : act1.eval (.tmp 2) = .bool false := T.done 0 2 rfl rfl
  have d1 := T.defers.trans d0
  have s1 := T.size.trans s0
  have bl1 := bl0.trans (T.below.mono bl0.size)
  clear T
  refine Eng.tail_nil ?_
  first | show Code.wp Tryd.prog _ _ _ _ | skip
  refine wp_seq ?_
  refine wp_seq ?_
  refine Eng.regionS (Eng.still [fun u_ => u_ = pv, fun u_ => u_ = .int .i64 ((ps.length : Nat) : Int), fun u_ => u_ = .int .i64 0]) (fun i => ([.plain, .plain, .plain] : List Eng.Kind).getD i .plain) 3 0 17 s1 rfl (by kernel_rfl) (Eng.still_stable _) (Or.inr (Eng.still_any _)) ?_ ?_
  · refine Eng.Steps.cons (fun _ => ?_) (Eng.Steps.cons (fun _ => ?_) (Eng.Steps.cons (fun _ => ?_) (Eng.Steps.nil)))
    · refine Eng.plain rfl rfl fun a w' H => ?_
      exact Eng.val (w1 := w') (v := pv) (Eng.run_move rfl ((H.kept 0 (by kernel_rfl)).trans h0_1)) (Below.refl _ _) rfl
    · refine Eng.plain rfl rfl fun a w' H => ?_
      refine Eng.val (w1 := w') (v := .int .i64 ((ps.length : Nat) : Int)) ?_ (Below.refl _ _) rfl
      exact Eng.run_len_sl rfl Tryd.underlying59 (show a.eval (.tmp 5) = pv from (H.dep 0 5 (by kernel_rfl) rfl)) (Eng.Reads.below Fpp_1 H.below)
    · refine Eng.plain rfl rfl fun a w' H => ?_
      exact Eng.val (w1 := w') (v := .int .i64 0) (Eng.run_move rfl (rfl : a.eval (.const (.int .i64 0)) = .int .i64 0)) (Below.refl _ _) rfl
  intro act2 w2 T
  have h0_2 : act2.eval (.tmp 0) = pv := (T.rest 0 (by kernel_rfl)).trans h0_1
  have h2_2 : act2.eval (.tmp 2) = .bool false := (T.rest 2 (by kernel_rfl)).trans h2_1
  have Fpp_2 := Eng.Reads.below Fpp_1 T.below
  have h5_2 : act2.eval (.tmp 5) = pv := T.done 0 5 rfl rfl
  have h6_2 : act2.eval (.tmp 6) = .int .i64 ((ps.length : Nat) : Int) := T.done 1 6 rfl rfl
  have h7_2 : act2.eval (.tmp 7) = .int .i64 0 := T.done 2 7 rfl rfl
  have d2 := T.defers.trans d1
  have s2 := T.size.trans s1
  have bl2 := bl1.trans (T.below.mono bl1.size)
  clear T
  refine Eng.tail_nil ?_
  first | show Code.wp Tryd.prog _ _ _ _ | skip
  refine wp_block ?_
  refine Eng.loopN (fun n a w' => ∃ (k : Nat), ps.length - k = n ∧ (k ≤ ps.length) ∧ (∀ i, i < k → Pth.heavy (ps.getD i []) = false) ∧ a.defers = [] ∧ a.tmps.size = 17 ∧ Below w.heap.size w w' ∧ a.eval (.tmp 0) = pv ∧ a.eval (.tmp 5) = pv ∧ a.eval (.tmp 6) = .int .i64 ((ps.length : Nat) : Int) ∧ a.eval (.tmp 7) = .int .i64 (k : Nat)) (n0 := ps.length - 0) ?_ ?_
  · exact ⟨0, rfl, by omega, fun i hi => absurd hi (by omega), d2, s2, bl2, h0_2, h5_2, h6_2, (h7_2.trans (by first | rfl | (congr 1; rw [Eng.i64_id (by omega) (by omega)]; omega) | (simp; done)))⟩
  rintro n act3 w3 ⟨k, rfl, hc0_3, hc1_3, d3, s3, bl3, h0_3, h5_3, h6_3, h7_3⟩
  have Fpp_3 := Eng.Reads.below hp bl3
  have hk1 := hc0_3
  have hsm := hc1_3
  refine wp_seq ?_
  obtain ⟨q8, Bq8⟩ : ∃ b : Bool, b = (decide ((k : Nat) < ((ps.length : Nat) : Int))) := ⟨_, rfl⟩
  refine Eng.regionS (Eng.still [fun u_ => u_ = .bool q8]) (fun i => ([.plain] : List Eng.Kind).getD i .plain) 1 0 17 s3 rfl (by kernel_rfl) (Eng.still_stable _) (Or.inr (Eng.still_any _)) ?_ ?_
  · refine Eng.Steps.cons (fun _ => ?_) (Eng.Steps.nil)
    · refine Eng.plain rfl rfl fun a w' H => ?_
      refine Eng.val (w1 := w') (v := .bool (decide ((k : Nat) < ((ps.length : Nat) : Int)))) ?_ (Below.refl _ _) (by show _ = Value.bool q8; rw [Bq8])
      have e0 : a.eval (.tmp 7) = .int .i64 (k : Nat) := ((H.kept 7 (by kernel_rfl)).trans h7_3)
      have e1 : a.eval (.tmp 6) = .int .i64 ((ps.length : Nat) : Int) := ((H.kept 6 (by kernel_rfl)).trans h6_3)
      simp only [execOp, resolve, List.map_toArray, List.map_cons, List.map_nil, e0, e1]
      go_simp
      all_goals first | rfl | (simp; done) | (rw [Bool.eq_iff_iff]; simp; done) | omega | skip
  intro act4 w4 T
  have h0_4 : act4.eval (.tmp 0) = pv := (T.rest 0 (by kernel_rfl)).trans h0_3
  have h5_4 : act4.eval (.tmp 5) = pv := (T.rest 5 (by kernel_rfl)).trans h5_3
  have h6_4 : act4.eval (.tmp 6) = .int .i64 ((ps.length : Nat) : Int) := (T.rest 6 (by kernel_rfl)).trans h6_3
  have h7_4 : act4.eval (.tmp 7) = .int .i64 (k : Nat) := (T.rest 7 (by kernel_rfl)).trans h7_3
  have Fpp_4 := Eng.Reads.below Fpp_3 T.below
  have h8_4 : act4.eval (.tmp 8) = .bool q8 := T.done 0 8 rfl rfl
  have d4 := T.defers.trans d3
  have s4 := T.size.trans s3
  have bl4 := bl3.trans (T.below.mono bl3.size)
  clear T
  refine Eng.tail_nil ?_
  first | show Code.wp Tryd.prog _ _ _ _ | skip
  refine wp_seq ?_
  refine wp_cond_split h8_4 (fun hq => ?_) (fun hq => ?_)
  ·
    have kn5 := hq
    have c8 := Bq8.symm.trans hq
    clear hq
    have c8 := of_decide_eq_true c8
    have hk0 : k < ps.length := by omega
    have Fin0 := hin k hk0
    have hmi := Eng.Reads.len_le Fin0
    have Finn6 := Eng.Reads.below Fin0 bl4
    refine wp_skip ?_
    first | show Code.wp Tryd.prog _ _ _ _ | skip
    refine wp_seq ?_
    refine wp_block ?_
    refine wp_seq ?_
    refine Eng.regionS (Eng.still [fun u_ => u_ = Eng.elemPtr pv (k * 1), fun u_ => u_ = (vs.getD k undef), fun u_ => u_ = (vs.getD k undef)]) (fun i => ([.plain, .plain, .plain] : List Eng.Kind).getD i .plain) 3 0 17 s4 rfl (by kernel_rfl) (Eng.still_stable _) (Or.inr (Eng.still_any _)) ?_ ?_
    · refine Eng.Steps.cons (fun _ => ?_) (Eng.Steps.cons (fun _ => ?_) (Eng.Steps.cons (fun _ => ?_) (Eng.Steps.nil)))
      · refine Eng.plain rfl rfl fun a w' H => ?_
        refine Eng.val (w1 := w') (v := Eng.elemPtr pv (k * 1)) ?_ (Below.refl _ _) rfl
        exact Eng.run_index_sl rfl Tryd.underlying59 (by kernel_rfl) (show a.eval (.tmp 5) = pv from ((H.kept 5 (by kernel_rfl)).trans h5_4)) ((show a.eval (.tmp 7) = .int .i64 (k : Nat) from ((H.kept 7 (by kernel_rfl)).trans h7_4)).trans (congrArg (Value.int _) (show (k : Nat) = ((k : Nat) : Int) from by omega))) (Eng.Reads.below Fpp_4 H.below) (by omega) rfl
      · refine Eng.plain rfl rfl fun a w' H => ?_
        refine Eng.val (w1 := w') (v := (vs.getD k undef)) ?_ (Below.refl _ _) rfl
        exact Eng.run_load_el ((vs.getD k undef)) rfl (show a.eval (.tmp 9) = Eng.elemPtr pv (k * 1) from (H.dep 0 9 (by kernel_rfl) rfl)) (Eng.Reads.below Fpp_4 H.below) (Nfa.at_one vs hvl (by omega)) (by kernel_rfl)
      · refine Eng.plain rfl rfl fun a w' H => ?_
        exact Eng.val (w1 := w') (v := (vs.getD k undef)) (Eng.run_assign rfl (H.dep 1 10 (by kernel_rfl) rfl)) (Below.refl _ _) rfl
    intro act7 w7 T
    have h0_7 : act7.eval (.tmp 0) = pv := (T.rest 0 (by kernel_rfl)).trans h0_4
    have h5_7 : act7.eval (.tmp 5) = pv := (T.rest 5 (by kernel_rfl)).trans h5_4
    have h6_7 : act7.eval (.tmp 6) = .int .i64 ((ps.length : Nat) : Int) := (T.rest 6 (by kernel_rfl)).trans h6_4
    have h7_7 : act7.eval (.tmp 7) = .int .i64 (k : Nat) := (T.rest 7 (by kernel_rfl)).trans h7_4
    have h8_7 : act7.eval (.tmp 8) = .bool q8 := (T.rest 8 (by kernel_rfl)).trans h8_4
    have Fpp_7 := Eng.Reads.below Fpp_4 T.below
    have Finn_7 := Eng.Reads.below Finn6 T.below
    have h4_7 : act7.eval (.tmp 4) = (vs.getD k undef) := T.done 2 4 rfl rfl
    have d7 := T.defers.trans d4
    have s7 := T.size.trans s4
    have bl7 := bl4.trans (T.below.mono bl4.size)
    clear T
    refine Eng.tail_nil ?_
    first | show Code.wp Tryd.prog _ _ _ _ | skip
    refine wp_seq ?_
    obtain ⟨q12, Bq12⟩ : ∃ b : Bool, b = (Pth.heavy (ps.getD k [])) := ⟨_, rfl⟩
    refine Eng.regionS (Eng.still [fun u_ => u_ = (vs.getD k undef), fun u_ => u_ = .bool q12]) (fun i => ([.plain, .plain] : List Eng.Kind).getD i .plain) 2 0 17 s7 rfl (by kernel_rfl) (Eng.still_stable _) (Or.inr (Eng.still_any _)) ?_ ?_
    · refine Eng.Steps.cons (fun _ => ?_) (Eng.Steps.cons (fun _ => ?_) (Eng.Steps.nil))
      · refine Eng.plain rfl rfl fun a w' H => ?_
        exact Eng.val (w1 := w') (v := (vs.getD k undef)) (Eng.run_move rfl ((H.kept 4 (by kernel_rfl)).trans h4_7)) (Below.refl _ _) rfl
      · refine Eng.plain rfl rfl fun a w' H => ?_
        refine Eng.call Tryd.func80 (by kernel_rfl) (by kernel_rfl) rfl #[(vs.getD k undef)] ?_ ?_
        · have e0 : a.eval (.tmp 11) = (vs.getD k undef) := (H.dep 0 11 (by kernel_rfl) rfl); simp only [List.map_toArray, List.map_cons, List.map_nil, e0]
        refine (Pth.heavy_calls (vs.getD k undef) (ps.getD k []) _ (Eng.Reads.below Finn_7 H.below)).mono ?_
        rintro e w'' ⟨rfl, hb⟩
        exact ⟨_, rfl, (by show _ = Value.bool q12; rw [Bq12]), hb⟩
    intro act8 w8 T
    have h0_8 : act8.eval (.tmp 0) = pv := (T.rest 0 (by kernel_rfl)).trans h0_7
    have h4_8 : act8.eval (.tmp 4) = (vs.getD k undef) := (T.rest 4 (by kernel_rfl)).trans h4_7
    have h5_8 : act8.eval (.tmp 5) = pv := (T.rest 5 (by kernel_rfl)).trans h5_7
    have h6_8 : act8.eval (.tmp 6) = .int .i64 ((ps.length : Nat) : Int) := (T.rest 6 (by kernel_rfl)).trans h6_7
    have h7_8 : act8.eval (.tmp 7) = .int .i64 (k : Nat) := (T.rest 7 (by kernel_rfl)).trans h7_7
    have h8_8 : act8.eval (.tmp 8) = .bool q8 := (T.rest 8 (by kernel_rfl)).trans h8_7
    have Fpp_8 := Eng.Reads.below Fpp_7 T.below
    have Finn_8 := Eng.Reads.below Finn_7 T.below
    have h12_8 : act8.eval (.tmp 12) = .bool q12 := T.done 1 12 rfl rfl
    have d8 := T.defers.trans d7
    have s8 := T.size.trans s7
    have bl8 := bl7.trans (T.below.mono bl7.size)
    clear T
    refine Eng.tail_nil ?_
    first | show Code.wp Tryd.prog _ _ _ _ | skip
    refine wp_cond_split h12_8 (fun hq => ?_) (fun hq => ?_)
    ·
      have kn9 := hq
      have c12 := Bq12.symm.trans hq
      clear hq
      refine wp_seq ?_
      refine Eng.regionS (Eng.still [fun u_ => u_ = .bool true]) (fun i => ([.plain] : List Eng.Kind).getD i .plain) 1 0 17 s8 rfl (by kernel_rfl) (Eng.still_stable _) (Or.inr (Eng.still_any _)) ?_ ?_
      · refine Eng.Steps.cons (fun _ => ?_) (Eng.Steps.nil)
        · refine Eng.plain rfl rfl fun a w' H => ?_
          exact Eng.val (w1 := w') (v := .bool true) (Eng.run_assign rfl (rfl : a.eval (.const (.bool true)) = .bool true)) (Below.refl _ _) rfl
      intro act10 w10 T
      have h0_10 : act10.eval (.tmp 0) = pv := (T.rest 0 (by kernel_rfl)).trans h0_8
      have h4_10 : act10.eval (.tmp 4) = (vs.getD k undef) := (T.rest 4 (by kernel_rfl)).trans h4_8
      have h5_10 : act10.eval (.tmp 5) = pv := (T.rest 5 (by kernel_rfl)).trans h5_8
      have h6_10 : act10.eval (.tmp 6) = .int .i64 ((ps.length : Nat) : Int) := (T.rest 6 (by kernel_rfl)).trans h6_8
      have h7_10 : act10.eval (.tmp 7) = .int .i64 (k : Nat) := (T.rest 7 (by kernel_rfl)).trans h7_8
      have h8_10 : act10.eval (.tmp 8) = .bool q8 := (T.rest 8 (by kernel_rfl)).trans h8_8
      have h12_10 : act10.eval (.tmp 12) = .bool q12 := (T.rest 12 (by kernel_rfl)).trans h12_8
      have Fpp_10 := Eng.Reads.below Fpp_8 T.below
      have Finn_10 := Eng.Reads.below Finn_8 T.below
      have h2_10 : act10.eval (.tmp 2) = .bool true := T.done 0 2 rfl rfl
      have d10 := T.defers.trans d8
      have s10 := T.size.trans s8
      have bl10 := bl8.trans (T.below.mono bl8.size)
      clear T
      refine Eng.tail_nil ?_
      first | show Code.wp Tryd.prog _ _ _ _ | skip
      refine wp_ret ?_
      repeat (first | refine Eng.in_ret ?_ | refine Eng.then_ret ?_)
      exact Eng.ret1 rfl d10 h2_10 ⟨congrArg _ (congrArg _ (Pth.heavies_at hk0 c12).symm), bl10⟩
    ·
      have kn11 := hq
      have c12 := Bq12.symm.trans hq
      clear hq
      refine wp_skip ?_
      first | show Code.wp Tryd.prog _ _ _ _ | skip
      refine Eng.regionS (Eng.still [fun u_ => u_ = .int .i64 (IntKind.i64.wrap ((k : Nat) + 1)), fun u_ => u_ = .int .i64 (IntKind.i64.wrap ((k : Nat) + 1))]) (fun i => ([.plain, .plain] : List Eng.Kind).getD i .plain) 2 0 17 s8 rfl (by kernel_rfl) (Eng.still_stable _) (Or.inr (Eng.still_any _)) ?_ ?_
      · refine Eng.Steps.cons (fun _ => ?_) (Eng.Steps.cons (fun _ => ?_) (Eng.Steps.nil))
        · refine Eng.plain rfl rfl fun a w' H => ?_
          refine Eng.val (w1 := w') (v := .int .i64 (IntKind.i64.wrap ((k : Nat) + 1))) ?_ (Below.refl _ _) rfl
          have e0 : a.eval (.tmp 7) = .int .i64 (k : Nat) := ((H.kept 7 (by kernel_rfl)).trans h7_8)
          have e1 : a.eval (.const (.int .i64 1)) = .int .i64 1 := (rfl : a.eval (.const (.int .i64 1)) = .int .i64 1)
          simp only [execOp, resolve, List.map_toArray, List.map_cons, List.map_nil, e0, e1]
          go_simp
          all_goals first | rfl | (simp; done) | (rw [Bool.eq_iff_iff]; simp; done) | omega | skip
        · refine Eng.plain rfl rfl fun a w' H => ?_
          exact Eng.val (w1 := w') (v := .int .i64 (IntKind.i64.wrap ((k : Nat) + 1))) (Eng.run_move rfl (H.dep 0 13 (by kernel_rfl) rfl)) (Below.refl _ _) rfl
      intro act12 w12 T
      have h0_12 : act12.eval (.tmp 0) = pv := (T.rest 0 (by kernel_rfl)).trans h0_8
      have h4_12 : act12.eval (.tmp 4) = (vs.getD k undef) := (T.rest 4 (by kernel_rfl)).trans h4_8
      have h5_12 : act12.eval (.tmp 5) = pv := (T.rest 5 (by kernel_rfl)).trans h5_8
      have h6_12 : act12.eval (.tmp 6) = .int .i64 ((ps.length : Nat) : Int) := (T.rest 6 (by kernel_rfl)).trans h6_8
      have h8_12 : act12.eval (.tmp 8) = .bool q8 := (T.rest 8 (by kernel_rfl)).trans h8_8
      have h12_12 : act12.eval (.tmp 12) = .bool q12 := (T.rest 12 (by kernel_rfl)).trans h12_8
      have Fpp_12 := Eng.Reads.below Fpp_8 T.below
      have Finn_12 := Eng.Reads.below Finn_8 T.below
      have h7_12 : act12.eval (.tmp 7) = .int .i64 (IntKind.i64.wrap ((k : Nat) + 1)) := T.done 1 7 rfl rfl
      have d12 := T.defers.trans d8
      have s12 := T.size.trans s8
      have bl12 := bl8.trans (T.below.mono bl8.size)
      clear T
      refine Eng.tail_nil ?_
      exact ⟨_, by omega, k + 1, rfl, by omega, Pth.lights_succ hsm c12, d12, s12, bl12, h0_12, h5_12, h6_12, (h7_12.trans (by first | rfl | (congr 1; rw [Eng.i64_id (by omega) (by omega)]; omega) | (simp; done)))⟩
  ·
    have kn13 := hq
    have c8 := Bq8.symm.trans hq
    clear hq
    have c8 := of_decide_eq_false c8
    have hke : k = ps.length := by omega
    refine wp_exit ?_
    first | show Code.wp Tryd.prog _ _ _ _ | skip
    first | show Code.wp Tryd.prog _ _ _ _ | skip
    refine wp_seq ?_
    obtain ⟨q16, Bq16⟩ : ∃ b : Bool, b = (decide (((ps.length : Nat) : Int) > 40)) := ⟨_, rfl⟩
    refine Eng.regionS (Eng.still [fun u_ => u_ = pv, fun u_ => u_ = .int .i64 ((ps.length : Nat) : Int), fun u_ => u_ = .bool q16, fun u_ => u_ = .bool q16]) (fun i => ([.plain, .plain, .plain, .plain] : List Eng.Kind).getD i .plain) 4 0 17 s4 rfl (by kernel_rfl) (Eng.still_stable _) (Or.inr (Eng.still_any _)) ?_ ?_
    · refine Eng.Steps.cons (fun _ => ?_) (Eng.Steps.cons (fun _ => ?_) (Eng.Steps.cons (fun _ => ?_) (Eng.Steps.cons (fun _ => ?_) (Eng.Steps.nil))))
      · refine Eng.plain rfl rfl fun a w' H => ?_
        exact Eng.val (w1 := w') (v := pv) (Eng.run_move rfl ((H.kept 0 (by kernel_rfl)).trans h0_4)) (Below.refl _ _) rfl
      · refine Eng.plain rfl rfl fun a w' H => ?_
        refine Eng.val (w1 := w') (v := .int .i64 ((ps.length : Nat) : Int)) ?_ (Below.refl _ _) rfl
        exact Eng.run_len_sl rfl Tryd.underlying59 (show a.eval (.tmp 14) = pv from (H.dep 0 14 (by kernel_rfl) rfl)) (Eng.Reads.below Fpp_4 H.below)
      · refine Eng.plain rfl rfl fun a w' H => ?_
        refine Eng.val (w1 := w') (v := .bool (decide (((ps.length : Nat) : Int) > 40))) ?_ (Below.refl _ _) (by show _ = Value.bool q16; rw [Bq16])
        have e0 : a.eval (.tmp 15) = .int .i64 ((ps.length : Nat) : Int) := (H.dep 1 15 (by kernel_rfl) rfl)
        have e1 : a.eval (.const (.int .i64 40)) = .int .i64 40 := (rfl : a.eval (.const (.int .i64 40)) = .int .i64 40)
        simp only [execOp, resolve, List.map_toArray, List.map_cons, List.map_nil, e0, e1]
        go_simp
        all_goals first | rfl | (simp; done) | (rw [Bool.eq_iff_iff]; simp; done) | omega | skip
      · refine Eng.plain rfl rfl fun a w' H => ?_
        exact Eng.val (w1 := w') (v := .bool q16) (Eng.run_assign rfl (H.dep 2 16 (by kernel_rfl) rfl)) (Below.refl _ _) rfl
    intro act14 w14 T
    have h0_14 : act14.eval (.tmp 0) = pv := (T.rest 0 (by kernel_rfl)).trans h0_4
    have h5_14 : act14.eval (.tmp 5) = pv := (T.rest 5 (by kernel_rfl)).trans h5_4
    have h6_14 : act14.eval (.tmp 6) = .int .i64 ((ps.length : Nat) : Int) := (T.rest 6 (by kernel_rfl)).trans h6_4
    have h7_14 : act14.eval (.tmp 7) = .int .i64 (k : Nat) := (T.rest 7 (by kernel_rfl)).trans h7_4
    have h8_14 : act14.eval (.tmp 8) = .bool q8 := (T.rest 8 (by kernel_rfl)).trans h8_4
    have Fpp_14 := Eng.Reads.below Fpp_4 T.below
    have h2_14 : act14.eval (.tmp 2) = .bool q16 := T.done 3 2 rfl rfl
    have d14 := T.defers.trans d4
    have s14 := T.size.trans s4
    have bl14 := bl4.trans (T.below.mono bl4.size)
    clear T
    refine Eng.tail_nil ?_
    first | show Code.wp Tryd.prog _ _ _ _ | skip
    refine wp_ret ?_
    repeat (first | refine Eng.in_ret ?_ | refine Eng.then_ret ?_)
    exact Eng.ret1 rfl d14 (h2_14.trans (by rw [Bq16, Pth.heavies_all (fun i hi => hsm i (by omega))]; simp; omega)) ⟨rfl, bl14⟩
end Go.Proofs.YthgafcaoibfchaaDoor.X
end
section
namespace Go.Proofs.YthgafcaoibfchaaDoor.X
open Go.RowKit Go.Shelf Go.Proofs Go.Proofs.YthgafcaoibfchaaDoorW.PrintWords Go.Proofs.YthgafcaoibfchaaDoorW.PrintLast Go.Proofs.YthgafcaoibfchaaDoorW.PrintMore
set_option linter.unusedVariables false
set_option linter.unusedSimpArgs false
attribute [local go_sem] max2_int min2_int max_two min_two
set_option maxHeartbeats 4000000 in
set_option maxRecDepth 100000 in
theorem Pth.theirs_calls (v : Value) (l : List Pth.Part) (w : World) (hx : Eng.Reads w v l.length 2 (Pth.cellsP l)) (hl : l.length ≤ 5864062014634) : Calls Tryd.prog 79 #[v] w fun e w' => ∃ v', e = .returned v' ∧ w'.ownsRow w.heap.size 115 2 v' l.length (Pth.cellsP l) ∧ Below w.heap.size w w' := by
  have hu157 := Tryd.underlying157
  refine Eng.enter Tryd.func79 rfl fun act0 d0 s0 v0 => ?_
  have s0 : act0.tmps.size = 18 := s0
  have h0_0 : act0.eval (.tmp 0) = v := v0 0 (by simp)
  clear v0
  have bl0 : Below w.heap.size w w := Below.refl _ _
  refine wp_seq ?_
  refine Eng.regionS (Eng.still [fun u_ => u_ = .slice none 0 0]) (fun i => ([.plain] : List Eng.Kind).getD i .plain) 1 0 18 s0 rfl (by kernel_rfl) (Eng.still_stable _) (Or.inr (Eng.still_any _)) ?_ ?_
  · refine Eng.Steps.cons (fun _ => ?_) (Eng.Steps.nil)
    · refine Eng.plain rfl rfl fun a w' H => ?_
      exact Eng.val (w1 := w') (v := .slice none 0 0) (Eng.run_assign rfl (rfl : a.eval (.const (.slice none 0 0)) = .slice none 0 0)) (Below.refl _ _) rfl
  intro act1 w1 T
  have h0_1 : act1.eval (.tmp 0) = v := (T.rest 0 (by kernel_rfl)).trans h0_0
  have Fin_1 := Eng.Reads.below hx T.below
  have h2_1 : act1.eval (.tmp 2) = .slice none 0 0 := T.done 0 2 rfl rfl
  have d1 := T.defers.trans d0
  have s1 := T.size.trans s0
  have bl1 := bl0.trans (T.below.mono bl0.size)
  clear T
  refine Eng.tail_nil ?_
  first | show Code.wp Tryd.prog _ _ _ _ | skip
  refine wp_seq ?_
  refine Eng.regionS (Eng.still [fun u_ => u_ = .slice none 0 0]) (fun i => ([.plain] : List Eng.Kind).getD i .plain) 1 0 18 s1 rfl (by kernel_rfl) (Eng.still_stable _) (Or.inr (Eng.still_any _)) ?_ ?_
  · refine Eng.Steps.cons (fun _ => ?_) (Eng.Steps.nil)
    · refine Eng.plain rfl rfl fun a w' H => ?_
      exact Eng.val (w1 := w') (v := .slice none 0 0) (Eng.run_assign rfl (rfl : a.eval (.const (.slice none 0 0)) = .slice none 0 0)) (Below.refl _ _) rfl
  intro act2 w2 T
  have h0_2 : act2.eval (.tmp 0) = v := (T.rest 0 (by kernel_rfl)).trans h0_1
  have h2_2 : act2.eval (.tmp 2) = .slice none 0 0 := (T.rest 2 (by kernel_rfl)).trans h2_1
  have Fin_2 := Eng.Reads.below Fin_1 T.below
  have h3_2 : act2.eval (.tmp 3) = .slice none 0 0 := T.done 0 3 rfl rfl
  have d2 := T.defers.trans d1
  have s2 := T.size.trans s1
  have bl2 := bl1.trans (T.below.mono bl1.size)
  clear T
  refine Eng.tail_nil ?_
  first | show Code.wp Tryd.prog _ _ _ _ | skip
  refine wp_seq ?_
  refine wp_seq ?_
  refine Eng.regionS (Eng.still [fun u_ => u_ = v, fun u_ => u_ = .int .i64 ((l.length : Nat) : Int), fun u_ => u_ = .int .i64 0]) (fun i => ([.plain, .plain, .plain] : List Eng.Kind).getD i .plain) 3 0 18 s2 rfl (by kernel_rfl) (Eng.still_stable _) (Or.inr (Eng.still_any _)) ?_ ?_
  · refine Eng.Steps.cons (fun _ => ?_) (Eng.Steps.cons (fun _ => ?_) (Eng.Steps.cons (fun _ => ?_) (Eng.Steps.nil)))
    · refine Eng.plain rfl rfl fun a w' H => ?_
      exact Eng.val (w1 := w') (v := v) (Eng.run_move rfl ((H.kept 0 (by kernel_rfl)).trans h0_2)) (Below.refl _ _) rfl
    · refine Eng.plain rfl rfl fun a w' H => ?_
      refine Eng.val (w1 := w') (v := .int .i64 ((l.length : Nat) : Int)) ?_ (Below.refl _ _) rfl
      exact Eng.run_len_sl rfl Tryd.underlying118 (show a.eval (.tmp 6) = v from (H.dep 0 6 (by kernel_rfl) rfl)) (Eng.Reads.below Fin_2 H.below)
    · refine Eng.plain rfl rfl fun a w' H => ?_
      exact Eng.val (w1 := w') (v := .int .i64 0) (Eng.run_move rfl (rfl : a.eval (.const (.int .i64 0)) = .int .i64 0)) (Below.refl _ _) rfl
  intro act3 w3 T
  have h0_3 : act3.eval (.tmp 0) = v := (T.rest 0 (by kernel_rfl)).trans h0_2
  have h2_3 : act3.eval (.tmp 2) = .slice none 0 0 := (T.rest 2 (by kernel_rfl)).trans h2_2
  have h3_3 : act3.eval (.tmp 3) = .slice none 0 0 := (T.rest 3 (by kernel_rfl)).trans h3_2
  have Fin_3 := Eng.Reads.below Fin_2 T.below
  have h6_3 : act3.eval (.tmp 6) = v := T.done 0 6 rfl rfl
  have h7_3 : act3.eval (.tmp 7) = .int .i64 ((l.length : Nat) : Int) := T.done 1 7 rfl rfl
  have h8_3 : act3.eval (.tmp 8) = .int .i64 0 := T.done 2 8 rfl rfl
  have d3 := T.defers.trans d2
  have s3 := T.size.trans s2
  have bl3 := bl2.trans (T.below.mono bl2.size)
  clear T
  refine Eng.tail_nil ?_
  first | show Code.wp Tryd.prog _ _ _ _ | skip
  refine wp_block ?_
  refine Eng.loopN (fun n a w' => ∃ (k : Nat) (v3 : Value), l.length - k = n ∧ (k ≤ l.length) ∧ (w'.ownsRow w.heap.size 115 2 v3 (List.take k l).length (Pth.cellsP (List.take k l))) ∧ a.defers = [] ∧ a.tmps.size = 18 ∧ Below w.heap.size w w' ∧ a.eval (.tmp 0) = v ∧ a.eval (.tmp 2) = .slice none 0 0 ∧ a.eval (.tmp 3) = v3 ∧ a.eval (.tmp 6) = v ∧ a.eval (.tmp 7) = .int .i64 ((l.length : Nat) : Int) ∧ a.eval (.tmp 8) = .int .i64 (k : Nat)) (n0 := l.length - 0) ?_ ?_
  · exact ⟨0, .slice none 0 0, rfl, by omega, World.ownsRow_nil _ _ _ _, d3, s3, bl3, h0_3, h2_3, (h3_3.trans (by first | rfl | (congr 1; rw [Eng.i64_id (by omega) (by omega)]; omega) | (simp; done))), h6_3, h7_3, (h8_3.trans (by first | rfl | (congr 1; rw [Eng.i64_id (by omega) (by omega)]; omega) | (simp; done)))⟩
  rintro n act4 w4 ⟨k, v3, rfl, hc0_4, hc1_4, d4, s4, bl4, h0_4, h2_4, h3_4, h6_4, h7_4, h8_4⟩
  have Fin_4 := Eng.Reads.below hx bl4
  have hk1 := hc0_4
  have Ft_4 := Eng.Reads.of_own hc1_4
  refine wp_seq ?_
  obtain ⟨q9, Bq9⟩ : ∃ b : Bool, b = (decide ((k : Nat) < ((l.length : Nat) : Int))) := ⟨_, rfl⟩
  refine Eng.regionS (Eng.still [fun u_ => u_ = .bool q9]) (fun i => ([.plain] : List Eng.Kind).getD i .plain) 1 0 18 s4 rfl (by kernel_rfl) (Eng.still_stable _) (Or.inr (Eng.still_any _)) ?_ ?_
  · refine Eng.Steps.cons (fun _ => ?_) (Eng.Steps.nil)
    · refine Eng.plain rfl rfl fun a w' H => ?_
      refine Eng.val (w1 := w') (v := .bool (decide ((k : Nat) < ((l.length : Nat) : Int)))) ?_ (Below.refl _ _) (by show _ = Value.bool q9; rw [Bq9])
      have e0 : a.eval (.tmp 8) = .int .i64 (k : Nat) := ((H.kept 8 (by kernel_rfl)).trans h8_4)
      have e1 : a.eval (.tmp 7) = .int .i64 ((l.length : Nat) : Int) := ((H.kept 7 (by kernel_rfl)).trans h7_4)
      simp only [execOp, resolve, List.map_toArray, List.map_cons, List.map_nil, e0, e1]
      go_simp
      all_goals first | rfl | (simp; done) | (rw [Bool.eq_iff_iff]; simp; done) | omega | skip
  intro act5 w5 T
  have h0_5 : act5.eval (.tmp 0) = v := (T.rest 0 (by kernel_rfl)).trans h0_4
  have h2_5 : act5.eval (.tmp 2) = .slice none 0 0 := (T.rest 2 (by kernel_rfl)).trans h2_4
  have h3_5 : act5.eval (.tmp 3) = v3 := (T.rest 3 (by kernel_rfl)).trans h3_4
  have h6_5 : act5.eval (.tmp 6) = v := (T.rest 6 (by kernel_rfl)).trans h6_4
  have h7_5 : act5.eval (.tmp 7) = .int .i64 ((l.length : Nat) : Int) := (T.rest 7 (by kernel_rfl)).trans h7_4
  have h8_5 : act5.eval (.tmp 8) = .int .i64 (k : Nat) := (T.rest 8 (by kernel_rfl)).trans h8_4
  have Fin_5 := Eng.Reads.below Fin_4 T.below
  have Ft_5 := Eng.Reads.below Ft_4 T.below
  have Ot_5 := Eng.own_below hc1_4 T.below
  have h9_5 : act5.eval (.tmp 9) = .bool q9 := T.done 0 9 rfl rfl
  have d5 := T.defers.trans d4
  have s5 := T.size.trans s4
  have bl5 := bl4.trans (T.below.mono bl4.size)
  clear T
  refine Eng.tail_nil ?_
  first | show Code.wp Tryd.prog _ _ _ _ | skip
  refine wp_seq ?_
  refine wp_cond_split h9_5 (fun hq => ?_) (fun hq => ?_)
  ·
    have kn6 := hq
    have c9 := Bq9.symm.trans hq
    clear hq
    have c9 := of_decide_eq_true c9
    have hk0 : k < l.length := by omega
    refine wp_skip ?_
    first | show Code.wp Tryd.prog _ _ _ _ | skip
    refine wp_seq ?_
    refine wp_block ?_
    refine wp_seq ?_
    refine Eng.regionS (Eng.still [fun u_ => u_ = Eng.elemPtr v (k * 2), fun u_ => u_ = .agg #[.int .i64 ((l.getD k default).1), .string ((l.getD k default).2)], fun u_ => True, fun u_ => True]) (fun i => ([.plain, .plain, .alloc 157 #[.int .i64 0, .string ⟨#[]⟩], .store 2 #[.int .i64 ((l.getD k default).1), .string ((l.getD k default).2)]] : List Eng.Kind).getD i .plain) 4 0 18 s5 rfl (by kernel_rfl) (Eng.still_stable _) (Or.inr (Eng.still_any _)) ?_ ?_
    · refine Eng.Steps.cons (fun _ => ?_) (Eng.Steps.cons (fun _ => ?_) (Eng.Steps.cons (fun _ => ?_) (Eng.Steps.cons (fun _ => ?_) (Eng.Steps.nil))))
      · refine Eng.plain rfl rfl fun a w' H => ?_
        refine Eng.val (w1 := w') (v := Eng.elemPtr v (k * 2)) ?_ (Below.refl _ _) rfl
        exact Eng.run_index_sl rfl Tryd.underlying118 (by kernel_rfl) (show a.eval (.tmp 6) = v from ((H.kept 6 (by kernel_rfl)).trans h6_5)) ((show a.eval (.tmp 8) = .int .i64 (k : Nat) from ((H.kept 8 (by kernel_rfl)).trans h8_5)).trans (congrArg (Value.int _) (show (k : Nat) = ((k : Nat) : Int) from by omega))) (Eng.Reads.below Fin_5 H.below) (by omega) rfl
      · refine Eng.plain rfl rfl fun a w' H => ?_
        refine Eng.val (w1 := w') (v := .agg #[.int .i64 ((l.getD k default).1), .string ((l.getD k default).2)]) ?_ (Below.refl _ _) rfl
        exact Eng.run_load_els [.int .i64 ((l.getD k default).1), .string ((l.getD k default).2)] rfl (show a.eval (.tmp 10) = Eng.elemPtr v (k * 2) from (H.dep 0 10 (by kernel_rfl) rfl)) (Eng.Reads.below Fin_5 H.below) (Pth.cells_at l k (by omega)) rfl Tryd.underlying157 rfl (by kernel_rfl)
      · refine Eng.made rfl (by simp) rfl (fun a w' hd ho => ?_) (fun _ _ => trivial)
        simp only [execOp]
        go_simp
      · refine Eng.stored [.int .i64 ((l.getD k default).1), .string ((l.getD k default).2)] rfl rfl rfl (j := 2) (d := 5) (by kernel_rfl) rfl rfl (Eng.store_uniq (by kernel_rfl)) rfl rfl fun a w' g e hc hd ho => ?_
        have e0 : a.eval _ = .agg #[.int .i64 ((l.getD k default).1), .string ((l.getD k default).2)] := (hd 1 11 (by kernel_rfl) rfl)
        have z0 := (Eng.cells hc 0).trans rfl
        have z1 := (Eng.cells hc 1).trans rfl
        have f0 := Eng.unfrozen hc 0
        have f1 := Eng.unfrozen hc 1
        simp only [execOp, e, e0]
        go_simp
        rfl
    intro act7 w7 T
    have h0_7 : act7.eval (.tmp 0) = v := (T.rest 0 (by kernel_rfl)).trans h0_5
    have h2_7 : act7.eval (.tmp 2) = .slice none 0 0 := (T.rest 2 (by kernel_rfl)).trans h2_5
    have h3_7 : act7.eval (.tmp 3) = v3 := (T.rest 3 (by kernel_rfl)).trans h3_5
    have h6_7 : act7.eval (.tmp 6) = v := (T.rest 6 (by kernel_rfl)).trans h6_5
    have h7_7 : act7.eval (.tmp 7) = .int .i64 ((l.length : Nat) : Int) := (T.rest 7 (by kernel_rfl)).trans h7_5
    have h8_7 : act7.eval (.tmp 8) = .int .i64 (k : Nat) := (T.rest 8 (by kernel_rfl)).trans h8_5
    have h9_7 : act7.eval (.tmp 9) = .bool q9 := (T.rest 9 (by kernel_rfl)).trans h9_5
    have Fin_7 := Eng.Reads.below Fin_5 T.below
    have Ft_7 := Eng.Reads.below Ft_5 T.below
    have Ot_7 := Eng.own_below Ot_5 T.below
    obtain ⟨g5_7, h5_7, rg5_7, lg5_7_7, kg5_7_7⟩ := T.st 2 5 3 _ _ _ rfl rfl rfl rfl rfl
    have og5_7 : w.heap.size ≤ g5_7 := Nat.le_trans bl5.size rg5_7
    have d7 := T.defers.trans d5
    have s7 := T.size.trans s5
    have bl7 := bl5.trans (T.below.mono bl5.size)
    clear T
    refine Eng.tail_nil ?_
    first | show Code.wp Tryd.prog _ _ _ _ | skip
    refine Eng.regionT (n := 5) rfl ?_
    refine Eng.tail_val rfl rfl rfl (Eng.run_move rfl h3_7) s7 rfl fun act8 d8 s8 hv hr => ?_
    have h0_8 : act8.eval (.tmp 0) = v := (hr 0 rfl).trans h0_7
    have h2_8 : act8.eval (.tmp 2) = .slice none 0 0 := (hr 2 rfl).trans h2_7
    have h3_8 : act8.eval (.tmp 3) = v3 := (hr 3 rfl).trans h3_7
    have h5_8 : act8.eval (.tmp 5) = .pointer (some ⟨g5_7, 0, none⟩) := (hr 5 rfl).trans h5_7
    have h6_8 : act8.eval (.tmp 6) = v := (hr 6 rfl).trans h6_7
    have h7_8 : act8.eval (.tmp 7) = .int .i64 ((l.length : Nat) : Int) := (hr 7 rfl).trans h7_7
    have h8_8 : act8.eval (.tmp 8) = .int .i64 (k : Nat) := (hr 8 rfl).trans h8_7
    have h9_8 : act8.eval (.tmp 9) = .bool q9 := (hr 9 rfl).trans h9_7
    have h12_8 : act8.eval (.tmp 12) = v3 := hv
    have d8 := d8.trans d7
    clear hv hr
    refine Eng.tail_val rfl rfl rfl (Eng.run_load_all rfl h5_8 kg5_7_7 Tryd.underlying157 rfl (by kernel_rfl)) s8 rfl fun act9 d9 s9 hv hr => ?_
    have h0_9 : act9.eval (.tmp 0) = v := (hr 0 rfl).trans h0_8
    have h2_9 : act9.eval (.tmp 2) = .slice none 0 0 := (hr 2 rfl).trans h2_8
    have h3_9 : act9.eval (.tmp 3) = v3 := (hr 3 rfl).trans h3_8
    have h5_9 : act9.eval (.tmp 5) = .pointer (some ⟨g5_7, 0, none⟩) := (hr 5 rfl).trans h5_8
    have h6_9 : act9.eval (.tmp 6) = v := (hr 6 rfl).trans h6_8
    have h7_9 : act9.eval (.tmp 7) = .int .i64 ((l.length : Nat) : Int) := (hr 7 rfl).trans h7_8
    have h8_9 : act9.eval (.tmp 8) = .int .i64 (k : Nat) := (hr 8 rfl).trans h8_8
    have h9_9 : act9.eval (.tmp 9) = .bool q9 := (hr 9 rfl).trans h9_8
    have h12_9 : act9.eval (.tmp 12) = v3 := (hr 12 rfl).trans h12_8
    have h13_9 : act9.eval (.tmp 13) = .agg #[.int .i64 ((l.getD k default).1), .string ((l.getD k default).2)] := hv
    have d9 := d9.trans d8
    clear hv hr
    refine Eng.tail_ex rfl rfl rfl (Eng.run_build1I (size := 2) (z := .agg #[.int .i64 0, .string ⟨#[]⟩]) [.int .i64 ((l.getD k default).1), .string ((l.getD k default).2)] rfl Tryd.underlying82 (by kernel_rfl) rfl rfl rfl (by kernel_rfl) h13_9) s9 rfl fun v_10 w10 act10 R d10 s10 hv hr => ?_
    obtain ⟨F_10, b_10⟩ := R
    have h0_10 : act10.eval (.tmp 0) = v := (hr 0 rfl).trans h0_9
    have h2_10 : act10.eval (.tmp 2) = .slice none 0 0 := (hr 2 rfl).trans h2_9
    have h3_10 : act10.eval (.tmp 3) = v3 := (hr 3 rfl).trans h3_9
    have h5_10 : act10.eval (.tmp 5) = .pointer (some ⟨g5_7, 0, none⟩) := (hr 5 rfl).trans h5_9
    have h6_10 : act10.eval (.tmp 6) = v := (hr 6 rfl).trans h6_9
    have h7_10 : act10.eval (.tmp 7) = .int .i64 ((l.length : Nat) : Int) := (hr 7 rfl).trans h7_9
    have h8_10 : act10.eval (.tmp 8) = .int .i64 (k : Nat) := (hr 8 rfl).trans h8_9
    have h9_10 : act10.eval (.tmp 9) = .bool q9 := (hr 9 rfl).trans h9_9
    have h12_10 : act10.eval (.tmp 12) = v3 := (hr 12 rfl).trans h12_9
    have h13_10 : act10.eval (.tmp 13) = .agg #[.int .i64 ((l.getD k default).1), .string ((l.getD k default).2)] := (hr 13 rfl).trans h13_9
    have h14_10 : act10.eval (.tmp 14) = v_10 := hv
    have d10 := d10.trans d9
    clear hv hr
    have kg5_7_10 := (b_10.block _ lg5_7_7).trans kg5_7_7
    have lg5_7_10 := Nat.lt_of_lt_of_le lg5_7_7 b_10.size
    have Fin_10 := Eng.Reads.below Fin_7 b_10
    have Ft_10 := Eng.Reads.below Ft_7 b_10
    have Ot_10 := Eng.own_below Ot_7 b_10
    have bl10 := bl7.trans (b_10.mono bl7.size)
    refine Eng.tail_ex rfl rfl rfl (Eng.run_appendT (z := .agg #[.int .i64 0, .string ⟨#[]⟩]) rfl Tryd.underlying82 (by kernel_rfl) rfl rfl h12_10 Ot_10 h14_10 F_10 (by intro u hu; simp at hu; rcases hu with rfl | rfl <;> rfl) (by simp only [List.length_take]; omega) bl10.size) s10 rfl fun v_11 w11 act11 R d11 s11 hv hr => ?_
    obtain ⟨O_11, _, b_11, G_11, _⟩ := R
    have h0_11 : act11.eval (.tmp 0) = v := (hr 0 rfl).trans h0_10
    have h2_11 : act11.eval (.tmp 2) = .slice none 0 0 := (hr 2 rfl).trans h2_10
    have h3_11 : act11.eval (.tmp 3) = v3 := (hr 3 rfl).trans h3_10
    have h5_11 : act11.eval (.tmp 5) = .pointer (some ⟨g5_7, 0, none⟩) := (hr 5 rfl).trans h5_10
    have h6_11 : act11.eval (.tmp 6) = v := (hr 6 rfl).trans h6_10
    have h7_11 : act11.eval (.tmp 7) = .int .i64 ((l.length : Nat) : Int) := (hr 7 rfl).trans h7_10
    have h8_11 : act11.eval (.tmp 8) = .int .i64 (k : Nat) := (hr 8 rfl).trans h8_10
    have h9_11 : act11.eval (.tmp 9) = .bool q9 := (hr 9 rfl).trans h9_10
    have h12_11 : act11.eval (.tmp 12) = v3 := (hr 12 rfl).trans h12_10
    have h13_11 : act11.eval (.tmp 13) = .agg #[.int .i64 ((l.getD k default).1), .string ((l.getD k default).2)] := (hr 13 rfl).trans h13_10
    have h14_11 : act11.eval (.tmp 14) = v_10 := (hr 14 rfl).trans h14_10
    have h15_11 : act11.eval (.tmp 15) = v_11 := hv
    have d11 := d11.trans d10
    clear hv hr
    have kg5_7_11 := (G_11.block _ lg5_7_10 (Eng.own_ne Ot_10 kg5_7_10 rfl)).trans kg5_7_10
    have lg5_7_11 := Nat.lt_of_lt_of_le lg5_7_10 G_11.size
    have bl11 := bl10.trans b_11
    have Fin_11 := Eng.Reads.below hx bl11
    have Oa11 : w11.ownsRow w.heap.size 115 2 v_11 ((List.take k l) ++ [((l.getD k default).1, (l.getD k default).2)]).length (Pth.cellsP ((List.take k l) ++ [((l.getD k default).1, (l.getD k default).2)])) := Pth.own_cat (r := [_]) O_11
    have Fa11 := Eng.Reads.of_own Oa11
    refine Eng.tail_val rfl rfl rfl (Eng.run_assign rfl h15_11) s11 rfl fun act12 d12 s12 hv hr => ?_
    have h0_12 : act12.eval (.tmp 0) = v := (hr 0 rfl).trans h0_11
    have h2_12 : act12.eval (.tmp 2) = .slice none 0 0 := (hr 2 rfl).trans h2_11
    have h5_12 : act12.eval (.tmp 5) = .pointer (some ⟨g5_7, 0, none⟩) := (hr 5 rfl).trans h5_11
    have h6_12 : act12.eval (.tmp 6) = v := (hr 6 rfl).trans h6_11
    have h7_12 : act12.eval (.tmp 7) = .int .i64 ((l.length : Nat) : Int) := (hr 7 rfl).trans h7_11
    have h8_12 : act12.eval (.tmp 8) = .int .i64 (k : Nat) := (hr 8 rfl).trans h8_11
    have h9_12 : act12.eval (.tmp 9) = .bool q9 := (hr 9 rfl).trans h9_11
    have h12_12 : act12.eval (.tmp 12) = v3 := (hr 12 rfl).trans h12_11
    have h13_12 : act12.eval (.tmp 13) = .agg #[.int .i64 ((l.getD k default).1), .string ((l.getD k default).2)] := (hr 13 rfl).trans h13_11
    have h14_12 : act12.eval (.tmp 14) = v_10 := (hr 14 rfl).trans h14_11
    have h15_12 : act12.eval (.tmp 15) = v_11 := (hr 15 rfl).trans h15_11
    have h3_12 : act12.eval (.tmp 3) = v_11 := hv
    have d12 := d12.trans d11
    clear hv hr
    refine Eng.tail_nil ?_
    first | show Code.wp Tryd.prog _ _ _ _ | skip
    refine Eng.regionS (Eng.still [fun u_ => u_ = .int .i64 (IntKind.i64.wrap ((k : Nat) + 1)), fun u_ => u_ = .int .i64 (IntKind.i64.wrap ((k : Nat) + 1))]) (fun i => ([.plain, .plain] : List Eng.Kind).getD i .plain) 2 0 18 s12 rfl (by kernel_rfl) (Eng.still_stable _) (Or.inr (Eng.still_any _)) ?_ ?_
    · refine Eng.Steps.cons (fun _ => ?_) (Eng.Steps.cons (fun _ => ?_) (Eng.Steps.nil))
      · refine Eng.plain rfl rfl fun a w' H => ?_
        refine Eng.val (w1 := w') (v := .int .i64 (IntKind.i64.wrap ((k : Nat) + 1))) ?_ (Below.refl _ _) rfl
        have e0 : a.eval (.tmp 8) = .int .i64 (k : Nat) := ((H.kept 8 (by kernel_rfl)).trans h8_12)
        have e1 : a.eval (.const (.int .i64 1)) = .int .i64 1 := (rfl : a.eval (.const (.int .i64 1)) = .int .i64 1)
        simp only [execOp, resolve, List.map_toArray, List.map_cons, List.map_nil, e0, e1]
        go_simp
        all_goals first | rfl | (simp; done) | (rw [Bool.eq_iff_iff]; simp; done) | omega | skip
      · refine Eng.plain rfl rfl fun a w' H => ?_
        exact Eng.val (w1 := w') (v := .int .i64 (IntKind.i64.wrap ((k : Nat) + 1))) (Eng.run_move rfl (H.dep 0 16 (by kernel_rfl) rfl)) (Below.refl _ _) rfl
    intro act13 w13 T
    have h0_13 : act13.eval (.tmp 0) = v := (T.rest 0 (by kernel_rfl)).trans h0_12
    have h2_13 : act13.eval (.tmp 2) = .slice none 0 0 := (T.rest 2 (by kernel_rfl)).trans h2_12
    have h3_13 : act13.eval (.tmp 3) = v_11 := (T.rest 3 (by kernel_rfl)).trans h3_12
    have h5_13 : act13.eval (.tmp 5) = .pointer (some ⟨g5_7, 0, none⟩) := (T.rest 5 (by kernel_rfl)).trans h5_12
    have h6_13 : act13.eval (.tmp 6) = v := (T.rest 6 (by kernel_rfl)).trans h6_12
    have h7_13 : act13.eval (.tmp 7) = .int .i64 ((l.length : Nat) : Int) := (T.rest 7 (by kernel_rfl)).trans h7_12
    have h9_13 : act13.eval (.tmp 9) = .bool q9 := (T.rest 9 (by kernel_rfl)).trans h9_12
    have kg5_7_13 := (T.below.block _ lg5_7_11).trans kg5_7_11
    have lg5_7_13 := Nat.lt_of_lt_of_le lg5_7_11 T.below.size
    have Fin_13 := Eng.Reads.below Fin_11 T.below
    have Fa11_13 := Eng.Reads.below Fa11 T.below
    have Oa11_13 := Eng.own_below Oa11 T.below
    have h8_13 : act13.eval (.tmp 8) = .int .i64 (IntKind.i64.wrap ((k : Nat) + 1)) := T.done 1 8 rfl rfl
    have d13 := T.defers.trans d12
    have s13 := T.size.trans s12
    have bl13 := bl11.trans (T.below.mono bl11.size)
    clear T
    refine Eng.tail_nil ?_
    exact ⟨_, by omega, k + 1, v_11, rfl, by omega, by rw [Pth.take_one hk0]; exact Oa11_13, d13, s13, bl13, h0_13, h2_13, (h3_13.trans (by first | rfl | (congr 1; rw [Eng.i64_id (by omega) (by omega)]; omega) | (simp; done))), h6_13, h7_13, (h8_13.trans (by first | rfl | (congr 1; rw [Eng.i64_id (by omega) (by omega)]; omega) | (simp; done)))⟩
  ·
    have kn14 := hq
    have c9 := Bq9.symm.trans hq
    clear hq
    have c9 := of_decide_eq_false c9
    refine wp_exit ?_
    first | show Code.wp Tryd.prog _ _ _ _ | skip
    first | show Code.wp Tryd.prog _ _ _ _ | skip
    refine wp_seq ?_
    refine Eng.regionS (Eng.still [fun u_ => u_ = v3, fun u_ => u_ = v3]) (fun i => ([.plain, .plain] : List Eng.Kind).getD i .plain) 2 0 18 s5 rfl (by kernel_rfl) (Eng.still_stable _) (Or.inr (Eng.still_any _)) ?_ ?_
    · refine Eng.Steps.cons (fun _ => ?_) (Eng.Steps.cons (fun _ => ?_) (Eng.Steps.nil))
      · refine Eng.plain rfl rfl fun a w' H => ?_
        exact Eng.val (w1 := w') (v := v3) (Eng.run_move rfl ((H.kept 3 (by kernel_rfl)).trans h3_5)) (Below.refl _ _) rfl
      · refine Eng.plain rfl rfl fun a w' H => ?_
        exact Eng.val (w1 := w') (v := v3) (Eng.run_assign rfl (H.dep 0 17 (by kernel_rfl) rfl)) (Below.refl _ _) rfl
    intro act15 w15 T
    have h0_15 : act15.eval (.tmp 0) = v := (T.rest 0 (by kernel_rfl)).trans h0_5
    have h3_15 : act15.eval (.tmp 3) = v3 := (T.rest 3 (by kernel_rfl)).trans h3_5
    have h6_15 : act15.eval (.tmp 6) = v := (T.rest 6 (by kernel_rfl)).trans h6_5
    have h7_15 : act15.eval (.tmp 7) = .int .i64 ((l.length : Nat) : Int) := (T.rest 7 (by kernel_rfl)).trans h7_5
    have h8_15 : act15.eval (.tmp 8) = .int .i64 (k : Nat) := (T.rest 8 (by kernel_rfl)).trans h8_5
    have h9_15 : act15.eval (.tmp 9) = .bool q9 := (T.rest 9 (by kernel_rfl)).trans h9_5
    have Fin_15 := Eng.Reads.below Fin_5 T.below
    have Ft_15 := Eng.Reads.below Ft_5 T.below
    have Ot_15 := Eng.own_below Ot_5 T.below
    have h2_15 : act15.eval (.tmp 2) = v3 := T.done 1 2 rfl rfl
    have d15 := T.defers.trans d5
    have s15 := T.size.trans s5
    have bl15 := bl5.trans (T.below.mono bl5.size)
    clear T
    refine Eng.tail_nil ?_
    first | show Code.wp Tryd.prog _ _ _ _ | skip
    refine wp_ret ?_
    repeat (first | refine Eng.in_ret ?_ | refine Eng.then_ret ?_)
    obtain rfl : k = l.length := by omega
    have Ol := Ot_15
    rw [List.take_length] at Ol
    exact Eng.ret1 rfl d15 h2_15 ⟨_, rfl, Ol, bl15⟩
end Go.Proofs.YthgafcaoibfchaaDoor.X
end
section
namespace Go.Proofs.YthgafcaoibfchaaDoor.X
open Go.RowKit Go.Shelf Go.Proofs Go.Proofs.YthgafcaoibfchaaDoorW.PrintWords Go.Proofs.YthgafcaoibfchaaDoorW.PrintLast Go.Proofs.YthgafcaoibfchaaDoorW.PrintMore
set_option linter.unusedVariables false
set_option linter.unusedSimpArgs false
attribute [local go_sem] max2_int min2_int max_two min_two
set_option maxHeartbeats 4000000 in
set_option maxRecDepth 100000 in
theorem Pth.theirses_calls (pv : Value) (ps : List (List Pth.Part)) (vs : List Value) (w : World) (hvl : vs.length = ps.length) (hp : Eng.Reads w pv ps.length 1 vs) (hin : ∀ k, k < ps.length → Eng.Reads w (vs.getD k undef) (ps.getD k []).length 2 (Pth.cellsP (ps.getD k []))) (hsz : ∀ k, k < ps.length → (ps.getD k []).length ≤ 5864062014634) (hpl : ps.length ≤ 5864062014634) : Calls Tryd.prog 37 #[pv] w fun e w' => ∃ v' vl, e = .returned v' ∧ vl.length = ps.length ∧ w'.ownsRow w.heap.size 82 1 v' ps.length vl ∧ Pth.Each w.heap.size ps vl w' ∧ Below w.heap.size w w' := by
  have hm := Eng.Reads.len_le hp
  refine Eng.enter Tryd.func37 rfl fun act0 d0 s0 v0 => ?_
  have s0 : act0.tmps.size = 19 := s0
  have h0_0 : act0.eval (.tmp 0) = pv := v0 0 (by simp)
  clear v0
  have bl0 : Below w.heap.size w w := Below.refl _ _
  refine wp_seq ?_
  refine Eng.regionS (Eng.still [fun u_ => u_ = .slice none 0 0]) (fun i => ([.plain] : List Eng.Kind).getD i .plain) 1 0 19 s0 rfl (by kernel_rfl) (Eng.still_stable _) (Or.inr (Eng.still_any _)) ?_ ?_
  · refine Eng.Steps.cons (fun _ => ?_) (Eng.Steps.nil)
    · refine Eng.plain rfl rfl fun a w' H => ?_
      exact Eng.val (w1 := w') (v := .slice none 0 0) (Eng.run_assign rfl (rfl : a.eval (.const (.slice none 0 0)) = .slice none 0 0)) (Below.refl _ _) rfl
  intro act1 w1 T
  have h0_1 : act1.eval (.tmp 0) = pv := (T.rest 0 (by kernel_rfl)).trans h0_0
  have Fpp_1 := Eng.Reads.below hp T.below
  have h2_1 : act1.eval (.tmp 2) = .slice none 0 0 := T.done 0 2 rfl rfl
  have d1 := T.defers.trans d0
  have s1 := T.size.trans s0
  have bl1 := bl0.trans (T.below.mono bl0.size)
  clear T
  refine Eng.tail_nil ?_
  first | show Code.wp Tryd.prog _ _ _ _ | skip
  refine wp_seq ?_
  refine Eng.regionS (Eng.still [fun u_ => u_ = .slice none 0 0]) (fun i => ([.plain] : List Eng.Kind).getD i .plain) 1 0 19 s1 rfl (by kernel_rfl) (Eng.still_stable _) (Or.inr (Eng.still_any _)) ?_ ?_
  · refine Eng.Steps.cons (fun _ => ?_) (Eng.Steps.nil)
    · refine Eng.plain rfl rfl fun a w' H => ?_
      exact Eng.val (w1 := w') (v := .slice none 0 0) (Eng.run_assign rfl (rfl : a.eval (.const (.slice none 0 0)) = .slice none 0 0)) (Below.refl _ _) rfl
  intro act2 w2 T
  have h0_2 : act2.eval (.tmp 0) = pv := (T.rest 0 (by kernel_rfl)).trans h0_1
  have h2_2 : act2.eval (.tmp 2) = .slice none 0 0 := (T.rest 2 (by kernel_rfl)).trans h2_1
  have Fpp_2 := Eng.Reads.below Fpp_1 T.below
  have h3_2 : act2.eval (.tmp 3) = .slice none 0 0 := T.done 0 3 rfl rfl
  have d2 := T.defers.trans d1
  have s2 := T.size.trans s1
  have bl2 := bl1.trans (T.below.mono bl1.size)
  clear T
  refine Eng.tail_nil ?_
  first | show Code.wp Tryd.prog _ _ _ _ | skip
  refine wp_seq ?_
  refine wp_seq ?_
  refine Eng.regionS (Eng.still [fun u_ => u_ = pv, fun u_ => u_ = .int .i64 ((ps.length : Nat) : Int), fun u_ => u_ = .int .i64 0]) (fun i => ([.plain, .plain, .plain] : List Eng.Kind).getD i .plain) 3 0 19 s2 rfl (by kernel_rfl) (Eng.still_stable _) (Or.inr (Eng.still_any _)) ?_ ?_
  · refine Eng.Steps.cons (fun _ => ?_) (Eng.Steps.cons (fun _ => ?_) (Eng.Steps.cons (fun _ => ?_) (Eng.Steps.nil)))
    · refine Eng.plain rfl rfl fun a w' H => ?_
      exact Eng.val (w1 := w') (v := pv) (Eng.run_move rfl ((H.kept 0 (by kernel_rfl)).trans h0_2)) (Below.refl _ _) rfl
    · refine Eng.plain rfl rfl fun a w' H => ?_
      refine Eng.val (w1 := w') (v := .int .i64 ((ps.length : Nat) : Int)) ?_ (Below.refl _ _) rfl
      exact Eng.run_len_sl rfl Tryd.underlying59 (show a.eval (.tmp 6) = pv from (H.dep 0 6 (by kernel_rfl) rfl)) (Eng.Reads.below Fpp_2 H.below)
    · refine Eng.plain rfl rfl fun a w' H => ?_
      exact Eng.val (w1 := w') (v := .int .i64 0) (Eng.run_move rfl (rfl : a.eval (.const (.int .i64 0)) = .int .i64 0)) (Below.refl _ _) rfl
  intro act3 w3 T
  have h0_3 : act3.eval (.tmp 0) = pv := (T.rest 0 (by kernel_rfl)).trans h0_2
  have h2_3 : act3.eval (.tmp 2) = .slice none 0 0 := (T.rest 2 (by kernel_rfl)).trans h2_2
  have h3_3 : act3.eval (.tmp 3) = .slice none 0 0 := (T.rest 3 (by kernel_rfl)).trans h3_2
  have Fpp_3 := Eng.Reads.below Fpp_2 T.below
  have h6_3 : act3.eval (.tmp 6) = pv := T.done 0 6 rfl rfl
  have h7_3 : act3.eval (.tmp 7) = .int .i64 ((ps.length : Nat) : Int) := T.done 1 7 rfl rfl
  have h8_3 : act3.eval (.tmp 8) = .int .i64 0 := T.done 2 8 rfl rfl
  have d3 := T.defers.trans d2
  have s3 := T.size.trans s2
  have bl3 := bl2.trans (T.below.mono bl2.size)
  clear T
  refine Eng.tail_nil ?_
  first | show Code.wp Tryd.prog _ _ _ _ | skip
  refine wp_block ?_
  refine Eng.loopN (fun n a w' => ∃ (k : Nat) (v3 : Value) (vl : List Value), ps.length - k = n ∧ (k ≤ ps.length) ∧ (w'.ownsRow w.heap.size 82 1 v3 vl.length vl) ∧ (vl.length = k) ∧ (Pth.Each w.heap.size ps vl w') ∧ a.defers = [] ∧ a.tmps.size = 19 ∧ Below w.heap.size w w' ∧ a.eval (.tmp 0) = pv ∧ a.eval (.tmp 2) = .slice none 0 0 ∧ a.eval (.tmp 3) = v3 ∧ a.eval (.tmp 6) = pv ∧ a.eval (.tmp 7) = .int .i64 ((ps.length : Nat) : Int) ∧ a.eval (.tmp 8) = .int .i64 (k : Nat)) (n0 := ps.length - 0) ?_ ?_
  · exact ⟨0, .slice none 0 0, [], rfl, by omega, World.ownsRow_nil _ _ _ _, rfl, Pth.Each.nil _ _ _, d3, s3, bl3, h0_3, h2_3, (h3_3.trans (by first | rfl | (congr 1; rw [Eng.i64_id (by omega) (by omega)]; omega) | (simp; done))), h6_3, h7_3, (h8_3.trans (by first | rfl | (congr 1; rw [Eng.i64_id (by omega) (by omega)]; omega) | (simp; done)))⟩
  rintro n act4 w4 ⟨k, v3, vl, rfl, hc0_4, hc1_4, hc2_4, hc3_4, d4, s4, bl4, h0_4, h2_4, h3_4, h6_4, h7_4, h8_4⟩
  have Fpp_4 := Eng.Reads.below hp bl4
  have hk1 := hc0_4
  have hvlk := hc2_4
  have Ft_4 := Eng.Reads.of_own hc1_4
  refine wp_seq ?_
  obtain ⟨q9, Bq9⟩ : ∃ b : Bool, b = (decide ((k : Nat) < ((ps.length : Nat) : Int))) := ⟨_, rfl⟩
  refine Eng.regionS (Eng.still [fun u_ => u_ = .bool q9]) (fun i => ([.plain] : List Eng.Kind).getD i .plain) 1 0 19 s4 rfl (by kernel_rfl) (Eng.still_stable _) (Or.inr (Eng.still_any _)) ?_ ?_
  · refine Eng.Steps.cons (fun _ => ?_) (Eng.Steps.nil)
    · refine Eng.plain rfl rfl fun a w' H => ?_
      refine Eng.val (w1 := w') (v := .bool (decide ((k : Nat) < ((ps.length : Nat) : Int)))) ?_ (Below.refl _ _) (by show _ = Value.bool q9; rw [Bq9])
      have e0 : a.eval (.tmp 8) = .int .i64 (k : Nat) := ((H.kept 8 (by kernel_rfl)).trans h8_4)
      have e1 : a.eval (.tmp 7) = .int .i64 ((ps.length : Nat) : Int) := ((H.kept 7 (by kernel_rfl)).trans h7_4)
      simp only [execOp, resolve, List.map_toArray, List.map_cons, List.map_nil, e0, e1]
      go_simp
      all_goals first | rfl | (simp; done) | (rw [Bool.eq_iff_iff]; simp; done) | omega | skip
  intro act5 w5 T
  have h0_5 : act5.eval (.tmp 0) = pv := (T.rest 0 (by kernel_rfl)).trans h0_4
  have h2_5 : act5.eval (.tmp 2) = .slice none 0 0 := (T.rest 2 (by kernel_rfl)).trans h2_4
  have h3_5 : act5.eval (.tmp 3) = v3 := (T.rest 3 (by kernel_rfl)).trans h3_4
  have h6_5 : act5.eval (.tmp 6) = pv := (T.rest 6 (by kernel_rfl)).trans h6_4
  have h7_5 : act5.eval (.tmp 7) = .int .i64 ((ps.length : Nat) : Int) := (T.rest 7 (by kernel_rfl)).trans h7_4
  have h8_5 : act5.eval (.tmp 8) = .int .i64 (k : Nat) := (T.rest 8 (by kernel_rfl)).trans h8_4
  have Fpp_5 := Eng.Reads.below Fpp_4 T.below
  have Ft_5 := Eng.Reads.below Ft_4 T.below
  have Ot_5 := Eng.own_below hc1_4 T.below
  have h9_5 : act5.eval (.tmp 9) = .bool q9 := T.done 0 9 rfl rfl
  have d5 := T.defers.trans d4
  have s5 := T.size.trans s4
  have bl5 := bl4.trans (T.below.mono bl4.size)
  have XE_5 := Pth.Each.below hc3_4 T.below
  clear T
  refine Eng.tail_nil ?_
  first | show Code.wp Tryd.prog _ _ _ _ | skip
  refine wp_seq ?_
  refine wp_cond_split h9_5 (fun hq => ?_) (fun hq => ?_)
  ·
    have kn6 := hq
    have c9 := Bq9.symm.trans hq
    clear hq
    have c9 := of_decide_eq_true c9
    have hk0 : k < ps.length := by omega
    have Fin0 := hin k hk0
    have hmi := Eng.Reads.len_le Fin0
    have Finn7 := Eng.Reads.below Fin0 bl5
    refine wp_skip ?_
    first | show Code.wp Tryd.prog _ _ _ _ | skip
    refine wp_seq ?_
    refine wp_block ?_
    refine wp_seq ?_
    refine Eng.regionS (Eng.still [fun u_ => u_ = Eng.elemPtr pv (k * 1), fun u_ => u_ = (vs.getD k undef), fun u_ => u_ = (vs.getD k undef)]) (fun i => ([.plain, .plain, .plain] : List Eng.Kind).getD i .plain) 3 0 19 s5 rfl (by kernel_rfl) (Eng.still_stable _) (Or.inr (Eng.still_any _)) ?_ ?_
    · refine Eng.Steps.cons (fun _ => ?_) (Eng.Steps.cons (fun _ => ?_) (Eng.Steps.cons (fun _ => ?_) (Eng.Steps.nil)))
      · refine Eng.plain rfl rfl fun a w' H => ?_
        refine Eng.val (w1 := w') (v := Eng.elemPtr pv (k * 1)) ?_ (Below.refl _ _) rfl
        exact Eng.run_index_sl rfl Tryd.underlying59 (by kernel_rfl) (show a.eval (.tmp 6) = pv from ((H.kept 6 (by kernel_rfl)).trans h6_5)) ((show a.eval (.tmp 8) = .int .i64 (k : Nat) from ((H.kept 8 (by kernel_rfl)).trans h8_5)).trans (congrArg (Value.int _) (show (k : Nat) = ((k : Nat) : Int) from by omega))) (Eng.Reads.below Fpp_5 H.below) (by omega) rfl
      · refine Eng.plain rfl rfl fun a w' H => ?_
        refine Eng.val (w1 := w') (v := (vs.getD k undef)) ?_ (Below.refl _ _) rfl
        exact Eng.run_load_el ((vs.getD k undef)) rfl (show a.eval (.tmp 10) = Eng.elemPtr pv (k * 1) from (H.dep 0 10 (by kernel_rfl) rfl)) (Eng.Reads.below Fpp_5 H.below) (Nfa.at_one vs hvl (by omega)) (by kernel_rfl)
      · refine Eng.plain rfl rfl fun a w' H => ?_
        exact Eng.val (w1 := w') (v := (vs.getD k undef)) (Eng.run_assign rfl (H.dep 1 11 (by kernel_rfl) rfl)) (Below.refl _ _) rfl
    intro act8 w8 T
    have h0_8 : act8.eval (.tmp 0) = pv := (T.rest 0 (by kernel_rfl)).trans h0_5
    have h2_8 : act8.eval (.tmp 2) = .slice none 0 0 := (T.rest 2 (by kernel_rfl)).trans h2_5
    have h3_8 : act8.eval (.tmp 3) = v3 := (T.rest 3 (by kernel_rfl)).trans h3_5
    have h6_8 : act8.eval (.tmp 6) = pv := (T.rest 6 (by kernel_rfl)).trans h6_5
    have h7_8 : act8.eval (.tmp 7) = .int .i64 ((ps.length : Nat) : Int) := (T.rest 7 (by kernel_rfl)).trans h7_5
    have h8_8 : act8.eval (.tmp 8) = .int .i64 (k : Nat) := (T.rest 8 (by kernel_rfl)).trans h8_5
    have h9_8 : act8.eval (.tmp 9) = .bool q9 := (T.rest 9 (by kernel_rfl)).trans h9_5
    have Fpp_8 := Eng.Reads.below Fpp_5 T.below
    have Ft_8 := Eng.Reads.below Ft_5 T.below
    have Ot_8 := Eng.own_below Ot_5 T.below
    have Finn_8 := Eng.Reads.below Finn7 T.below
    have h5_8 : act8.eval (.tmp 5) = (vs.getD k undef) := T.done 2 5 rfl rfl
    have d8 := T.defers.trans d5
    have s8 := T.size.trans s5
    have bl8 := bl5.trans (T.below.mono bl5.size)
    have XE_8 := Pth.Each.below XE_5 T.below
    clear T
    refine Eng.tail_nil ?_
    first | show Code.wp Tryd.prog _ _ _ _ | skip
    refine (wpIn_wide (n := 1)).1 ?_
    refine EngI.regionT (n := 6) rfl ?_
    refine EngI.tail_val EngI.free_wide rfl rfl rfl rfl (Eng.run_move rfl h3_8) s8 rfl fun act9 d9 s9 hv hr => ?_
    have h0_9 : act9.eval (.tmp 0) = pv := (hr 0 rfl).trans h0_8
    have h2_9 : act9.eval (.tmp 2) = .slice none 0 0 := (hr 2 rfl).trans h2_8
    have h3_9 : act9.eval (.tmp 3) = v3 := (hr 3 rfl).trans h3_8
    have h5_9 : act9.eval (.tmp 5) = (vs.getD k undef) := (hr 5 rfl).trans h5_8
    have h6_9 : act9.eval (.tmp 6) = pv := (hr 6 rfl).trans h6_8
    have h7_9 : act9.eval (.tmp 7) = .int .i64 ((ps.length : Nat) : Int) := (hr 7 rfl).trans h7_8
    have h8_9 : act9.eval (.tmp 8) = .int .i64 (k : Nat) := (hr 8 rfl).trans h8_8
    have h9_9 : act9.eval (.tmp 9) = .bool q9 := (hr 9 rfl).trans h9_8
    have h12_9 : act9.eval (.tmp 12) = v3 := hv
    have d9 := d9.trans d8
    clear hv hr
    refine EngI.tail_val EngI.free_wide rfl rfl rfl rfl (Eng.run_move rfl h5_9) s9 rfl fun act10 d10 s10 hv hr => ?_
    have h0_10 : act10.eval (.tmp 0) = pv := (hr 0 rfl).trans h0_9
    have h2_10 : act10.eval (.tmp 2) = .slice none 0 0 := (hr 2 rfl).trans h2_9
    have h3_10 : act10.eval (.tmp 3) = v3 := (hr 3 rfl).trans h3_9
    have h5_10 : act10.eval (.tmp 5) = (vs.getD k undef) := (hr 5 rfl).trans h5_9
    have h6_10 : act10.eval (.tmp 6) = pv := (hr 6 rfl).trans h6_9
    have h7_10 : act10.eval (.tmp 7) = .int .i64 ((ps.length : Nat) : Int) := (hr 7 rfl).trans h7_9
    have h8_10 : act10.eval (.tmp 8) = .int .i64 (k : Nat) := (hr 8 rfl).trans h8_9
    have h9_10 : act10.eval (.tmp 9) = .bool q9 := (hr 9 rfl).trans h9_9
    have h12_10 : act10.eval (.tmp 12) = v3 := (hr 12 rfl).trans h12_9
    have h13_10 : act10.eval (.tmp 13) = (vs.getD k undef) := hv
    have d10 := d10.trans d9
    clear hv hr
    refine EngI.tail_call EngI.free_wide Tryd.func79 (by kernel_rfl) (by kernel_rfl) rfl rfl rfl rfl #[(vs.getD k undef)] (by have e0 : act10.eval (.tmp 13) = (vs.getD k undef) := h13_10; simp only [List.map_toArray, List.map_cons, List.map_nil, e0]) s10 rfl (R := fun v w' => w'.ownsRow w8.heap.size 115 2 v (ps.getD k []).length (Pth.cellsP (ps.getD k [])) ∧ Below w8.heap.size w8 w') ((Pth.theirs_calls (vs.getD k undef) (ps.getD k []) _ Finn_8 (hsz k hk0)).mono ?_) fun v_11 w11 act11 R d11 s11 hv hr => ?_
    · rintro e w1 ⟨v, rfl, h1, h2⟩; exact ⟨v, rfl, h1, h2⟩
    have h0_11 : act11.eval (.tmp 0) = pv := (hr 0 rfl).trans h0_10
    have h2_11 : act11.eval (.tmp 2) = .slice none 0 0 := (hr 2 rfl).trans h2_10
    have h3_11 : act11.eval (.tmp 3) = v3 := (hr 3 rfl).trans h3_10
    have h5_11 : act11.eval (.tmp 5) = (vs.getD k undef) := (hr 5 rfl).trans h5_10
    have h6_11 : act11.eval (.tmp 6) = pv := (hr 6 rfl).trans h6_10
    have h7_11 : act11.eval (.tmp 7) = .int .i64 ((ps.length : Nat) : Int) := (hr 7 rfl).trans h7_10
    have h8_11 : act11.eval (.tmp 8) = .int .i64 (k : Nat) := (hr 8 rfl).trans h8_10
    have h9_11 : act11.eval (.tmp 9) = .bool q9 := (hr 9 rfl).trans h9_10
    have h12_11 : act11.eval (.tmp 12) = v3 := (hr 12 rfl).trans h12_10
    have h13_11 : act11.eval (.tmp 13) = (vs.getD k undef) := (hr 13 rfl).trans h13_10
    have h14_11 : act11.eval (.tmp 14) = v_11 := hv
    have d11 := d11.trans d10
    clear hv hr
    obtain ⟨Or11, hb11⟩ := R
    have XE_11 := Pth.Each.snoc (Pth.Each.below XE_8 hb11) (by omega) (by rw [hvlk]; exact Eng.own_mono Or11 bl8.size)
    have Ot_11 := Eng.own_below Ot_8 hb11
    have bl11 := bl8.trans (hb11.mono bl8.size)
    have Fpp_11 := Eng.Reads.below hp bl11
    have Finn_11 := Eng.Reads.below Fin0 bl11
    refine EngI.tail_ex EngI.free_wide rfl rfl rfl rfl (Eng.run_build1I (size := 1) (z := .slice none 0 0) [v_11] rfl Tryd.underlying62 (by kernel_rfl) rfl rfl rfl (by exact Pth.fill_one Or11) h14_11) s11 rfl fun v_12 w12 act12 R d12 s12 hv hr => ?_
    obtain ⟨F_12, b_12⟩ := R
    have h0_12 : act12.eval (.tmp 0) = pv := (hr 0 rfl).trans h0_11
    have h2_12 : act12.eval (.tmp 2) = .slice none 0 0 := (hr 2 rfl).trans h2_11
    have h3_12 : act12.eval (.tmp 3) = v3 := (hr 3 rfl).trans h3_11
    have h5_12 : act12.eval (.tmp 5) = (vs.getD k undef) := (hr 5 rfl).trans h5_11
    have h6_12 : act12.eval (.tmp 6) = pv := (hr 6 rfl).trans h6_11
    have h7_12 : act12.eval (.tmp 7) = .int .i64 ((ps.length : Nat) : Int) := (hr 7 rfl).trans h7_11
    have h8_12 : act12.eval (.tmp 8) = .int .i64 (k : Nat) := (hr 8 rfl).trans h8_11
    have h9_12 : act12.eval (.tmp 9) = .bool q9 := (hr 9 rfl).trans h9_11
    have h12_12 : act12.eval (.tmp 12) = v3 := (hr 12 rfl).trans h12_11
    have h13_12 : act12.eval (.tmp 13) = (vs.getD k undef) := (hr 13 rfl).trans h13_11
    have h14_12 : act12.eval (.tmp 14) = v_11 := (hr 14 rfl).trans h14_11
    have h15_12 : act12.eval (.tmp 15) = v_12 := hv
    have d12 := d12.trans d11
    clear hv hr
    have Fpp_12 := Eng.Reads.below Fpp_11 b_12
    have Ft_12 := Eng.Reads.below (Eng.Reads.of_own Ot_11) b_12
    have Ot_12 := Eng.own_below Ot_11 b_12
    have Finn_12 := Eng.Reads.below Finn_11 b_12
    have XE_12 := Pth.Each.below XE_11 b_12
    have bl12 := bl11.trans (b_12.mono bl11.size)
    refine EngI.tail_ex EngI.free_wide rfl rfl rfl rfl (Eng.run_appendT (z := .slice none 0 0) rfl Tryd.underlying62 (by kernel_rfl) rfl rfl h12_12 Ot_12 h15_12 F_12 (Pth.own_one Or11) (by omega) bl12.size) s12 rfl fun v_13 w13 act13 R d13 s13 hv hr => ?_
    obtain ⟨O_13, _, b_13, G_13, _⟩ := R
    have h0_13 : act13.eval (.tmp 0) = pv := (hr 0 rfl).trans h0_12
    have h2_13 : act13.eval (.tmp 2) = .slice none 0 0 := (hr 2 rfl).trans h2_12
    have h3_13 : act13.eval (.tmp 3) = v3 := (hr 3 rfl).trans h3_12
    have h5_13 : act13.eval (.tmp 5) = (vs.getD k undef) := (hr 5 rfl).trans h5_12
    have h6_13 : act13.eval (.tmp 6) = pv := (hr 6 rfl).trans h6_12
    have h7_13 : act13.eval (.tmp 7) = .int .i64 ((ps.length : Nat) : Int) := (hr 7 rfl).trans h7_12
    have h8_13 : act13.eval (.tmp 8) = .int .i64 (k : Nat) := (hr 8 rfl).trans h8_12
    have h9_13 : act13.eval (.tmp 9) = .bool q9 := (hr 9 rfl).trans h9_12
    have h12_13 : act13.eval (.tmp 12) = v3 := (hr 12 rfl).trans h12_12
    have h13_13 : act13.eval (.tmp 13) = (vs.getD k undef) := (hr 13 rfl).trans h13_12
    have h14_13 : act13.eval (.tmp 14) = v_11 := (hr 14 rfl).trans h14_12
    have h15_13 : act13.eval (.tmp 15) = v_12 := (hr 15 rfl).trans h15_12
    have h16_13 : act13.eval (.tmp 16) = v_13 := hv
    have d13 := d13.trans d12
    clear hv hr
    have XE_13 := Pth.Each.grown XE_12 G_13 Ot_12
    have bl13 := bl12.trans b_13
    have Fpp_13 := Eng.Reads.below hp bl13
    have Finn_13 := Eng.Reads.below Fin0 bl13
    have Oa13 : w13.ownsRow w.heap.size 82 1 v_13 (vl ++ [v_11]).length (vl ++ [v_11]) := Pth.vals_cat (r := [_]) O_13
    have Fa13 := Eng.Reads.of_own Oa13
    refine EngI.tail_val EngI.free_wide rfl rfl rfl rfl (Eng.run_assign rfl h16_13) s13 rfl fun act14 d14 s14 hv hr => ?_
    have h0_14 : act14.eval (.tmp 0) = pv := (hr 0 rfl).trans h0_13
    have h2_14 : act14.eval (.tmp 2) = .slice none 0 0 := (hr 2 rfl).trans h2_13
    have h5_14 : act14.eval (.tmp 5) = (vs.getD k undef) := (hr 5 rfl).trans h5_13
    have h6_14 : act14.eval (.tmp 6) = pv := (hr 6 rfl).trans h6_13
    have h7_14 : act14.eval (.tmp 7) = .int .i64 ((ps.length : Nat) : Int) := (hr 7 rfl).trans h7_13
    have h8_14 : act14.eval (.tmp 8) = .int .i64 (k : Nat) := (hr 8 rfl).trans h8_13
    have h9_14 : act14.eval (.tmp 9) = .bool q9 := (hr 9 rfl).trans h9_13
    have h12_14 : act14.eval (.tmp 12) = v3 := (hr 12 rfl).trans h12_13
    have h13_14 : act14.eval (.tmp 13) = (vs.getD k undef) := (hr 13 rfl).trans h13_13
    have h14_14 : act14.eval (.tmp 14) = v_11 := (hr 14 rfl).trans h14_13
    have h15_14 : act14.eval (.tmp 15) = v_12 := (hr 15 rfl).trans h15_13
    have h16_14 : act14.eval (.tmp 16) = v_13 := (hr 16 rfl).trans h16_13
    have h3_14 : act14.eval (.tmp 3) = v_13 := hv
    have d14 := d14.trans d13
    clear hv hr
    refine EngI.tail_nil ?_
    first | show Code.wp Tryd.prog _ _ _ _ | skip
    refine Eng.regionS (Eng.still [fun u_ => u_ = .int .i64 (IntKind.i64.wrap ((k : Nat) + 1)), fun u_ => u_ = .int .i64 (IntKind.i64.wrap ((k : Nat) + 1))]) (fun i => ([.plain, .plain] : List Eng.Kind).getD i .plain) 2 0 19 s14 rfl (by kernel_rfl) (Eng.still_stable _) (Or.inr (Eng.still_any _)) ?_ ?_
    · refine Eng.Steps.cons (fun _ => ?_) (Eng.Steps.cons (fun _ => ?_) (Eng.Steps.nil))
      · refine Eng.plain rfl rfl fun a w' H => ?_
        refine Eng.val (w1 := w') (v := .int .i64 (IntKind.i64.wrap ((k : Nat) + 1))) ?_ (Below.refl _ _) rfl
        have e0 : a.eval (.tmp 8) = .int .i64 (k : Nat) := ((H.kept 8 (by kernel_rfl)).trans h8_14)
        have e1 : a.eval (.const (.int .i64 1)) = .int .i64 1 := (rfl : a.eval (.const (.int .i64 1)) = .int .i64 1)
        simp only [execOp, resolve, List.map_toArray, List.map_cons, List.map_nil, e0, e1]
        go_simp
        all_goals first | rfl | (simp; done) | (rw [Bool.eq_iff_iff]; simp; done) | omega | skip
      · refine Eng.plain rfl rfl fun a w' H => ?_
        exact Eng.val (w1 := w') (v := .int .i64 (IntKind.i64.wrap ((k : Nat) + 1))) (Eng.run_move rfl (H.dep 0 17 (by kernel_rfl) rfl)) (Below.refl _ _) rfl
    intro act15 w15 T
    have h0_15 : act15.eval (.tmp 0) = pv := (T.rest 0 (by kernel_rfl)).trans h0_14
    have h2_15 : act15.eval (.tmp 2) = .slice none 0 0 := (T.rest 2 (by kernel_rfl)).trans h2_14
    have h3_15 : act15.eval (.tmp 3) = v_13 := (T.rest 3 (by kernel_rfl)).trans h3_14
    have h5_15 : act15.eval (.tmp 5) = (vs.getD k undef) := (T.rest 5 (by kernel_rfl)).trans h5_14
    have h6_15 : act15.eval (.tmp 6) = pv := (T.rest 6 (by kernel_rfl)).trans h6_14
    have h7_15 : act15.eval (.tmp 7) = .int .i64 ((ps.length : Nat) : Int) := (T.rest 7 (by kernel_rfl)).trans h7_14
    have h9_15 : act15.eval (.tmp 9) = .bool q9 := (T.rest 9 (by kernel_rfl)).trans h9_14
    have Fpp_15 := Eng.Reads.below Fpp_13 T.below
    have Finn_15 := Eng.Reads.below Finn_13 T.below
    have Fa13_15 := Eng.Reads.below Fa13 T.below
    have Oa13_15 := Eng.own_below Oa13 T.below
    have h8_15 : act15.eval (.tmp 8) = .int .i64 (IntKind.i64.wrap ((k : Nat) + 1)) := T.done 1 8 rfl rfl
    have d15 := T.defers.trans d14
    have s15 := T.size.trans s14
    have bl15 := bl13.trans (T.below.mono bl13.size)
    have XE_15 := Pth.Each.below XE_13 T.below
    clear T
    refine Eng.tail_nil ?_
    exact ⟨_, by omega, k + 1, v_13, (vl ++ [v_11]), rfl, by omega, Oa13_15, by simp; omega, XE_15, d15, s15, bl15, h0_15, h2_15, (h3_15.trans (by first | rfl | (congr 1; rw [Eng.i64_id (by omega) (by omega)]; omega) | (simp; done))), h6_15, h7_15, (h8_15.trans (by first | rfl | (congr 1; rw [Eng.i64_id (by omega) (by omega)]; omega) | (simp; done)))⟩
  ·
    have kn16 := hq
    have c9 := Bq9.symm.trans hq
    clear hq
    have c9 := of_decide_eq_false c9
    refine wp_exit ?_
    first | show Code.wp Tryd.prog _ _ _ _ | skip
    first | show Code.wp Tryd.prog _ _ _ _ | skip
    refine wp_seq ?_
    refine Eng.regionS (Eng.still [fun u_ => u_ = v3, fun u_ => u_ = v3]) (fun i => ([.plain, .plain] : List Eng.Kind).getD i .plain) 2 0 19 s5 rfl (by kernel_rfl) (Eng.still_stable _) (Or.inr (Eng.still_any _)) ?_ ?_
    · refine Eng.Steps.cons (fun _ => ?_) (Eng.Steps.cons (fun _ => ?_) (Eng.Steps.nil))
      · refine Eng.plain rfl rfl fun a w' H => ?_
        exact Eng.val (w1 := w') (v := v3) (Eng.run_move rfl ((H.kept 3 (by kernel_rfl)).trans h3_5)) (Below.refl _ _) rfl
      · refine Eng.plain rfl rfl fun a w' H => ?_
        exact Eng.val (w1 := w') (v := v3) (Eng.run_assign rfl (H.dep 0 18 (by kernel_rfl) rfl)) (Below.refl _ _) rfl
    intro act17 w17 T
    have h0_17 : act17.eval (.tmp 0) = pv := (T.rest 0 (by kernel_rfl)).trans h0_5
    have h3_17 : act17.eval (.tmp 3) = v3 := (T.rest 3 (by kernel_rfl)).trans h3_5
    have h6_17 : act17.eval (.tmp 6) = pv := (T.rest 6 (by kernel_rfl)).trans h6_5
    have h7_17 : act17.eval (.tmp 7) = .int .i64 ((ps.length : Nat) : Int) := (T.rest 7 (by kernel_rfl)).trans h7_5
    have h8_17 : act17.eval (.tmp 8) = .int .i64 (k : Nat) := (T.rest 8 (by kernel_rfl)).trans h8_5
    have h9_17 : act17.eval (.tmp 9) = .bool q9 := (T.rest 9 (by kernel_rfl)).trans h9_5
    have Fpp_17 := Eng.Reads.below Fpp_5 T.below
    have Ft_17 := Eng.Reads.below Ft_5 T.below
    have Ot_17 := Eng.own_below Ot_5 T.below
    have h2_17 : act17.eval (.tmp 2) = v3 := T.done 1 2 rfl rfl
    have d17 := T.defers.trans d5
    have s17 := T.size.trans s5
    have bl17 := bl5.trans (T.below.mono bl5.size)
    have XE_17 := Pth.Each.below XE_5 T.below
    clear T
    refine Eng.tail_nil ?_
    first | show Code.wp Tryd.prog _ _ _ _ | skip
    refine wp_ret ?_
    repeat (first | refine Eng.in_ret ?_ | refine Eng.then_ret ?_)
    obtain rfl : k = ps.length := by omega
    exact Eng.ret1 rfl d17 h2_17 ⟨_, vl, rfl, hvlk, by rw [← hvlk]; exact Ot_17, XE_17, bl17⟩
end Go.Proofs.YthgafcaoibfchaaDoor.X
end
