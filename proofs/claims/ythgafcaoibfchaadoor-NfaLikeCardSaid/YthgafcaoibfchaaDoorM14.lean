/- Words and walks that the row of NfaLike needs: printed by programs, and plain laws. -/
import Derived.Test.YthgafcaoibfchaaDoorM13
import Derived.Test.YthgafcaoibfchaaDoorM4
section
namespace Go.Proofs.YthgafcaoibfchaaDoor.X
open Go.RowKit Go.Shelf Go.Proofs Go.Proofs.YthgafcaoibfchaaDoorW.PrintWords Go.Proofs.YthgafcaoibfchaaDoorW.PrintLast Go.Proofs.YthgafcaoibfchaaDoorW.PrintMore
set_option linter.unusedVariables false
set_option linter.unusedSimpArgs false
attribute [local go_sem] max2_int min2_int max_two min_two
set_option maxHeartbeats 4000000 in
set_option maxRecDepth 100000 in
theorem Nfa.like_calls (v sv : Value) (p : List Pth.Part) (l : List ByteArray) (w : World) (hx : Eng.Reads w v p.length 2 (Pth.cellsP p)) (hs : Eng.Reads w sv l.length 1 (Nfa.strs l)) (hpl : p.length ≤ 1000000) (hll : l.length ≤ 1000000) : Calls Tryd.prog 88 #[v, sv] w fun e w' => e = .returned (.bool (Nfa.mat p l)) ∧ Below w.heap.size w w' := by
  have hm := Eng.Reads.len_le hs
  refine Eng.enter Tryd.func88 rfl fun act0 d0 s0 v0 => ?_
  have s0 : act0.tmps.size = 85 := s0
  have h0_0 : act0.eval (.tmp 0) = v := v0 0 (by simp)
  have h1_0 : act0.eval (.tmp 1) = sv := v0 1 (by simp)
  clear v0
  have bl0 : Below w.heap.size w w := Below.refl _ _
  refine wp_seq ?_
  refine Eng.regionS (Eng.still [fun u_ => u_ = .bool false]) (fun i => ([.plain] : List Eng.Kind).getD i .plain) 1 0 85 s0 rfl (by kernel_rfl) (Eng.still_stable _) (Or.inr (Eng.still_any _)) ?_ ?_
  · refine Eng.Steps.cons (fun _ => ?_) (Eng.Steps.nil)
    · refine Eng.plain rfl rfl fun a w' H => ?_
      exact Eng.val (w1 := w') (v := .bool false) (Eng.run_assign rfl (rfl : a.eval (.const (.bool false)) = .bool false)) (Below.refl _ _) rfl
  intro act1 w1 T
  have h0_1 : act1.eval (.tmp 0) = v := (T.rest 0 (by kernel_rfl)).trans h0_0
  have h1_1 : act1.eval (.tmp 1) = sv := (T.rest 1 (by kernel_rfl)).trans h1_0
  have Fxx_1 := Eng.Reads.below hx T.below
  have Fss_1 := Eng.Reads.below hs T.below
  have h4_1 : act1.eval (.tmp 4) = .bool false := T.done 0 4 rfl rfl
  have d1 := T.defers.trans d0
  have s1 := T.size.trans s0
  have bl1 := bl0.trans (T.below.mono bl0.size)
  clear T
  refine Eng.tail_nil ?_
  first | show Code.wp Tryd.prog _ _ _ _ | skip
  refine wp_seq ?_
  refine Eng.regionS (Eng.still [fun u_ => u_ = .int .i64 0, fun u_ => u_ = .int .i64 0]) (fun i => ([.plain, .plain] : List Eng.Kind).getD i .plain) 2 0 85 s1 rfl (by kernel_rfl) (Eng.still_stable _) (Or.inr (Eng.still_any _)) ?_ ?_
  · refine Eng.Steps.cons (fun _ => ?_) (Eng.Steps.cons (fun _ => ?_) (Eng.Steps.nil))
    · refine Eng.plain rfl rfl fun a w' H => ?_
      exact Eng.val (w1 := w') (v := .int .i64 0) (Eng.run_assign rfl (rfl : a.eval (.const (.int .i64 0)) = .int .i64 0)) (Below.refl _ _) rfl
    · refine Eng.plain rfl rfl fun a w' H => ?_
      exact Eng.val (w1 := w') (v := .int .i64 0) (Eng.run_assign rfl (rfl : a.eval (.const (.int .i64 0)) = .int .i64 0)) (Below.refl _ _) rfl
  intro act2 w2 T
  have h0_2 : act2.eval (.tmp 0) = v := (T.rest 0 (by kernel_rfl)).trans h0_1
  have h1_2 : act2.eval (.tmp 1) = sv := (T.rest 1 (by kernel_rfl)).trans h1_1
  have h4_2 : act2.eval (.tmp 4) = .bool false := (T.rest 4 (by kernel_rfl)).trans h4_1
  have Fxx_2 := Eng.Reads.below Fxx_1 T.below
  have Fss_2 := Eng.Reads.below Fss_1 T.below
  have h5_2 : act2.eval (.tmp 5) = .int .i64 0 := T.done 0 5 rfl rfl
  have h6_2 : act2.eval (.tmp 6) = .int .i64 0 := T.done 1 6 rfl rfl
  have d2 := T.defers.trans d1
  have s2 := T.size.trans s1
  have bl2 := bl1.trans (T.below.mono bl1.size)
  clear T
  refine Eng.tail_nil ?_
  first | show Code.wp Tryd.prog _ _ _ _ | skip
  refine wp_seq ?_
  refine Eng.regionS (Eng.still [fun u_ => u_ = .int .i64 (-1), fun u_ => u_ = .int .i64 0]) (fun i => ([.plain, .plain] : List Eng.Kind).getD i .plain) 2 0 85 s2 rfl (by kernel_rfl) (Eng.still_stable _) (Or.inr (Eng.still_any _)) ?_ ?_
  · refine Eng.Steps.cons (fun _ => ?_) (Eng.Steps.cons (fun _ => ?_) (Eng.Steps.nil))
    · refine Eng.plain rfl rfl fun a w' H => ?_
      exact Eng.val (w1 := w') (v := .int .i64 (-1)) (Eng.run_assign rfl (rfl : a.eval (.const (.int .i64 (-1))) = .int .i64 (-1))) (Below.refl _ _) rfl
    · refine Eng.plain rfl rfl fun a w' H => ?_
      exact Eng.val (w1 := w') (v := .int .i64 0) (Eng.run_assign rfl (rfl : a.eval (.const (.int .i64 0)) = .int .i64 0)) (Below.refl _ _) rfl
  intro act3 w3 T
  have h0_3 : act3.eval (.tmp 0) = v := (T.rest 0 (by kernel_rfl)).trans h0_2
  have h1_3 : act3.eval (.tmp 1) = sv := (T.rest 1 (by kernel_rfl)).trans h1_2
  have h4_3 : act3.eval (.tmp 4) = .bool false := (T.rest 4 (by kernel_rfl)).trans h4_2
  have h5_3 : act3.eval (.tmp 5) = .int .i64 0 := (T.rest 5 (by kernel_rfl)).trans h5_2
  have h6_3 : act3.eval (.tmp 6) = .int .i64 0 := (T.rest 6 (by kernel_rfl)).trans h6_2
  have Fxx_3 := Eng.Reads.below Fxx_2 T.below
  have Fss_3 := Eng.Reads.below Fss_2 T.below
  have h7_3 : act3.eval (.tmp 7) = .int .i64 (-1) := T.done 0 7 rfl rfl
  have h8_3 : act3.eval (.tmp 8) = .int .i64 0 := T.done 1 8 rfl rfl
  have d3 := T.defers.trans d2
  have s3 := T.size.trans s2
  have bl3 := bl2.trans (T.below.mono bl2.size)
  clear T
  refine Eng.tail_nil ?_
  first | show Code.wp Tryd.prog _ _ _ _ | skip
  refine wp_seq ?_
  refine wp_block ?_
  refine Eng.loopN (fun n a w' => ∃ (i : Nat) (t : Nat) (D : Nat) (r : Nat), Nfa.left p l i t D r = n ∧ (Nfa.Inv p l i t D r) ∧ a.defers = [] ∧ a.tmps.size = 85 ∧ Below w.heap.size w w' ∧ a.eval (.tmp 0) = v ∧ a.eval (.tmp 1) = sv ∧ a.eval (.tmp 5) = .int .i64 (i : Nat) ∧ a.eval (.tmp 6) = .int .i64 (t : Nat) ∧ a.eval (.tmp 7) = .int .i64 (((D : Nat) : Int) - 1) ∧ a.eval (.tmp 8) = .int .i64 (r : Nat)) (n0 := Nfa.left p l 0 0 0 0) ?_ ?_
  · exact ⟨0, 0, 0, 0, rfl, Nfa.Inv.init p l, d3, s3, bl3, h0_3, h1_3, (h5_3.trans (by first | rfl | (congr 1; rw [Eng.i64_id (by omega) (by omega)]; omega) | (congr 1; omega) | (simp; done))), (h6_3.trans (by first | rfl | (congr 1; rw [Eng.i64_id (by omega) (by omega)]; omega) | (congr 1; omega) | (simp; done))), (h7_3.trans (by first | rfl | (congr 1; rw [Eng.i64_id (by omega) (by omega)]; omega) | (congr 1; omega) | (simp; done))), (h8_3.trans (by first | rfl | (congr 1; rw [Eng.i64_id (by omega) (by omega)]; omega) | (congr 1; omega) | (simp; done)))⟩
  rintro n act4 w4 ⟨i, t, D, r, rfl, hc0_4, d4, s4, bl4, h0_4, h1_4, h5_4, h6_4, h7_4, h8_4⟩
  have Fxx_4 := Eng.Reads.below hx bl4
  have Fss_4 := Eng.Reads.below hs bl4
  have hI := hc0_4
  have hIi := hI.hi
  have hIt := hI.ht
  have hID := hI.hD
  have hIr := hI.hr
  refine wp_seq ?_
  refine wp_seq ?_
  obtain ⟨q12, Bq12⟩ : ∃ b : Bool, b = (decide ((t : Nat) < ((l.length : Nat) : Int))) := ⟨_, rfl⟩
  obtain ⟨q17, Bq17⟩ : ∃ b : Bool, b = (decide ((i : Nat) < ((p.length : Nat) : Int))) := ⟨_, rfl⟩
  obtain ⟨q18, Bq18⟩ : ∃ b : Bool, b = (q12 || q17) := ⟨_, rfl⟩
  refine Eng.regionS (Eng.still [fun u_ => u_ = .int .i64 (t : Nat), fun u_ => u_ = sv, fun u_ => u_ = .int .i64 ((l.length : Nat) : Int), fun u_ => u_ = .bool q12, fun u_ => u_ = .bool q12, fun u_ => u_ = bif (q12 == false) then (.int .i64 (i : Nat)) else undef, fun u_ => u_ = bif (q12 == false) then (v) else undef, fun u_ => u_ = bif (q12 == false) then (.int .i64 ((p.length : Nat) : Int)) else undef, fun u_ => u_ = bif (q12 == false) then (.bool q17) else undef, fun u_ => u_ = .bool q18]) (fun i => ([.plain, .plain, .plain, .plain, .plain, .plain, .plain, .plain, .plain, .plain] : List Eng.Kind).getD i .plain) 10 0 85 s4 rfl (by kernel_rfl) (Eng.still_stable _) (Or.inr (Eng.still_any _)) ?_ ?_
  · refine Eng.Steps.cons (fun _ => ?_) (Eng.Steps.cons (fun _ => ?_) (Eng.Steps.cons (fun _ => ?_) (Eng.Steps.cons (fun _ => ?_) (Eng.Steps.cons (fun _ => ?_) (Eng.Steps.cons (fun _ => ?_) (Eng.Steps.cons (fun _ => ?_) (Eng.Steps.cons (fun _ => ?_) (Eng.Steps.cons (fun _ => ?_) (Eng.Steps.cons (fun _ => ?_) (Eng.Steps.nil))))))))))
    · refine Eng.plain rfl rfl fun a w' H => ?_
      exact Eng.val (w1 := w') (v := .int .i64 (t : Nat)) (Eng.run_move rfl ((H.kept 6 (by kernel_rfl)).trans h6_4)) (Below.refl _ _) rfl
    · refine Eng.plain rfl rfl fun a w' H => ?_
      exact Eng.val (w1 := w') (v := sv) (Eng.run_move rfl ((H.kept 1 (by kernel_rfl)).trans h1_4)) (Below.refl _ _) rfl
    · refine Eng.plain rfl rfl fun a w' H => ?_
      refine Eng.val (w1 := w') (v := .int .i64 ((l.length : Nat) : Int)) ?_ (Below.refl _ _) rfl
      exact Eng.run_len_sl rfl Tryd.underlying43 (show a.eval (.tmp 10) = sv from (H.dep 1 10 (by kernel_rfl) rfl)) (Eng.Reads.below Fss_4 H.below)
    · refine Eng.plain rfl rfl fun a w' H => ?_
      refine Eng.val (w1 := w') (v := .bool (decide ((t : Nat) < ((l.length : Nat) : Int)))) ?_ (Below.refl _ _) (by show _ = Value.bool q12; rw [Bq12])
      have e0 : a.eval (.tmp 9) = .int .i64 (t : Nat) := (H.dep 0 9 (by kernel_rfl) rfl)
      have e1 : a.eval (.tmp 11) = .int .i64 ((l.length : Nat) : Int) := (H.dep 2 11 (by kernel_rfl) rfl)
      simp only [execOp, resolve, List.map_toArray, List.map_cons, List.map_nil, e0, e1]
      go_simp
      all_goals first | rfl | (simp; done) | (rw [Bool.eq_iff_iff]; simp; done) | omega | skip
    · refine Eng.plain rfl rfl fun a w' H => ?_
      exact Eng.val (w1 := w') (v := .bool q12) (Eng.run_move rfl (H.dep 3 12 (by kernel_rfl) rfl)) (Below.refl _ _) rfl
    · refine Eng.guarded1 (j := 4) (d := 13) (b := q12) rfl rfl (by kernel_rfl) rfl (fun v w h => h) (fun hG w => Eng.off hG) fun hG a w' H => ?_
      exact Eng.val (w1 := w') (v := .int .i64 (i : Nat)) (Eng.run_move rfl ((H.kept 5 (by kernel_rfl)).trans h5_4)) (Below.refl _ _) (Eng.off' hG rfl)
    · refine Eng.guarded1 (j := 4) (d := 13) (b := q12) rfl rfl (by kernel_rfl) rfl (fun v w h => h) (fun hG w => Eng.off hG) fun hG a w' H => ?_
      exact Eng.val (w1 := w') (v := v) (Eng.run_move rfl ((H.kept 0 (by kernel_rfl)).trans h0_4)) (Below.refl _ _) (Eng.off' hG rfl)
    · refine Eng.guarded1 (j := 4) (d := 13) (b := q12) rfl rfl (by kernel_rfl) rfl (fun v w h => h) (fun hG w => Eng.off hG) fun hG a w' H => ?_
      refine Eng.val (w1 := w') (v := .int .i64 ((p.length : Nat) : Int)) ?_ (Below.refl _ _) (Eng.off' hG rfl)
      exact Eng.run_len_sl rfl Tryd.underlying82 (show a.eval (.tmp 15) = v from (Eng.on (H.dep 6 15 (by kernel_rfl) rfl) hG)) (Eng.Reads.below Fxx_4 H.below)
    · refine Eng.guarded1 (j := 4) (d := 13) (b := q12) rfl rfl (by kernel_rfl) rfl (fun v w h => h) (fun hG w => Eng.off hG) fun hG a w' H => ?_
      refine Eng.val (w1 := w') (v := .bool (decide ((i : Nat) < ((p.length : Nat) : Int)))) ?_ (Below.refl _ _) (Eng.off' hG (by rw [Bq17]))
      have e0 : a.eval (.tmp 14) = .int .i64 (i : Nat) := (Eng.on (H.dep 5 14 (by kernel_rfl) rfl) hG)
      have e1 : a.eval (.tmp 16) = .int .i64 ((p.length : Nat) : Int) := (Eng.on (H.dep 7 16 (by kernel_rfl) rfl) hG)
      simp only [execOp, resolve, List.map_toArray, List.map_cons, List.map_nil, e0, e1]
      go_simp
      all_goals first | rfl | (simp; done) | (rw [Bool.eq_iff_iff]; simp; done) | omega | skip
    · refine Eng.plain rfl rfl fun a w' H => ?_
      exact Eng.val (w1 := w') (v := .bool (q12 || q17)) (Eng.run_or rfl rfl (G := true) (H.dep 4 13 (by kernel_rfl) rfl) (fun hb => (Eng.on (H.dep 8 17 (by kernel_rfl) rfl) (Eng.mk1 hb)))) (Below.refl _ _) (by show _ = Value.bool q18; rw [Bq18])
  intro act5 w5 T
  have h0_5 : act5.eval (.tmp 0) = v := (T.rest 0 (by kernel_rfl)).trans h0_4
  have h1_5 : act5.eval (.tmp 1) = sv := (T.rest 1 (by kernel_rfl)).trans h1_4
  have h5_5 : act5.eval (.tmp 5) = .int .i64 (i : Nat) := (T.rest 5 (by kernel_rfl)).trans h5_4
  have h6_5 : act5.eval (.tmp 6) = .int .i64 (t : Nat) := (T.rest 6 (by kernel_rfl)).trans h6_4
  have h7_5 : act5.eval (.tmp 7) = .int .i64 (((D : Nat) : Int) - 1) := (T.rest 7 (by kernel_rfl)).trans h7_4
  have h8_5 : act5.eval (.tmp 8) = .int .i64 (r : Nat) := (T.rest 8 (by kernel_rfl)).trans h8_4
  have Fxx_5 := Eng.Reads.below Fxx_4 T.below
  have Fss_5 := Eng.Reads.below Fss_4 T.below
  have h18_5 : act5.eval (.tmp 18) = .bool q18 := T.done 9 18 rfl rfl
  have d5 := T.defers.trans d4
  have s5 := T.size.trans s4
  have bl5 := bl4.trans (T.below.mono bl4.size)
  clear T
  refine Eng.tail_nil ?_
  first | show Code.wp Tryd.prog _ _ _ _ | skip
  refine wp_cond_split h18_5 (fun hq => ?_) (fun hq => ?_)
  ·
    have kn6 := hq
    have c18 := Bq18.symm.trans hq
    clear hq
    rw [Bq17, Bq12] at c18
    simp only [Bool.or_eq_true, decide_eq_true_eq] at c18
    refine wp_skip ?_
    first | show Code.wp Tryd.prog _ _ _ _ | skip
    refine wp_block ?_
    refine wp_seq ?_
    refine wp_block ?_
    refine wp_seq ?_
    obtain ⟨q23, Bq23⟩ : ∃ b : Bool, b = (decide ((i : Nat) < ((p.length : Nat) : Int))) := ⟨_, rfl⟩
    obtain ⟨q30, Bq30⟩ : ∃ b : Bool, b = (((p.getD i default).1) == 2) := ⟨_, rfl⟩
    obtain ⟨q31, Bq31⟩ : ∃ b : Bool, b = (q23 && q30) := ⟨_, rfl⟩
    refine Eng.regionS (Eng.still [fun u_ => u_ = .int .i64 (i : Nat), fun u_ => u_ = v, fun u_ => u_ = .int .i64 ((p.length : Nat) : Int), fun u_ => u_ = .bool q23, fun u_ => u_ = .bool q23, fun u_ => u_ = bif (q23 == true) then (v) else undef, fun u_ => u_ = bif (q23 == true) then (.int .i64 (i : Nat)) else undef, fun u_ => u_ = bif (q23 == true) then (Eng.elemPtr v (i * 2)) else undef, fun u_ => u_ = bif (q23 == true) then (Eng.elemPtr v (i * 2 + 0)) else undef, fun u_ => u_ = bif (q23 == true) then (.int .i64 ((p.getD i default).1)) else undef, fun u_ => u_ = bif (q23 == true) then (.bool q30) else undef, fun u_ => u_ = .bool q31, fun u_ => u_ = .bool q31]) (fun i => ([.plain, .plain, .plain, .plain, .plain, .plain, .plain, .plain, .plain, .plain, .plain, .plain, .plain] : List Eng.Kind).getD i .plain) 13 0 85 s5 rfl (by kernel_rfl) (Eng.still_stable _) (Or.inr (Eng.still_any _)) ?_ ?_
    · refine Eng.Steps.cons (fun _ => ?_) (Eng.Steps.cons (fun _ => ?_) (Eng.Steps.cons (fun _ => ?_) (Eng.Steps.cons (fun _ => ?_) (Eng.Steps.cons (fun _ => ?_) (Eng.Steps.cons (fun _ => ?_) (Eng.Steps.cons (fun _ => ?_) (Eng.Steps.cons (fun _ => ?_) (Eng.Steps.cons (fun _ => ?_) (Eng.Steps.cons (fun _ => ?_) (Eng.Steps.cons (fun _ => ?_) (Eng.Steps.cons (fun _ => ?_) (Eng.Steps.cons (fun _ => ?_) (Eng.Steps.nil)))))))))))))
      · refine Eng.plain rfl rfl fun a w' H => ?_
        exact Eng.val (w1 := w') (v := .int .i64 (i : Nat)) (Eng.run_move rfl ((H.kept 5 (by kernel_rfl)).trans h5_5)) (Below.refl _ _) rfl
      · refine Eng.plain rfl rfl fun a w' H => ?_
        exact Eng.val (w1 := w') (v := v) (Eng.run_move rfl ((H.kept 0 (by kernel_rfl)).trans h0_5)) (Below.refl _ _) rfl
      · refine Eng.plain rfl rfl fun a w' H => ?_
        refine Eng.val (w1 := w') (v := .int .i64 ((p.length : Nat) : Int)) ?_ (Below.refl _ _) rfl
        exact Eng.run_len_sl rfl Tryd.underlying82 (show a.eval (.tmp 21) = v from (H.dep 1 21 (by kernel_rfl) rfl)) (Eng.Reads.below Fxx_5 H.below)
      · refine Eng.plain rfl rfl fun a w' H => ?_
        refine Eng.val (w1 := w') (v := .bool (decide ((i : Nat) < ((p.length : Nat) : Int)))) ?_ (Below.refl _ _) (by show _ = Value.bool q23; rw [Bq23])
        have e0 : a.eval (.tmp 20) = .int .i64 (i : Nat) := (H.dep 0 20 (by kernel_rfl) rfl)
        have e1 : a.eval (.tmp 22) = .int .i64 ((p.length : Nat) : Int) := (H.dep 2 22 (by kernel_rfl) rfl)
        simp only [execOp, resolve, List.map_toArray, List.map_cons, List.map_nil, e0, e1]
        go_simp
        all_goals first | rfl | (simp; done) | (rw [Bool.eq_iff_iff]; simp; done) | omega | skip
      · refine Eng.plain rfl rfl fun a w' H => ?_
        exact Eng.val (w1 := w') (v := .bool q23) (Eng.run_move rfl (H.dep 3 23 (by kernel_rfl) rfl)) (Below.refl _ _) rfl
      · refine Eng.guarded1 (j := 4) (d := 24) (b := q23) rfl rfl (by kernel_rfl) rfl (fun v w h => h) (fun hG w => Eng.off hG) fun hG a w' H => ?_
        exact Eng.val (w1 := w') (v := v) (Eng.run_move rfl ((H.kept 0 (by kernel_rfl)).trans h0_5)) (Below.refl _ _) (Eng.off' hG rfl)
      · refine Eng.guarded1 (j := 4) (d := 24) (b := q23) rfl rfl (by kernel_rfl) rfl (fun v w h => h) (fun hG w => Eng.off hG) fun hG a w' H => ?_
        exact Eng.val (w1 := w') (v := .int .i64 (i : Nat)) (Eng.run_move rfl ((H.kept 5 (by kernel_rfl)).trans h5_5)) (Below.refl _ _) (Eng.off' hG rfl)
      · refine Eng.guarded1 (j := 4) (d := 24) (b := q23) rfl rfl (by kernel_rfl) rfl (fun v w h => h) (fun hG w => Eng.off hG) fun hG a w' H => ?_
        refine Eng.val (w1 := w') (v := Eng.elemPtr v (i * 2)) ?_ (Below.refl _ _) (Eng.off' hG rfl)
        exact Eng.run_index_sl rfl Tryd.underlying82 (by kernel_rfl) (show a.eval (.tmp 25) = v from (Eng.on (H.dep 5 25 (by kernel_rfl) rfl) hG)) ((show a.eval (.tmp 26) = .int .i64 (i : Nat) from (Eng.on (H.dep 6 26 (by kernel_rfl) rfl) hG)).trans (congrArg (Value.int _) (show (i : Nat) = ((i : Nat) : Int) from by first | rfl | (have hq := Eng.one2 hG; rw [Bq23] at hq; simp only [decide_eq_true_eq] at hq; omega)))) (Eng.Reads.below Fxx_5 H.below) (by first | rfl | (have hq := Eng.one2 hG; rw [Bq23] at hq; simp only [decide_eq_true_eq] at hq; omega)) rfl
      · refine Eng.guarded1 (j := 4) (d := 24) (b := q23) rfl rfl (by kernel_rfl) rfl (fun v w h => h) (fun hG w => Eng.off hG) fun hG a w' H => ?_
        refine Eng.val (w1 := w') (v := Eng.elemPtr v (i * 2 + 0)) ?_ (Below.refl _ _) (Eng.off' hG rfl)
        exact Eng.run_field_el rfl Tryd.underlying115 0 (by kernel_rfl) (show a.eval (.tmp 27) = Eng.elemPtr v (i * 2) from (Eng.on (H.dep 7 27 (by kernel_rfl) rfl) hG)) (Eng.Reads.below Fxx_5 H.below) (by have h_ : i < p.length := (by first | rfl | (have hq := Eng.one2 hG; rw [Bq23] at hq; simp only [decide_eq_true_eq] at hq; omega)); omega)
      · refine Eng.guarded1 (j := 4) (d := 24) (b := q23) rfl rfl (by kernel_rfl) rfl (fun v w h => h) (fun hG w => Eng.off hG) fun hG a w' H => ?_
        refine Eng.val (w1 := w') (v := .int .i64 ((p.getD i default).1)) ?_ (Below.refl _ _) (Eng.off' hG rfl)
        exact Eng.run_load_el (.int .i64 ((p.getD i default).1)) rfl (show a.eval (.tmp 28) = Eng.elemPtr v (i * 2 + 0) from (Eng.on (H.dep 8 28 (by kernel_rfl) rfl) hG)) (Eng.Reads.below Fxx_5 H.below) (Pth.cell0 (l := p) (j := i) (by first | rfl | (have hq := Eng.one2 hG; rw [Bq23] at hq; simp only [decide_eq_true_eq] at hq; omega))) (by kernel_rfl)
      · refine Eng.guarded1 (j := 4) (d := 24) (b := q23) rfl rfl (by kernel_rfl) rfl (fun v w h => h) (fun hG w => Eng.off hG) fun hG a w' H => ?_
        refine Eng.val (w1 := w') (v := .bool (((p.getD i default).1) == 2)) ?_ (Below.refl _ _) (Eng.off' hG (by rw [Bq30]))
        have e0 : a.eval (.tmp 29) = .int .i64 ((p.getD i default).1) := (Eng.on (H.dep 9 29 (by kernel_rfl) rfl) hG)
        have e1 : a.eval (.const (.int .i64 2)) = .int .i64 2 := (rfl : a.eval (.const (.int .i64 2)) = .int .i64 2)
        simp only [execOp, resolve, List.map_toArray, List.map_cons, List.map_nil, e0, e1]
        go_simp
        all_goals first | rfl | (simp; done) | (rw [Bool.eq_iff_iff]; simp; done) | omega | skip
      · refine Eng.plain rfl rfl fun a w' H => ?_
        exact Eng.val (w1 := w') (v := .bool (q23 && q30)) (Eng.run_and rfl rfl (G := true) (H.dep 4 24 (by kernel_rfl) rfl) (fun hb => (Eng.on (H.dep 10 30 (by kernel_rfl) rfl) (Eng.mk1 hb)))) (Below.refl _ _) (by show _ = Value.bool q31; rw [Bq31])
      · refine Eng.plain rfl rfl fun a w' H => ?_
        exact Eng.val (w1 := w') (v := .bool q31) (Eng.run_assign rfl (H.dep 11 31 (by kernel_rfl) rfl)) (Below.refl _ _) rfl
    intro act7 w7 T
    have h0_7 : act7.eval (.tmp 0) = v := (T.rest 0 (by kernel_rfl)).trans h0_5
    have h1_7 : act7.eval (.tmp 1) = sv := (T.rest 1 (by kernel_rfl)).trans h1_5
    have h5_7 : act7.eval (.tmp 5) = .int .i64 (i : Nat) := (T.rest 5 (by kernel_rfl)).trans h5_5
    have h6_7 : act7.eval (.tmp 6) = .int .i64 (t : Nat) := (T.rest 6 (by kernel_rfl)).trans h6_5
    have h7_7 : act7.eval (.tmp 7) = .int .i64 (((D : Nat) : Int) - 1) := (T.rest 7 (by kernel_rfl)).trans h7_5
    have h8_7 : act7.eval (.tmp 8) = .int .i64 (r : Nat) := (T.rest 8 (by kernel_rfl)).trans h8_5
    have h18_7 : act7.eval (.tmp 18) = .bool q18 := (T.rest 18 (by kernel_rfl)).trans h18_5
    have Fxx_7 := Eng.Reads.below Fxx_5 T.below
    have Fss_7 := Eng.Reads.below Fss_5 T.below
    have h19_7 : act7.eval (.tmp 19) = .bool q31 := T.done 12 19 rfl rfl
    have d7 := T.defers.trans d5
    have s7 := T.size.trans s5
    have bl7 := bl5.trans (T.below.mono bl5.size)
    clear T
    refine Eng.tail_nil ?_
    first | show Code.wp Tryd.prog _ _ _ _ | skip
    refine wp_cond_split h19_7 (fun hq => ?_) (fun hq => ?_)
    ·
      have kn8 := hq
      have c19 := Bq31.symm.trans hq
      clear hq
      rw [Bq30, Bq23] at c19
      simp only [Bool.and_eq_true, decide_eq_true_eq] at c19
      have hi0 : i < p.length := by omega
      have hdp : Nfa.deep p i = true := c19.2
      refine wp_seq ?_
      refine Eng.regionS (Eng.still [fun u_ => u_ = .int .i64 (i : Nat), fun u_ => u_ = .int .i64 (t : Nat), fun u_ => u_ = .int .i64 (i : Nat), fun u_ => u_ = .int .i64 (t : Nat)]) (fun i => ([.plain, .plain, .plain, .plain] : List Eng.Kind).getD i .plain) 4 0 85 s7 rfl (by kernel_rfl) (Eng.still_stable _) (Or.inr (Eng.still_any _)) ?_ ?_
      · refine Eng.Steps.cons (fun _ => ?_) (Eng.Steps.cons (fun _ => ?_) (Eng.Steps.cons (fun _ => ?_) (Eng.Steps.cons (fun _ => ?_) (Eng.Steps.nil))))
        · refine Eng.plain rfl rfl fun a w' H => ?_
          exact Eng.val (w1 := w') (v := .int .i64 (i : Nat)) (Eng.run_move rfl ((H.kept 5 (by kernel_rfl)).trans h5_7)) (Below.refl _ _) rfl
        · refine Eng.plain rfl rfl fun a w' H => ?_
          exact Eng.val (w1 := w') (v := .int .i64 (t : Nat)) (Eng.run_move rfl ((H.kept 6 (by kernel_rfl)).trans h6_7)) (Below.refl _ _) rfl
        · refine Eng.plain rfl rfl fun a w' H => ?_
          exact Eng.val (w1 := w') (v := .int .i64 (i : Nat)) (Eng.run_assign rfl (H.dep 0 32 (by kernel_rfl) rfl)) (Below.refl _ _) rfl
        · refine Eng.plain rfl rfl fun a w' H => ?_
          exact Eng.val (w1 := w') (v := .int .i64 (t : Nat)) (Eng.run_assign rfl (H.dep 1 33 (by kernel_rfl) rfl)) (Below.refl _ _) rfl
      intro act9 w9 T
      have h0_9 : act9.eval (.tmp 0) = v := (T.rest 0 (by kernel_rfl)).trans h0_7
      have h1_9 : act9.eval (.tmp 1) = sv := (T.rest 1 (by kernel_rfl)).trans h1_7
      have h5_9 : act9.eval (.tmp 5) = .int .i64 (i : Nat) := (T.rest 5 (by kernel_rfl)).trans h5_7
      have h6_9 : act9.eval (.tmp 6) = .int .i64 (t : Nat) := (T.rest 6 (by kernel_rfl)).trans h6_7
      have h18_9 : act9.eval (.tmp 18) = .bool q18 := (T.rest 18 (by kernel_rfl)).trans h18_7
      have h19_9 : act9.eval (.tmp 19) = .bool q31 := (T.rest 19 (by kernel_rfl)).trans h19_7
      have Fxx_9 := Eng.Reads.below Fxx_7 T.below
      have Fss_9 := Eng.Reads.below Fss_7 T.below
      have h7_9 : act9.eval (.tmp 7) = .int .i64 (i : Nat) := T.done 2 7 rfl rfl
      have h8_9 : act9.eval (.tmp 8) = .int .i64 (t : Nat) := T.done 3 8 rfl rfl
      have d9 := T.defers.trans d7
      have s9 := T.size.trans s7
      have bl9 := bl7.trans (T.below.mono bl7.size)
      clear T
      refine Eng.tail_nil ?_
      first | show Code.wp Tryd.prog _ _ _ _ | skip
      refine wp_seq ?_
      refine Eng.regionS (Eng.still [fun u_ => u_ = .int .i64 (i : Nat), fun u_ => u_ = .int .i64 (IntKind.i64.wrap ((i : Nat) + 1)), fun u_ => u_ = .int .i64 (IntKind.i64.wrap ((i : Nat) + 1))]) (fun i => ([.plain, .plain, .plain] : List Eng.Kind).getD i .plain) 3 0 85 s9 rfl (by kernel_rfl) (Eng.still_stable _) (Or.inr (Eng.still_any _)) ?_ ?_
      · refine Eng.Steps.cons (fun _ => ?_) (Eng.Steps.cons (fun _ => ?_) (Eng.Steps.cons (fun _ => ?_) (Eng.Steps.nil)))
        · refine Eng.plain rfl rfl fun a w' H => ?_
          exact Eng.val (w1 := w') (v := .int .i64 (i : Nat)) (Eng.run_move rfl ((H.kept 5 (by kernel_rfl)).trans h5_9)) (Below.refl _ _) rfl
        · refine Eng.plain rfl rfl fun a w' H => ?_
          refine Eng.val (w1 := w') (v := .int .i64 (IntKind.i64.wrap ((i : Nat) + 1))) ?_ (Below.refl _ _) rfl
          have e0 : a.eval (.tmp 34) = .int .i64 (i : Nat) := (H.dep 0 34 (by kernel_rfl) rfl)
          have e1 : a.eval (.const (.int .i64 1)) = .int .i64 1 := (rfl : a.eval (.const (.int .i64 1)) = .int .i64 1)
          simp only [execOp, resolve, List.map_toArray, List.map_cons, List.map_nil, e0, e1]
          go_simp
          all_goals first | rfl | (simp; done) | (rw [Bool.eq_iff_iff]; simp; done) | omega | skip
        · refine Eng.plain rfl rfl fun a w' H => ?_
          exact Eng.val (w1 := w') (v := .int .i64 (IntKind.i64.wrap ((i : Nat) + 1))) (Eng.run_assign rfl (H.dep 1 35 (by kernel_rfl) rfl)) (Below.refl _ _) rfl
      intro act10 w10 T
      have h0_10 : act10.eval (.tmp 0) = v := (T.rest 0 (by kernel_rfl)).trans h0_9
      have h1_10 : act10.eval (.tmp 1) = sv := (T.rest 1 (by kernel_rfl)).trans h1_9
      have h6_10 : act10.eval (.tmp 6) = .int .i64 (t : Nat) := (T.rest 6 (by kernel_rfl)).trans h6_9
      have h7_10 : act10.eval (.tmp 7) = .int .i64 (i : Nat) := (T.rest 7 (by kernel_rfl)).trans h7_9
      have h8_10 : act10.eval (.tmp 8) = .int .i64 (t : Nat) := (T.rest 8 (by kernel_rfl)).trans h8_9
      have h18_10 : act10.eval (.tmp 18) = .bool q18 := (T.rest 18 (by kernel_rfl)).trans h18_9
      have h19_10 : act10.eval (.tmp 19) = .bool q31 := (T.rest 19 (by kernel_rfl)).trans h19_9
      have Fxx_10 := Eng.Reads.below Fxx_9 T.below
      have Fss_10 := Eng.Reads.below Fss_9 T.below
      have h5_10 : act10.eval (.tmp 5) = .int .i64 (IntKind.i64.wrap ((i : Nat) + 1)) := T.done 2 5 rfl rfl
      have d10 := T.defers.trans d9
      have s10 := T.size.trans s9
      have bl10 := bl9.trans (T.below.mono bl9.size)
      clear T
      refine Eng.tail_nil ?_
      first | show Code.wp Tryd.prog _ _ _ _ | skip
      refine wp_exit ?_
      exact ⟨_, Nfa.left_deep hi0 hI.hD, i + 1, t, i + 1, t, rfl, hI.deep hi0 hdp, d10, s10, bl10, h0_10, h1_10, (h5_10.trans (by first | rfl | (congr 1; rw [Eng.i64_id (by omega) (by omega)]; omega) | (congr 1; omega) | (simp; done))), (h6_10.trans (by first | rfl | (congr 1; rw [Eng.i64_id (by omega) (by omega)]; omega) | (congr 1; omega) | (simp; done))), (h7_10.trans (by first | rfl | (congr 1; rw [Eng.i64_id (by omega) (by omega)]; omega) | (congr 1; omega) | (simp; done))), (h8_10.trans (by first | rfl | (congr 1; rw [Eng.i64_id (by omega) (by omega)]; omega) | (congr 1; omega) | (simp; done)))⟩
    ·
      have kn11 := hq
      have c19 := Bq31.symm.trans hq
      clear hq
      have hnd0 : i < p.length → Nfa.deep p i = false := fun h => by cases hq : Nfa.deep p i with | false => rfl | true => (rw [Bq30, Bq23, show ((p.getD i default).1 == 2) = true from hq] at c19; simp only [Bool.and_true, decide_eq_false_iff_not] at c19; omega)
      refine wp_seq ?_
      obtain ⟨q40, Bq40⟩ : ∃ b : Bool, b = (decide ((i : Nat) < ((p.length : Nat) : Int))) := ⟨_, rfl⟩
      obtain ⟨q45, Bq45⟩ : ∃ b : Bool, b = (decide ((t : Nat) < ((l.length : Nat) : Int))) := ⟨_, rfl⟩
      obtain ⟨q46, Bq46⟩ : ∃ b : Bool, b = (q40 && q45) := ⟨_, rfl⟩
      obtain ⟨q53, Bq53⟩ : ∃ b : Bool, b = (((p.getD i default).1) == 1) := ⟨_, rfl⟩
      obtain ⟨q64, Bq64⟩ : ∃ b : Bool, b = (((p.getD i default).2).toList == (l.getD t default).toList) := ⟨_, rfl⟩
      obtain ⟨q65, Bq65⟩ : ∃ b : Bool, b = (q53 || q64) := ⟨_, rfl⟩
      obtain ⟨q66, Bq66⟩ : ∃ b : Bool, b = (q46 && q65) := ⟨_, rfl⟩
      refine Eng.regionD (Eng.still [fun u_ => u_ = .int .i64 (i : Nat), fun u_ => u_ = v, fun u_ => u_ = .int .i64 ((p.length : Nat) : Int), fun u_ => u_ = .bool q40, fun u_ => u_ = .bool q40, fun u_ => u_ = bif (q40 == true) then (.int .i64 (t : Nat)) else undef, fun u_ => u_ = bif (q40 == true) then (sv) else undef, fun u_ => u_ = bif (q40 == true) then (.int .i64 ((l.length : Nat) : Int)) else undef, fun u_ => u_ = bif (q40 == true) then (.bool q45) else undef, fun u_ => u_ = .bool q46, fun u_ => u_ = .bool q46, fun u_ => u_ = bif (q46 == true) then (v) else undef, fun u_ => u_ = bif (q46 == true) then (.int .i64 (i : Nat)) else undef, fun u_ => u_ = bif (q46 == true) then (Eng.elemPtr v (i * 2)) else undef, fun u_ => u_ = bif (q46 == true) then (Eng.elemPtr v (i * 2 + 0)) else undef, fun u_ => u_ = bif (q46 == true) then (.int .i64 ((p.getD i default).1)) else undef, fun u_ => u_ = bif (q46 == true) then (.bool q53) else undef, fun u_ => u_ = bif (q46 == true) then (.bool q53) else undef, fun u_ => u_ = bif ((q46 == true) && (q53 == false)) then (v) else undef, fun u_ => u_ = bif ((q46 == true) && (q53 == false)) then (.int .i64 (i : Nat)) else undef, fun u_ => u_ = bif ((q46 == true) && (q53 == false)) then (Eng.elemPtr v (i * 2)) else undef, fun u_ => u_ = bif ((q46 == true) && (q53 == false)) then (Eng.elemPtr v (i * 2 + 1)) else undef, fun u_ => u_ = bif ((q46 == true) && (q53 == false)) then (.string ((p.getD i default).2)) else undef, fun u_ => u_ = bif ((q46 == true) && (q53 == false)) then (sv) else undef, fun u_ => u_ = bif ((q46 == true) && (q53 == false)) then (.int .i64 (t : Nat)) else undef, fun u_ => u_ = bif ((q46 == true) && (q53 == false)) then (Eng.elemPtr sv (t * 1)) else undef, fun u_ => u_ = bif ((q46 == true) && (q53 == false)) then (.string (l.getD t default)) else undef, fun u_ => u_ = bif ((q46 == true) && (q53 == false)) then (.bool q64) else undef, fun u_ => u_ = bif (q46 == true) then (.bool q65) else undef, fun u_ => u_ = .bool q66, fun u_ => u_ = .bool q66]) (fun i => ([.plain, .plain, .plain, .plain, .plain, .plain, .plain, .plain, .plain, .plain, .plain, .plain, .plain, .plain, .plain, .plain, .plain, .plain, .plain, .plain, .plain, .plain, .plain, .plain, .plain, .plain, .plain, .plain, .plain, .plain, .plain] : List Eng.Kind).getD i .plain) 31 0 85 (by kernel_rfl) s7 rfl (by kernel_rfl) (Eng.still_stable _) (Or.inr (Eng.still_any _)) ?_ ?_
      · refine Eng.Steps.cons (fun _ => ?_) (Eng.Steps.cons (fun _ => ?_) (Eng.Steps.cons (fun _ => ?_) (Eng.Steps.cons (fun _ => ?_) (Eng.Steps.cons (fun _ => ?_) (Eng.Steps.cons (fun _ => ?_) (Eng.Steps.cons (fun _ => ?_) (Eng.Steps.cons (fun _ => ?_) (Eng.Steps.cons (fun _ => ?_) (Eng.Steps.cons (fun _ => ?_) (Eng.Steps.cons (fun _ => ?_) (Eng.Steps.cons (fun _ => ?_) (Eng.Steps.cons (fun _ => ?_) (Eng.Steps.cons (fun _ => ?_) (Eng.Steps.cons (fun _ => ?_) (Eng.Steps.cons (fun _ => ?_) (Eng.Steps.cons (fun _ => ?_) (Eng.Steps.cons (fun _ => ?_) (Eng.Steps.cons (fun _ => ?_) (Eng.Steps.cons (fun _ => ?_) (Eng.Steps.cons (fun _ => ?_) (Eng.Steps.cons (fun _ => ?_) (Eng.Steps.cons (fun _ => ?_) (Eng.Steps.cons (fun _ => ?_) (Eng.Steps.cons (fun _ => ?_) (Eng.Steps.cons (fun _ => ?_) (Eng.Steps.cons (fun _ => ?_) (Eng.Steps.cons (fun _ => ?_) (Eng.Steps.cons (fun _ => ?_) (Eng.Steps.cons (fun _ => ?_) (Eng.Steps.cons (fun _ => ?_) (Eng.Steps.nil)))))))))))))))))))))))))))))))
        · refine Eng.plain rfl rfl fun a w' H => ?_
          exact Eng.val (w1 := w') (v := .int .i64 (i : Nat)) (Eng.run_move rfl ((H.kept 5 (by kernel_rfl)).trans h5_7)) (Below.refl _ _) rfl
        · refine Eng.plain rfl rfl fun a w' H => ?_
          exact Eng.val (w1 := w') (v := v) (Eng.run_move rfl ((H.kept 0 (by kernel_rfl)).trans h0_7)) (Below.refl _ _) rfl
        · refine Eng.plain rfl rfl fun a w' H => ?_
          refine Eng.val (w1 := w') (v := .int .i64 ((p.length : Nat) : Int)) ?_ (Below.refl _ _) rfl
          exact Eng.run_len_sl rfl Tryd.underlying82 (show a.eval (.tmp 38) = v from (H.dep 1 38 (by kernel_rfl) rfl)) (Eng.Reads.below Fxx_7 H.below)
        · refine Eng.plain rfl rfl fun a w' H => ?_
          refine Eng.val (w1 := w') (v := .bool (decide ((i : Nat) < ((p.length : Nat) : Int)))) ?_ (Below.refl _ _) (by show _ = Value.bool q40; rw [Bq40])
          have e0 : a.eval (.tmp 37) = .int .i64 (i : Nat) := (H.dep 0 37 (by kernel_rfl) rfl)
          have e1 : a.eval (.tmp 39) = .int .i64 ((p.length : Nat) : Int) := (H.dep 2 39 (by kernel_rfl) rfl)
          simp only [execOp, resolve, List.map_toArray, List.map_cons, List.map_nil, e0, e1]
          go_simp
          all_goals first | rfl | (simp; done) | (rw [Bool.eq_iff_iff]; simp; done) | omega | skip
        · refine Eng.plain rfl rfl fun a w' H => ?_
          exact Eng.val (w1 := w') (v := .bool q40) (Eng.run_move rfl (H.dep 3 40 (by kernel_rfl) rfl)) (Below.refl _ _) rfl
        · refine Eng.guarded1 (j := 4) (d := 41) (b := q40) rfl rfl (by kernel_rfl) rfl (fun v w h => h) (fun hG w => Eng.off hG) fun hG a w' H => ?_
          exact Eng.val (w1 := w') (v := .int .i64 (t : Nat)) (Eng.run_move rfl ((H.kept 6 (by kernel_rfl)).trans h6_7)) (Below.refl _ _) (Eng.off' hG rfl)
        · refine Eng.guarded1 (j := 4) (d := 41) (b := q40) rfl rfl (by kernel_rfl) rfl (fun v w h => h) (fun hG w => Eng.off hG) fun hG a w' H => ?_
          exact Eng.val (w1 := w') (v := sv) (Eng.run_move rfl ((H.kept 1 (by kernel_rfl)).trans h1_7)) (Below.refl _ _) (Eng.off' hG rfl)
        · refine Eng.guarded1 (j := 4) (d := 41) (b := q40) rfl rfl (by kernel_rfl) rfl (fun v w h => h) (fun hG w => Eng.off hG) fun hG a w' H => ?_
          refine Eng.val (w1 := w') (v := .int .i64 ((l.length : Nat) : Int)) ?_ (Below.refl _ _) (Eng.off' hG rfl)
          exact Eng.run_len_sl rfl Tryd.underlying43 (show a.eval (.tmp 43) = sv from (Eng.on (H.dep 6 43 (by kernel_rfl) rfl) hG)) (Eng.Reads.below Fss_7 H.below)
        · refine Eng.guarded1 (j := 4) (d := 41) (b := q40) rfl rfl (by kernel_rfl) rfl (fun v w h => h) (fun hG w => Eng.off hG) fun hG a w' H => ?_
          refine Eng.val (w1 := w') (v := .bool (decide ((t : Nat) < ((l.length : Nat) : Int)))) ?_ (Below.refl _ _) (Eng.off' hG (by rw [Bq45]))
          have e0 : a.eval (.tmp 42) = .int .i64 (t : Nat) := (Eng.on (H.dep 5 42 (by kernel_rfl) rfl) hG)
          have e1 : a.eval (.tmp 44) = .int .i64 ((l.length : Nat) : Int) := (Eng.on (H.dep 7 44 (by kernel_rfl) rfl) hG)
          simp only [execOp, resolve, List.map_toArray, List.map_cons, List.map_nil, e0, e1]
          go_simp
          all_goals first | rfl | (simp; done) | (rw [Bool.eq_iff_iff]; simp; done) | omega | skip
        · refine Eng.plain rfl rfl fun a w' H => ?_
          exact Eng.val (w1 := w') (v := .bool (q40 && q45)) (Eng.run_and rfl rfl (G := true) (H.dep 4 41 (by kernel_rfl) rfl) (fun hb => (Eng.on (H.dep 8 45 (by kernel_rfl) rfl) (Eng.mk1 hb)))) (Below.refl _ _) (by show _ = Value.bool q46; rw [Bq46])
        · refine Eng.plain rfl rfl fun a w' H => ?_
          exact Eng.val (w1 := w') (v := .bool q46) (Eng.run_move rfl (H.dep 9 46 (by kernel_rfl) rfl)) (Below.refl _ _) rfl
        · refine Eng.guarded1 (j := 10) (d := 47) (b := q46) rfl rfl (by kernel_rfl) rfl (fun v w h => h) (fun hG w => Eng.off hG) fun hG a w' H => ?_
          exact Eng.val (w1 := w') (v := v) (Eng.run_move rfl ((H.kept 0 (by kernel_rfl)).trans h0_7)) (Below.refl _ _) (Eng.off' hG rfl)
        · refine Eng.guarded1 (j := 10) (d := 47) (b := q46) rfl rfl (by kernel_rfl) rfl (fun v w h => h) (fun hG w => Eng.off hG) fun hG a w' H => ?_
          exact Eng.val (w1 := w') (v := .int .i64 (i : Nat)) (Eng.run_move rfl ((H.kept 5 (by kernel_rfl)).trans h5_7)) (Below.refl _ _) (Eng.off' hG rfl)
        · refine Eng.guarded1 (j := 10) (d := 47) (b := q46) rfl rfl (by kernel_rfl) rfl (fun v w h => h) (fun hG w => Eng.off hG) fun hG a w' H => ?_
          refine Eng.val (w1 := w') (v := Eng.elemPtr v (i * 2)) ?_ (Below.refl _ _) (Eng.off' hG rfl)
          exact Eng.run_index_sl rfl Tryd.underlying82 (by kernel_rfl) (show a.eval (.tmp 48) = v from (Eng.on (H.dep 11 48 (by kernel_rfl) rfl) hG)) ((show a.eval (.tmp 49) = .int .i64 (i : Nat) from (Eng.on (H.dep 12 49 (by kernel_rfl) rfl) hG)).trans (congrArg (Value.int _) (show (i : Nat) = ((i : Nat) : Int) from by first | rfl | (have hq := Eng.one2 hG; rw [Bq46, Bq45, Bq40] at hq; simp only [Bool.and_eq_true, decide_eq_true_eq] at hq; omega)))) (Eng.Reads.below Fxx_7 H.below) (by first | rfl | (have hq := Eng.one2 hG; rw [Bq46, Bq45, Bq40] at hq; simp only [Bool.and_eq_true, decide_eq_true_eq] at hq; omega)) rfl
        · refine Eng.guarded1 (j := 10) (d := 47) (b := q46) rfl rfl (by kernel_rfl) rfl (fun v w h => h) (fun hG w => Eng.off hG) fun hG a w' H => ?_
          refine Eng.val (w1 := w') (v := Eng.elemPtr v (i * 2 + 0)) ?_ (Below.refl _ _) (Eng.off' hG rfl)
          exact Eng.run_field_el rfl Tryd.underlying115 0 (by kernel_rfl) (show a.eval (.tmp 50) = Eng.elemPtr v (i * 2) from (Eng.on (H.dep 13 50 (by kernel_rfl) rfl) hG)) (Eng.Reads.below Fxx_7 H.below) (by have h_ : i < p.length := (by first | rfl | (have hq := Eng.one2 hG; rw [Bq46, Bq45, Bq40] at hq; simp only [Bool.and_eq_true, decide_eq_true_eq] at hq; omega)); omega)
        · refine Eng.guarded1 (j := 10) (d := 47) (b := q46) rfl rfl (by kernel_rfl) rfl (fun v w h => h) (fun hG w => Eng.off hG) fun hG a w' H => ?_
          refine Eng.val (w1 := w') (v := .int .i64 ((p.getD i default).1)) ?_ (Below.refl _ _) (Eng.off' hG rfl)
          exact Eng.run_load_el (.int .i64 ((p.getD i default).1)) rfl (show a.eval (.tmp 51) = Eng.elemPtr v (i * 2 + 0) from (Eng.on (H.dep 14 51 (by kernel_rfl) rfl) hG)) (Eng.Reads.below Fxx_7 H.below) (Pth.cell0 (l := p) (j := i) (by first | rfl | (have hq := Eng.one2 hG; rw [Bq46, Bq45, Bq40] at hq; simp only [Bool.and_eq_true, decide_eq_true_eq] at hq; omega))) (by kernel_rfl)
        · refine Eng.guarded1 (j := 10) (d := 47) (b := q46) rfl rfl (by kernel_rfl) rfl (fun v w h => h) (fun hG w => Eng.off hG) fun hG a w' H => ?_
          refine Eng.val (w1 := w') (v := .bool (((p.getD i default).1) == 1)) ?_ (Below.refl _ _) (Eng.off' hG (by rw [Bq53]))
          have e0 : a.eval (.tmp 52) = .int .i64 ((p.getD i default).1) := (Eng.on (H.dep 15 52 (by kernel_rfl) rfl) hG)
          have e1 : a.eval (.const (.int .i64 1)) = .int .i64 1 := (rfl : a.eval (.const (.int .i64 1)) = .int .i64 1)
          simp only [execOp, resolve, List.map_toArray, List.map_cons, List.map_nil, e0, e1]
          go_simp
          all_goals first | rfl | (simp; done) | (rw [Bool.eq_iff_iff]; simp; done) | omega | skip
        · refine Eng.guarded1 (j := 10) (d := 47) (b := q46) rfl rfl (by kernel_rfl) rfl (fun v w h => h) (fun hG w => Eng.off hG) fun hG a w' H => ?_
          exact Eng.val (w1 := w') (v := .bool q53) (Eng.run_move rfl (Eng.on (H.dep 16 53 (by kernel_rfl) rfl) hG)) (Below.refl _ _) (Eng.off' hG rfl)
        · refine Eng.guarded (j := 17) (d := 54) (b := q53) (G := (q46 == true)) rfl rfl (by kernel_rfl) rfl (fun v w h => h) (fun hG w => Eng.off hG) fun hG a w' H => ?_
          exact Eng.val (w1 := w') (v := v) (Eng.run_move rfl ((H.kept 0 (by kernel_rfl)).trans h0_7)) (Below.refl _ _) (Eng.off' hG rfl)
        · refine Eng.guarded (j := 17) (d := 54) (b := q53) (G := (q46 == true)) rfl rfl (by kernel_rfl) rfl (fun v w h => h) (fun hG w => Eng.off hG) fun hG a w' H => ?_
          exact Eng.val (w1 := w') (v := .int .i64 (i : Nat)) (Eng.run_move rfl ((H.kept 5 (by kernel_rfl)).trans h5_7)) (Below.refl _ _) (Eng.off' hG rfl)
        · refine Eng.guarded (j := 17) (d := 54) (b := q53) (G := (q46 == true)) rfl rfl (by kernel_rfl) rfl (fun v w h => h) (fun hG w => Eng.off hG) fun hG a w' H => ?_
          refine Eng.val (w1 := w') (v := Eng.elemPtr v (i * 2)) ?_ (Below.refl _ _) (Eng.off' hG rfl)
          exact Eng.run_index_sl rfl Tryd.underlying82 (by kernel_rfl) (show a.eval (.tmp 55) = v from (Eng.on (H.dep 18 55 (by kernel_rfl) rfl) hG)) ((show a.eval (.tmp 56) = .int .i64 (i : Nat) from (Eng.on (H.dep 19 56 (by kernel_rfl) rfl) hG)).trans (congrArg (Value.int _) (show (i : Nat) = ((i : Nat) : Int) from by first | rfl | (have hq := Eng.one2 (Eng.and1 hG); rw [Bq46, Bq45, Bq40] at hq; simp only [Bool.and_eq_true, decide_eq_true_eq] at hq; omega)))) (Eng.Reads.below Fxx_7 H.below) (by first | rfl | (have hq := Eng.one2 (Eng.and1 hG); rw [Bq46, Bq45, Bq40] at hq; simp only [Bool.and_eq_true, decide_eq_true_eq] at hq; omega)) rfl
        · refine Eng.guarded (j := 17) (d := 54) (b := q53) (G := (q46 == true)) rfl rfl (by kernel_rfl) rfl (fun v w h => h) (fun hG w => Eng.off hG) fun hG a w' H => ?_
          refine Eng.val (w1 := w') (v := Eng.elemPtr v (i * 2 + 1)) ?_ (Below.refl _ _) (Eng.off' hG rfl)
          exact Eng.run_field_el rfl Tryd.underlying115 1 (by kernel_rfl) (show a.eval (.tmp 57) = Eng.elemPtr v (i * 2) from (Eng.on (H.dep 20 57 (by kernel_rfl) rfl) hG)) (Eng.Reads.below Fxx_7 H.below) (by have h_ : i < p.length := (by first | rfl | (have hq := Eng.one2 (Eng.and1 hG); rw [Bq46, Bq45, Bq40] at hq; simp only [Bool.and_eq_true, decide_eq_true_eq] at hq; omega)); omega)
        · refine Eng.guarded (j := 17) (d := 54) (b := q53) (G := (q46 == true)) rfl rfl (by kernel_rfl) rfl (fun v w h => h) (fun hG w => Eng.off hG) fun hG a w' H => ?_
          refine Eng.val (w1 := w') (v := .string ((p.getD i default).2)) ?_ (Below.refl _ _) (Eng.off' hG rfl)
          exact Eng.run_load_el (.string ((p.getD i default).2)) rfl (show a.eval (.tmp 58) = Eng.elemPtr v (i * 2 + 1) from (Eng.on (H.dep 21 58 (by kernel_rfl) rfl) hG)) (Eng.Reads.below Fxx_7 H.below) (Pth.cell1 (l := p) (j := i) (by first | rfl | (have hq := Eng.one2 (Eng.and1 hG); rw [Bq46, Bq45, Bq40] at hq; simp only [Bool.and_eq_true, decide_eq_true_eq] at hq; omega))) (by kernel_rfl)
        · refine Eng.guarded (j := 17) (d := 54) (b := q53) (G := (q46 == true)) rfl rfl (by kernel_rfl) rfl (fun v w h => h) (fun hG w => Eng.off hG) fun hG a w' H => ?_
          exact Eng.val (w1 := w') (v := sv) (Eng.run_move rfl ((H.kept 1 (by kernel_rfl)).trans h1_7)) (Below.refl _ _) (Eng.off' hG rfl)
        · refine Eng.guarded (j := 17) (d := 54) (b := q53) (G := (q46 == true)) rfl rfl (by kernel_rfl) rfl (fun v w h => h) (fun hG w => Eng.off hG) fun hG a w' H => ?_
          exact Eng.val (w1 := w') (v := .int .i64 (t : Nat)) (Eng.run_move rfl ((H.kept 6 (by kernel_rfl)).trans h6_7)) (Below.refl _ _) (Eng.off' hG rfl)
        · refine Eng.guarded (j := 17) (d := 54) (b := q53) (G := (q46 == true)) rfl rfl (by kernel_rfl) rfl (fun v w h => h) (fun hG w => Eng.off hG) fun hG a w' H => ?_
          refine Eng.val (w1 := w') (v := Eng.elemPtr sv (t * 1)) ?_ (Below.refl _ _) (Eng.off' hG rfl)
          exact Eng.run_index_sl rfl Tryd.underlying43 (by kernel_rfl) (show a.eval (.tmp 60) = sv from (Eng.on (H.dep 23 60 (by kernel_rfl) rfl) hG)) ((show a.eval (.tmp 61) = .int .i64 (t : Nat) from (Eng.on (H.dep 24 61 (by kernel_rfl) rfl) hG)).trans (congrArg (Value.int _) (show (t : Nat) = ((t : Nat) : Int) from by first | rfl | (have hq := Eng.one2 (Eng.and1 hG); rw [Bq46, Bq45, Bq40] at hq; simp only [Bool.and_eq_true, decide_eq_true_eq] at hq; omega)))) (Eng.Reads.below Fss_7 H.below) (by first | rfl | (have hq := Eng.one2 (Eng.and1 hG); rw [Bq46, Bq45, Bq40] at hq; simp only [Bool.and_eq_true, decide_eq_true_eq] at hq; omega)) rfl
        · refine Eng.guarded (j := 17) (d := 54) (b := q53) (G := (q46 == true)) rfl rfl (by kernel_rfl) rfl (fun v w h => h) (fun hG w => Eng.off hG) fun hG a w' H => ?_
          refine Eng.val (w1 := w') (v := .string (l.getD t default)) ?_ (Below.refl _ _) (Eng.off' hG rfl)
          exact Eng.run_load_el (.string (l.getD t default)) rfl (show a.eval (.tmp 62) = Eng.elemPtr sv (t * 1) from (Eng.on (H.dep 25 62 (by kernel_rfl) rfl) hG)) (Eng.Reads.below Fss_7 H.below) (Nfa.strs_at l t (by first | rfl | (have hq := Eng.one2 (Eng.and1 hG); rw [Bq46, Bq45, Bq40] at hq; simp only [Bool.and_eq_true, decide_eq_true_eq] at hq; omega))) (by kernel_rfl)
        · refine Eng.guarded (j := 17) (d := 54) (b := q53) (G := (q46 == true)) rfl rfl (by kernel_rfl) rfl (fun v w h => h) (fun hG w => Eng.off hG) fun hG a w' H => ?_
          refine Eng.val (w1 := w') (v := .bool (((p.getD i default).2).toList == (l.getD t default).toList)) ?_ (Below.refl _ _) (Eng.off' hG (by rw [Bq64]))
          have e0 : a.eval (.tmp 59) = .string ((p.getD i default).2) := (Eng.on (H.dep 22 59 (by kernel_rfl) rfl) hG)
          have e1 : a.eval (.tmp 63) = .string (l.getD t default) := (Eng.on (H.dep 26 63 (by kernel_rfl) rfl) hG)
          simp only [execOp, resolve, List.map_toArray, List.map_cons, List.map_nil, e0, e1]
          go_simp
          all_goals first | rfl | (simp; done) | (rw [Bool.eq_iff_iff]; simp; done) | omega | skip
        · refine Eng.guarded1 (j := 10) (d := 47) (b := q46) rfl rfl (by kernel_rfl) rfl (fun v w h => h) (fun hG w => Eng.off hG) fun hG a w' H => ?_
          exact Eng.val (w1 := w') (v := .bool (q53 || q64)) (Eng.run_or rfl rfl (G := true) (Eng.on (H.dep 17 54 (by kernel_rfl) rfl) hG) (fun hb => (Eng.on (H.dep 27 64 (by kernel_rfl) rfl) (Eng.mk2 (Eng.mk1 (Eng.one2 hG)) hb)))) (Below.refl _ _) (Eng.off' hG (by rw [Bq65]))
        · refine Eng.plain rfl rfl fun a w' H => ?_
          exact Eng.val (w1 := w') (v := .bool (q46 && q65)) (Eng.run_and rfl rfl (G := true) (H.dep 10 47 (by kernel_rfl) rfl) (fun hb => (Eng.on (H.dep 28 65 (by kernel_rfl) rfl) (Eng.mk1 hb)))) (Below.refl _ _) (by show _ = Value.bool q66; rw [Bq66])
        · refine Eng.plain rfl rfl fun a w' H => ?_
          exact Eng.val (w1 := w') (v := .bool q66) (Eng.run_assign rfl (H.dep 29 66 (by kernel_rfl) rfl)) (Below.refl _ _) rfl
      intro act12 w12 T
      have h0_12 : act12.eval (.tmp 0) = v := (T.rest 0 (by kernel_rfl)).trans h0_7
      have h1_12 : act12.eval (.tmp 1) = sv := (T.rest 1 (by kernel_rfl)).trans h1_7
      have h5_12 : act12.eval (.tmp 5) = .int .i64 (i : Nat) := (T.rest 5 (by kernel_rfl)).trans h5_7
      have h6_12 : act12.eval (.tmp 6) = .int .i64 (t : Nat) := (T.rest 6 (by kernel_rfl)).trans h6_7
      have h7_12 : act12.eval (.tmp 7) = .int .i64 (((D : Nat) : Int) - 1) := (T.rest 7 (by kernel_rfl)).trans h7_7
      have h8_12 : act12.eval (.tmp 8) = .int .i64 (r : Nat) := (T.rest 8 (by kernel_rfl)).trans h8_7
      have h18_12 : act12.eval (.tmp 18) = .bool q18 := (T.rest 18 (by kernel_rfl)).trans h18_7
      have h19_12 : act12.eval (.tmp 19) = .bool q31 := (T.rest 19 (by kernel_rfl)).trans h19_7
      have Fxx_12 := Eng.Reads.below Fxx_7 T.below
      have Fss_12 := Eng.Reads.below Fss_7 T.below
      have h36_12 : act12.eval (.tmp 36) = .bool q66 := T.done 30 36 rfl rfl
      have d12 := T.defers.trans d7
      have s12 := T.size.trans s7
      have bl12 := bl7.trans (T.below.mono bl7.size)
      clear T
      refine Eng.tail_nil ?_
      first | show Code.wp Tryd.prog _ _ _ _ | skip
      refine wp_cond_split h36_12 (fun hq => ?_) (fun hq => ?_)
      ·
        have kn13 := hq
        have c36 := Bq66.symm.trans hq
        clear hq
        rw [Bq65, Bq64, Bq53, Bq46, Bq45, Bq40] at c36
        simp only [Bool.and_eq_true, decide_eq_true_eq] at c36
        have hi0 : i < p.length := by omega
        have ht0 : t < l.length := by omega
        have hnd := hnd0 hi0
        have hft : Nfa.fits p (l.getD t default) i = true := c36.2
        refine wp_seq ?_
        refine Eng.regionS (Eng.still [fun u_ => u_ = .int .i64 (i : Nat), fun u_ => u_ = .int .i64 (IntKind.i64.wrap ((i : Nat) + 1)), fun u_ => u_ = .int .i64 (IntKind.i64.wrap ((i : Nat) + 1))]) (fun i => ([.plain, .plain, .plain] : List Eng.Kind).getD i .plain) 3 0 85 s12 rfl (by kernel_rfl) (Eng.still_stable _) (Or.inr (Eng.still_any _)) ?_ ?_
        · refine Eng.Steps.cons (fun _ => ?_) (Eng.Steps.cons (fun _ => ?_) (Eng.Steps.cons (fun _ => ?_) (Eng.Steps.nil)))
          · refine Eng.plain rfl rfl fun a w' H => ?_
            exact Eng.val (w1 := w') (v := .int .i64 (i : Nat)) (Eng.run_move rfl ((H.kept 5 (by kernel_rfl)).trans h5_12)) (Below.refl _ _) rfl
          · refine Eng.plain rfl rfl fun a w' H => ?_
            refine Eng.val (w1 := w') (v := .int .i64 (IntKind.i64.wrap ((i : Nat) + 1))) ?_ (Below.refl _ _) rfl
            have e0 : a.eval (.tmp 67) = .int .i64 (i : Nat) := (H.dep 0 67 (by kernel_rfl) rfl)
            have e1 : a.eval (.const (.int .i64 1)) = .int .i64 1 := (rfl : a.eval (.const (.int .i64 1)) = .int .i64 1)
            simp only [execOp, resolve, List.map_toArray, List.map_cons, List.map_nil, e0, e1]
            go_simp
            all_goals first | rfl | (simp; done) | (rw [Bool.eq_iff_iff]; simp; done) | omega | skip
          · refine Eng.plain rfl rfl fun a w' H => ?_
            exact Eng.val (w1 := w') (v := .int .i64 (IntKind.i64.wrap ((i : Nat) + 1))) (Eng.run_assign rfl (H.dep 1 68 (by kernel_rfl) rfl)) (Below.refl _ _) rfl
        intro act14 w14 T
        have h0_14 : act14.eval (.tmp 0) = v := (T.rest 0 (by kernel_rfl)).trans h0_12
        have h1_14 : act14.eval (.tmp 1) = sv := (T.rest 1 (by kernel_rfl)).trans h1_12
        have h6_14 : act14.eval (.tmp 6) = .int .i64 (t : Nat) := (T.rest 6 (by kernel_rfl)).trans h6_12
        have h7_14 : act14.eval (.tmp 7) = .int .i64 (((D : Nat) : Int) - 1) := (T.rest 7 (by kernel_rfl)).trans h7_12
        have h8_14 : act14.eval (.tmp 8) = .int .i64 (r : Nat) := (T.rest 8 (by kernel_rfl)).trans h8_12
        have h18_14 : act14.eval (.tmp 18) = .bool q18 := (T.rest 18 (by kernel_rfl)).trans h18_12
        have h19_14 : act14.eval (.tmp 19) = .bool q31 := (T.rest 19 (by kernel_rfl)).trans h19_12
        have h36_14 : act14.eval (.tmp 36) = .bool q66 := (T.rest 36 (by kernel_rfl)).trans h36_12
        have Fxx_14 := Eng.Reads.below Fxx_12 T.below
        have Fss_14 := Eng.Reads.below Fss_12 T.below
        have h5_14 : act14.eval (.tmp 5) = .int .i64 (IntKind.i64.wrap ((i : Nat) + 1)) := T.done 2 5 rfl rfl
        have d14 := T.defers.trans d12
        have s14 := T.size.trans s12
        have bl14 := bl12.trans (T.below.mono bl12.size)
        clear T
        refine Eng.tail_nil ?_
        first | show Code.wp Tryd.prog _ _ _ _ | skip
        refine wp_seq ?_
        refine Eng.regionS (Eng.still [fun u_ => u_ = .int .i64 (t : Nat), fun u_ => u_ = .int .i64 (IntKind.i64.wrap ((t : Nat) + 1)), fun u_ => u_ = .int .i64 (IntKind.i64.wrap ((t : Nat) + 1))]) (fun i => ([.plain, .plain, .plain] : List Eng.Kind).getD i .plain) 3 0 85 s14 rfl (by kernel_rfl) (Eng.still_stable _) (Or.inr (Eng.still_any _)) ?_ ?_
        · refine Eng.Steps.cons (fun _ => ?_) (Eng.Steps.cons (fun _ => ?_) (Eng.Steps.cons (fun _ => ?_) (Eng.Steps.nil)))
          · refine Eng.plain rfl rfl fun a w' H => ?_
            exact Eng.val (w1 := w') (v := .int .i64 (t : Nat)) (Eng.run_move rfl ((H.kept 6 (by kernel_rfl)).trans h6_14)) (Below.refl _ _) rfl
          · refine Eng.plain rfl rfl fun a w' H => ?_
            refine Eng.val (w1 := w') (v := .int .i64 (IntKind.i64.wrap ((t : Nat) + 1))) ?_ (Below.refl _ _) rfl
            have e0 : a.eval (.tmp 69) = .int .i64 (t : Nat) := (H.dep 0 69 (by kernel_rfl) rfl)
            have e1 : a.eval (.const (.int .i64 1)) = .int .i64 1 := (rfl : a.eval (.const (.int .i64 1)) = .int .i64 1)
            simp only [execOp, resolve, List.map_toArray, List.map_cons, List.map_nil, e0, e1]
            go_simp
            all_goals first | rfl | (simp; done) | (rw [Bool.eq_iff_iff]; simp; done) | omega | skip
          · refine Eng.plain rfl rfl fun a w' H => ?_
            exact Eng.val (w1 := w') (v := .int .i64 (IntKind.i64.wrap ((t : Nat) + 1))) (Eng.run_assign rfl (H.dep 1 70 (by kernel_rfl) rfl)) (Below.refl _ _) rfl
        intro act15 w15 T
        have h0_15 : act15.eval (.tmp 0) = v := (T.rest 0 (by kernel_rfl)).trans h0_14
        have h1_15 : act15.eval (.tmp 1) = sv := (T.rest 1 (by kernel_rfl)).trans h1_14
        have h5_15 : act15.eval (.tmp 5) = .int .i64 (IntKind.i64.wrap ((i : Nat) + 1)) := (T.rest 5 (by kernel_rfl)).trans h5_14
        have h7_15 : act15.eval (.tmp 7) = .int .i64 (((D : Nat) : Int) - 1) := (T.rest 7 (by kernel_rfl)).trans h7_14
        have h8_15 : act15.eval (.tmp 8) = .int .i64 (r : Nat) := (T.rest 8 (by kernel_rfl)).trans h8_14
        have h18_15 : act15.eval (.tmp 18) = .bool q18 := (T.rest 18 (by kernel_rfl)).trans h18_14
        have h19_15 : act15.eval (.tmp 19) = .bool q31 := (T.rest 19 (by kernel_rfl)).trans h19_14
        have h36_15 : act15.eval (.tmp 36) = .bool q66 := (T.rest 36 (by kernel_rfl)).trans h36_14
        have Fxx_15 := Eng.Reads.below Fxx_14 T.below
        have Fss_15 := Eng.Reads.below Fss_14 T.below
        have h6_15 : act15.eval (.tmp 6) = .int .i64 (IntKind.i64.wrap ((t : Nat) + 1)) := T.done 2 6 rfl rfl
        have d15 := T.defers.trans d14
        have s15 := T.size.trans s14
        have bl15 := bl14.trans (T.below.mono bl14.size)
        clear T
        refine Eng.tail_nil ?_
        first | show Code.wp Tryd.prog _ _ _ _ | skip
        refine wp_exit ?_
        exact ⟨_, Nfa.left_fit hi0, i + 1, t + 1, D, r, rfl, hI.fit hi0 ht0 hnd hft, d15, s15, bl15, h0_15, h1_15, (h5_15.trans (by first | rfl | (congr 1; rw [Eng.i64_id (by omega) (by omega)]; omega) | (congr 1; omega) | (simp; done))), (h6_15.trans (by first | rfl | (congr 1; rw [Eng.i64_id (by omega) (by omega)]; omega) | (congr 1; omega) | (simp; done))), (h7_15.trans (by first | rfl | (congr 1; rw [Eng.i64_id (by omega) (by omega)]; omega) | (congr 1; omega) | (simp; done))), (h8_15.trans (by first | rfl | (congr 1; rw [Eng.i64_id (by omega) (by omega)]; omega) | (congr 1; omega) | (simp; done)))⟩
      ·
        have kn16 := hq
        have c36 := Bq66.symm.trans hq
        clear hq
        have hnf : i < p.length → t < l.length → Nfa.fits p (l.getD t default) i = false := fun h1 h2 => by cases hq : Nfa.fits p (l.getD t default) i with | false => rfl | true => (rw [Bq65, Bq64, Bq53, Bq46, Bq45, Bq40, show ((p.getD i default).1 == 1 || (p.getD i default).2.toList == (l.getD t default).toList) = true from hq] at c36; simp only [Bool.and_true, Bool.and_eq_false_iff, decide_eq_false_iff_not] at c36; omega)
        have hst := Nfa.stuck hI.hi hI.ht (by omega) hnd0 hnf
        refine wp_seq ?_
        obtain ⟨q73, Bq73⟩ : ∃ b : Bool, b = (decide ((((D : Nat) : Int) - 1) < 0)) := ⟨_, rfl⟩
        obtain ⟨q78, Bq78⟩ : ∃ b : Bool, b = (decide ((r : Nat) ≥ ((l.length : Nat) : Int))) := ⟨_, rfl⟩
        obtain ⟨q79, Bq79⟩ : ∃ b : Bool, b = (q73 || q78) := ⟨_, rfl⟩
        refine Eng.regionS (Eng.still [fun u_ => u_ = .int .i64 (((D : Nat) : Int) - 1), fun u_ => u_ = .bool q73, fun u_ => u_ = .bool q73, fun u_ => u_ = bif (q73 == false) then (.int .i64 (r : Nat)) else undef, fun u_ => u_ = bif (q73 == false) then (sv) else undef, fun u_ => u_ = bif (q73 == false) then (.int .i64 ((l.length : Nat) : Int)) else undef, fun u_ => u_ = bif (q73 == false) then (.bool q78) else undef, fun u_ => u_ = .bool q79, fun u_ => u_ = .bool q79]) (fun i => ([.plain, .plain, .plain, .plain, .plain, .plain, .plain, .plain, .plain] : List Eng.Kind).getD i .plain) 9 0 85 s12 rfl (by kernel_rfl) (Eng.still_stable _) (Or.inr (Eng.still_any _)) ?_ ?_
        · refine Eng.Steps.cons (fun _ => ?_) (Eng.Steps.cons (fun _ => ?_) (Eng.Steps.cons (fun _ => ?_) (Eng.Steps.cons (fun _ => ?_) (Eng.Steps.cons (fun _ => ?_) (Eng.Steps.cons (fun _ => ?_) (Eng.Steps.cons (fun _ => ?_) (Eng.Steps.cons (fun _ => ?_) (Eng.Steps.cons (fun _ => ?_) (Eng.Steps.nil)))))))))
          · refine Eng.plain rfl rfl fun a w' H => ?_
            exact Eng.val (w1 := w') (v := .int .i64 (((D : Nat) : Int) - 1)) (Eng.run_move rfl ((H.kept 7 (by kernel_rfl)).trans h7_12)) (Below.refl _ _) rfl
          · refine Eng.plain rfl rfl fun a w' H => ?_
            refine Eng.val (w1 := w') (v := .bool (decide ((((D : Nat) : Int) - 1) < 0))) ?_ (Below.refl _ _) (by show _ = Value.bool q73; rw [Bq73])
            have e0 : a.eval (.tmp 72) = .int .i64 (((D : Nat) : Int) - 1) := (H.dep 0 72 (by kernel_rfl) rfl)
            have e1 : a.eval (.const (.int .i64 0)) = .int .i64 0 := (rfl : a.eval (.const (.int .i64 0)) = .int .i64 0)
            simp only [execOp, resolve, List.map_toArray, List.map_cons, List.map_nil, e0, e1]
            go_simp
            all_goals first | rfl | (simp; done) | (rw [Bool.eq_iff_iff]; simp; done) | omega | skip
          · refine Eng.plain rfl rfl fun a w' H => ?_
            exact Eng.val (w1 := w') (v := .bool q73) (Eng.run_move rfl (H.dep 1 73 (by kernel_rfl) rfl)) (Below.refl _ _) rfl
          · refine Eng.guarded1 (j := 2) (d := 74) (b := q73) rfl rfl (by kernel_rfl) rfl (fun v w h => h) (fun hG w => Eng.off hG) fun hG a w' H => ?_
            exact Eng.val (w1 := w') (v := .int .i64 (r : Nat)) (Eng.run_move rfl ((H.kept 8 (by kernel_rfl)).trans h8_12)) (Below.refl _ _) (Eng.off' hG rfl)
          · refine Eng.guarded1 (j := 2) (d := 74) (b := q73) rfl rfl (by kernel_rfl) rfl (fun v w h => h) (fun hG w => Eng.off hG) fun hG a w' H => ?_
            exact Eng.val (w1 := w') (v := sv) (Eng.run_move rfl ((H.kept 1 (by kernel_rfl)).trans h1_12)) (Below.refl _ _) (Eng.off' hG rfl)
          · refine Eng.guarded1 (j := 2) (d := 74) (b := q73) rfl rfl (by kernel_rfl) rfl (fun v w h => h) (fun hG w => Eng.off hG) fun hG a w' H => ?_
            refine Eng.val (w1 := w') (v := .int .i64 ((l.length : Nat) : Int)) ?_ (Below.refl _ _) (Eng.off' hG rfl)
            exact Eng.run_len_sl rfl Tryd.underlying43 (show a.eval (.tmp 76) = sv from (Eng.on (H.dep 4 76 (by kernel_rfl) rfl) hG)) (Eng.Reads.below Fss_12 H.below)
          · refine Eng.guarded1 (j := 2) (d := 74) (b := q73) rfl rfl (by kernel_rfl) rfl (fun v w h => h) (fun hG w => Eng.off hG) fun hG a w' H => ?_
            refine Eng.val (w1 := w') (v := .bool (decide ((r : Nat) ≥ ((l.length : Nat) : Int)))) ?_ (Below.refl _ _) (Eng.off' hG (by rw [Bq78]))
            have e0 : a.eval (.tmp 75) = .int .i64 (r : Nat) := (Eng.on (H.dep 3 75 (by kernel_rfl) rfl) hG)
            have e1 : a.eval (.tmp 77) = .int .i64 ((l.length : Nat) : Int) := (Eng.on (H.dep 5 77 (by kernel_rfl) rfl) hG)
            simp only [execOp, resolve, List.map_toArray, List.map_cons, List.map_nil, e0, e1]
            go_simp
            all_goals first | rfl | (simp; done) | (rw [Bool.eq_iff_iff]; simp; done) | omega | skip
          · refine Eng.plain rfl rfl fun a w' H => ?_
            exact Eng.val (w1 := w') (v := .bool (q73 || q78)) (Eng.run_or rfl rfl (G := true) (H.dep 2 74 (by kernel_rfl) rfl) (fun hb => (Eng.on (H.dep 6 78 (by kernel_rfl) rfl) (Eng.mk1 hb)))) (Below.refl _ _) (by show _ = Value.bool q79; rw [Bq79])
          · refine Eng.plain rfl rfl fun a w' H => ?_
            exact Eng.val (w1 := w') (v := .bool q79) (Eng.run_assign rfl (H.dep 7 79 (by kernel_rfl) rfl)) (Below.refl _ _) rfl
        intro act17 w17 T
        have h0_17 : act17.eval (.tmp 0) = v := (T.rest 0 (by kernel_rfl)).trans h0_12
        have h1_17 : act17.eval (.tmp 1) = sv := (T.rest 1 (by kernel_rfl)).trans h1_12
        have h5_17 : act17.eval (.tmp 5) = .int .i64 (i : Nat) := (T.rest 5 (by kernel_rfl)).trans h5_12
        have h6_17 : act17.eval (.tmp 6) = .int .i64 (t : Nat) := (T.rest 6 (by kernel_rfl)).trans h6_12
        have h7_17 : act17.eval (.tmp 7) = .int .i64 (((D : Nat) : Int) - 1) := (T.rest 7 (by kernel_rfl)).trans h7_12
        have h8_17 : act17.eval (.tmp 8) = .int .i64 (r : Nat) := (T.rest 8 (by kernel_rfl)).trans h8_12
        have h18_17 : act17.eval (.tmp 18) = .bool q18 := (T.rest 18 (by kernel_rfl)).trans h18_12
        have h19_17 : act17.eval (.tmp 19) = .bool q31 := (T.rest 19 (by kernel_rfl)).trans h19_12
        have h36_17 : act17.eval (.tmp 36) = .bool q66 := (T.rest 36 (by kernel_rfl)).trans h36_12
        have Fxx_17 := Eng.Reads.below Fxx_12 T.below
        have Fss_17 := Eng.Reads.below Fss_12 T.below
        have h71_17 : act17.eval (.tmp 71) = .bool q79 := T.done 8 71 rfl rfl
        have d17 := T.defers.trans d12
        have s17 := T.size.trans s12
        have bl17 := bl12.trans (T.below.mono bl12.size)
        clear T
        refine Eng.tail_nil ?_
        first | show Code.wp Tryd.prog _ _ _ _ | skip
        refine wp_cond_split h71_17 (fun hq => ?_) (fun hq => ?_)
        ·
          have kn18 := hq
          have c71 := Bq79.symm.trans hq
          clear hq
          rw [Bq78, Bq73] at c71
          simp only [Bool.or_eq_true, decide_eq_true_eq] at c71
          refine wp_seq ?_
          refine Eng.regionS (Eng.still [fun u_ => u_ = .bool false]) (fun i => ([.plain] : List Eng.Kind).getD i .plain) 1 0 85 s17 rfl (by kernel_rfl) (Eng.still_stable _) (Or.inr (Eng.still_any _)) ?_ ?_
          · refine Eng.Steps.cons (fun _ => ?_) (Eng.Steps.nil)
            · refine Eng.plain rfl rfl fun a w' H => ?_
              exact Eng.val (w1 := w') (v := .bool false) (Eng.run_assign rfl (rfl : a.eval (.const (.bool false)) = .bool false)) (Below.refl _ _) rfl
          intro act19 w19 T
          have h0_19 : act19.eval (.tmp 0) = v := (T.rest 0 (by kernel_rfl)).trans h0_17
          have h1_19 : act19.eval (.tmp 1) = sv := (T.rest 1 (by kernel_rfl)).trans h1_17
          have h5_19 : act19.eval (.tmp 5) = .int .i64 (i : Nat) := (T.rest 5 (by kernel_rfl)).trans h5_17
          have h6_19 : act19.eval (.tmp 6) = .int .i64 (t : Nat) := (T.rest 6 (by kernel_rfl)).trans h6_17
          have h7_19 : act19.eval (.tmp 7) = .int .i64 (((D : Nat) : Int) - 1) := (T.rest 7 (by kernel_rfl)).trans h7_17
          have h8_19 : act19.eval (.tmp 8) = .int .i64 (r : Nat) := (T.rest 8 (by kernel_rfl)).trans h8_17
          have h18_19 : act19.eval (.tmp 18) = .bool q18 := (T.rest 18 (by kernel_rfl)).trans h18_17
          have h19_19 : act19.eval (.tmp 19) = .bool q31 := (T.rest 19 (by kernel_rfl)).trans h19_17
          have h36_19 : act19.eval (.tmp 36) = .bool q66 := (T.rest 36 (by kernel_rfl)).trans h36_17
          have h71_19 : act19.eval (.tmp 71) = .bool q79 := (T.rest 71 (by kernel_rfl)).trans h71_17
          have Fxx_19 := Eng.Reads.below Fxx_17 T.below
          have Fss_19 := Eng.Reads.below Fss_17 T.below
          have h4_19 : act19.eval (.tmp 4) = .bool false := T.done 0 4 rfl rfl
          have d19 := T.defers.trans d17
          have s19 := T.size.trans s17
          have bl19 := bl17.trans (T.below.mono bl17.size)
          clear T
          refine Eng.tail_nil ?_
          first | show Code.wp Tryd.prog _ _ _ _ | skip
          refine wp_ret ?_
          repeat (first | refine Eng.in_ret ?_ | refine Eng.then_ret ?_)
          exact Eng.ret1 rfl d19 h4_19 ⟨congrArg _ (congrArg _ (hI.fail hst (by omega)).symm), bl19⟩
        ·
          have kn20 := hq
          have c71 := Bq79.symm.trans hq
          clear hq
          rw [Bq78, Bq73] at c71
          simp only [Bool.or_eq_false_iff, decide_eq_false_iff_not] at c71
          have hD0 : 0 < D := by omega
          have hr0 : r < l.length := by omega
          refine wp_skip ?_
          first | show Code.wp Tryd.prog _ _ _ _ | skip
          refine wp_seq ?_
          refine Eng.regionS (Eng.still [fun u_ => u_ = .int .i64 (r : Nat), fun u_ => u_ = .int .i64 (IntKind.i64.wrap ((r : Nat) + 1)), fun u_ => u_ = .int .i64 (IntKind.i64.wrap ((r : Nat) + 1))]) (fun i => ([.plain, .plain, .plain] : List Eng.Kind).getD i .plain) 3 0 85 s17 rfl (by kernel_rfl) (Eng.still_stable _) (Or.inr (Eng.still_any _)) ?_ ?_
          · refine Eng.Steps.cons (fun _ => ?_) (Eng.Steps.cons (fun _ => ?_) (Eng.Steps.cons (fun _ => ?_) (Eng.Steps.nil)))
            · refine Eng.plain rfl rfl fun a w' H => ?_
              exact Eng.val (w1 := w') (v := .int .i64 (r : Nat)) (Eng.run_move rfl ((H.kept 8 (by kernel_rfl)).trans h8_17)) (Below.refl _ _) rfl
            · refine Eng.plain rfl rfl fun a w' H => ?_
              refine Eng.val (w1 := w') (v := .int .i64 (IntKind.i64.wrap ((r : Nat) + 1))) ?_ (Below.refl _ _) rfl
              have e0 : a.eval (.tmp 80) = .int .i64 (r : Nat) := (H.dep 0 80 (by kernel_rfl) rfl)
              have e1 : a.eval (.const (.int .i64 1)) = .int .i64 1 := (rfl : a.eval (.const (.int .i64 1)) = .int .i64 1)
              simp only [execOp, resolve, List.map_toArray, List.map_cons, List.map_nil, e0, e1]
              go_simp
              all_goals first | rfl | (simp; done) | (rw [Bool.eq_iff_iff]; simp; done) | omega | skip
            · refine Eng.plain rfl rfl fun a w' H => ?_
              exact Eng.val (w1 := w') (v := .int .i64 (IntKind.i64.wrap ((r : Nat) + 1))) (Eng.run_assign rfl (H.dep 1 81 (by kernel_rfl) rfl)) (Below.refl _ _) rfl
          intro act21 w21 T
          have h0_21 : act21.eval (.tmp 0) = v := (T.rest 0 (by kernel_rfl)).trans h0_17
          have h1_21 : act21.eval (.tmp 1) = sv := (T.rest 1 (by kernel_rfl)).trans h1_17
          have h5_21 : act21.eval (.tmp 5) = .int .i64 (i : Nat) := (T.rest 5 (by kernel_rfl)).trans h5_17
          have h6_21 : act21.eval (.tmp 6) = .int .i64 (t : Nat) := (T.rest 6 (by kernel_rfl)).trans h6_17
          have h7_21 : act21.eval (.tmp 7) = .int .i64 (((D : Nat) : Int) - 1) := (T.rest 7 (by kernel_rfl)).trans h7_17
          have h18_21 : act21.eval (.tmp 18) = .bool q18 := (T.rest 18 (by kernel_rfl)).trans h18_17
          have h19_21 : act21.eval (.tmp 19) = .bool q31 := (T.rest 19 (by kernel_rfl)).trans h19_17
          have h36_21 : act21.eval (.tmp 36) = .bool q66 := (T.rest 36 (by kernel_rfl)).trans h36_17
          have h71_21 : act21.eval (.tmp 71) = .bool q79 := (T.rest 71 (by kernel_rfl)).trans h71_17
          have Fxx_21 := Eng.Reads.below Fxx_17 T.below
          have Fss_21 := Eng.Reads.below Fss_17 T.below
          have h8_21 : act21.eval (.tmp 8) = .int .i64 (IntKind.i64.wrap ((r : Nat) + 1)) := T.done 2 8 rfl rfl
          have d21 := T.defers.trans d17
          have s21 := T.size.trans s17
          have bl21 := bl17.trans (T.below.mono bl17.size)
          clear T
          refine Eng.tail_nil ?_
          first | show Code.wp Tryd.prog _ _ _ _ | skip
          refine Eng.regionS (Eng.still [fun u_ => u_ = .int .i64 (((D : Nat) : Int) - 1), fun u_ => u_ = .int .i64 (IntKind.i64.wrap ((((D : Nat) : Int) - 1) + 1)), fun u_ => u_ = .int .i64 (IntKind.i64.wrap ((r : Nat) + 1)), fun u_ => u_ = .int .i64 (IntKind.i64.wrap ((((D : Nat) : Int) - 1) + 1)), fun u_ => u_ = .int .i64 (IntKind.i64.wrap ((r : Nat) + 1))]) (fun i => ([.plain, .plain, .plain, .plain, .plain] : List Eng.Kind).getD i .plain) 5 0 85 s21 rfl (by kernel_rfl) (Eng.still_stable _) (Or.inr (Eng.still_any _)) ?_ ?_
          · refine Eng.Steps.cons (fun _ => ?_) (Eng.Steps.cons (fun _ => ?_) (Eng.Steps.cons (fun _ => ?_) (Eng.Steps.cons (fun _ => ?_) (Eng.Steps.cons (fun _ => ?_) (Eng.Steps.nil)))))
            · refine Eng.plain rfl rfl fun a w' H => ?_
              exact Eng.val (w1 := w') (v := .int .i64 (((D : Nat) : Int) - 1)) (Eng.run_move rfl ((H.kept 7 (by kernel_rfl)).trans h7_21)) (Below.refl _ _) rfl
            · refine Eng.plain rfl rfl fun a w' H => ?_
              refine Eng.val (w1 := w') (v := .int .i64 (IntKind.i64.wrap ((((D : Nat) : Int) - 1) + 1))) ?_ (Below.refl _ _) rfl
              have e0 : a.eval (.tmp 82) = .int .i64 (((D : Nat) : Int) - 1) := (H.dep 0 82 (by kernel_rfl) rfl)
              have e1 : a.eval (.const (.int .i64 1)) = .int .i64 1 := (rfl : a.eval (.const (.int .i64 1)) = .int .i64 1)
              simp only [execOp, resolve, List.map_toArray, List.map_cons, List.map_nil, e0, e1]
              go_simp
              all_goals first | rfl | (simp; done) | (rw [Bool.eq_iff_iff]; simp; done) | omega | skip
            · refine Eng.plain rfl rfl fun a w' H => ?_
              exact Eng.val (w1 := w') (v := .int .i64 (IntKind.i64.wrap ((r : Nat) + 1))) (Eng.run_move rfl ((H.kept 8 (by kernel_rfl)).trans h8_21)) (Below.refl _ _) rfl
            · refine Eng.plain rfl rfl fun a w' H => ?_
              exact Eng.val (w1 := w') (v := .int .i64 (IntKind.i64.wrap ((((D : Nat) : Int) - 1) + 1))) (Eng.run_assign rfl (H.dep 1 83 (by kernel_rfl) rfl)) (Below.refl _ _) rfl
            · refine Eng.plain rfl rfl fun a w' H => ?_
              exact Eng.val (w1 := w') (v := .int .i64 (IntKind.i64.wrap ((r : Nat) + 1))) (Eng.run_assign rfl (H.dep 2 84 (by kernel_rfl) rfl)) (Below.refl _ _) rfl
          intro act22 w22 T
          have h0_22 : act22.eval (.tmp 0) = v := (T.rest 0 (by kernel_rfl)).trans h0_21
          have h1_22 : act22.eval (.tmp 1) = sv := (T.rest 1 (by kernel_rfl)).trans h1_21
          have h7_22 : act22.eval (.tmp 7) = .int .i64 (((D : Nat) : Int) - 1) := (T.rest 7 (by kernel_rfl)).trans h7_21
          have h8_22 : act22.eval (.tmp 8) = .int .i64 (IntKind.i64.wrap ((r : Nat) + 1)) := (T.rest 8 (by kernel_rfl)).trans h8_21
          have h18_22 : act22.eval (.tmp 18) = .bool q18 := (T.rest 18 (by kernel_rfl)).trans h18_21
          have h19_22 : act22.eval (.tmp 19) = .bool q31 := (T.rest 19 (by kernel_rfl)).trans h19_21
          have h36_22 : act22.eval (.tmp 36) = .bool q66 := (T.rest 36 (by kernel_rfl)).trans h36_21
          have h71_22 : act22.eval (.tmp 71) = .bool q79 := (T.rest 71 (by kernel_rfl)).trans h71_21
          have Fxx_22 := Eng.Reads.below Fxx_21 T.below
          have Fss_22 := Eng.Reads.below Fss_21 T.below
          have h5_22 : act22.eval (.tmp 5) = .int .i64 (IntKind.i64.wrap ((((D : Nat) : Int) - 1) + 1)) := T.done 3 5 rfl rfl
          have h6_22 : act22.eval (.tmp 6) = .int .i64 (IntKind.i64.wrap ((r : Nat) + 1)) := T.done 4 6 rfl rfl
          have d22 := T.defers.trans d21
          have s22 := T.size.trans s21
          have bl22 := bl21.trans (T.below.mono bl21.size)
          clear T
          refine Eng.tail_nil ?_
          exact ⟨_, Nfa.left_back hr0, D, r + 1, D, r + 1, rfl, hI.back hst hD0 hr0, d22, s22, bl22, h0_22, h1_22, (h5_22.trans (by first | rfl | (congr 1; rw [Eng.i64_id (by omega) (by omega)]; omega) | (congr 1; omega) | (simp; done))), (h6_22.trans (by first | rfl | (congr 1; rw [Eng.i64_id (by omega) (by omega)]; omega) | (congr 1; omega) | (simp; done))), (h7_22.trans (by first | rfl | (congr 1; rw [Eng.i64_id (by omega) (by omega)]; omega) | (congr 1; omega) | (simp; done))), (h8_22.trans (by first | rfl | (congr 1; rw [Eng.i64_id (by omega) (by omega)]; omega) | (congr 1; omega) | (simp; done)))⟩
  ·
    have kn23 := hq
    have c18 := Bq18.symm.trans hq
    clear hq
    rw [Bq17, Bq12] at c18
    simp only [Bool.or_eq_false_iff, decide_eq_false_iff_not] at c18
    refine wp_exit ?_
    first | show Code.wp Tryd.prog _ _ _ _ | skip
    first | show Code.wp Tryd.prog _ _ _ _ | skip
    refine wp_seq ?_
    refine Eng.regionS (Eng.still [fun u_ => u_ = .bool true]) (fun i => ([.plain] : List Eng.Kind).getD i .plain) 1 0 85 s5 rfl (by kernel_rfl) (Eng.still_stable _) (Or.inr (Eng.still_any _)) ?_ ?_
    · refine Eng.Steps.cons (fun _ => ?_) (Eng.Steps.nil)
      · refine Eng.plain rfl rfl fun a w' H => ?_
        exact Eng.val (w1 := w') (v := .bool true) (Eng.run_assign rfl (rfl : a.eval (.const (.bool true)) = .bool true)) (Below.refl _ _) rfl
    intro act24 w24 T
    have h0_24 : act24.eval (.tmp 0) = v := (T.rest 0 (by kernel_rfl)).trans h0_5
    have h1_24 : act24.eval (.tmp 1) = sv := (T.rest 1 (by kernel_rfl)).trans h1_5
    have h5_24 : act24.eval (.tmp 5) = .int .i64 (i : Nat) := (T.rest 5 (by kernel_rfl)).trans h5_5
    have h6_24 : act24.eval (.tmp 6) = .int .i64 (t : Nat) := (T.rest 6 (by kernel_rfl)).trans h6_5
    have h7_24 : act24.eval (.tmp 7) = .int .i64 (((D : Nat) : Int) - 1) := (T.rest 7 (by kernel_rfl)).trans h7_5
    have h8_24 : act24.eval (.tmp 8) = .int .i64 (r : Nat) := (T.rest 8 (by kernel_rfl)).trans h8_5
    have h18_24 : act24.eval (.tmp 18) = .bool q18 := (T.rest 18 (by kernel_rfl)).trans h18_5
    have Fxx_24 := Eng.Reads.below Fxx_5 T.below
    have Fss_24 := Eng.Reads.below Fss_5 T.below
    have h4_24 : act24.eval (.tmp 4) = .bool true := T.done 0 4 rfl rfl
    have d24 := T.defers.trans d5
    have s24 := T.size.trans s5
    have bl24 := bl5.trans (T.below.mono bl5.size)
    clear T
    refine Eng.tail_nil ?_
    first | show Code.wp Tryd.prog _ _ _ _ | skip
    refine wp_ret ?_
    repeat (first | refine Eng.in_ret ?_ | refine Eng.then_ret ?_)
    exact Eng.ret1 rfl d24 h4_24 ⟨congrArg _ (congrArg _ (hI.done (by omega) (by omega)).symm), bl24⟩
set_option maxHeartbeats 4000000 in
set_option maxRecDepth 100000 in
theorem Nfa.match_calls (v sv : Value) (p : List Pth.Part) (l : List ByteArray) (w : World) (hx : Eng.Reads w v p.length 2 (Pth.cellsP p)) (hs : Eng.Reads w sv l.length 1 (Nfa.strs l)) (hpl : p.length ≤ 1000000) (hll : l.length ≤ 1000000) (hst : ∀ q ∈ p, q.2.size ≤ 9223372036854775807) (hT : Tabs.Holds w) : Calls Tryd.prog 46 #[v, sv] w fun e w' => e = .returned (.bool (Pth.rightB p && Nfa.mat p l)) ∧ Below w.heap.size w w' := by
  refine Eng.enter Tryd.func46 rfl fun act0 d0 s0 v0 => ?_
  have s0 : act0.tmps.size = 12 := s0
  have h0_0 : act0.eval (.tmp 0) = v := v0 0 (by simp)
  have h1_0 : act0.eval (.tmp 1) = sv := v0 1 (by simp)
  clear v0
  have bl0 : Below w.heap.size w w := Below.refl _ _
  refine wp_seq ?_
  refine Eng.regionS (Eng.still [fun u_ => u_ = .bool false]) (fun i => ([.plain] : List Eng.Kind).getD i .plain) 1 0 12 s0 rfl (by kernel_rfl) (Eng.still_stable _) (Or.inr (Eng.still_any _)) ?_ ?_
  · refine Eng.Steps.cons (fun _ => ?_) (Eng.Steps.nil)
    · refine Eng.plain rfl rfl fun a w' H => ?_
      exact Eng.val (w1 := w') (v := .bool false) (Eng.run_assign rfl (rfl : a.eval (.const (.bool false)) = .bool false)) (Below.refl _ _) rfl
  intro act1 w1 T
  have h0_1 : act1.eval (.tmp 0) = v := (T.rest 0 (by kernel_rfl)).trans h0_0
  have h1_1 : act1.eval (.tmp 1) = sv := (T.rest 1 (by kernel_rfl)).trans h1_0
  have Fxx_1 := Eng.Reads.below hx T.below
  have Fss_1 := Eng.Reads.below hs T.below
  have h4_1 : act1.eval (.tmp 4) = .bool false := T.done 0 4 rfl rfl
  have d1 := T.defers.trans d0
  have s1 := T.size.trans s0
  have bl1 := bl0.trans (T.below.mono bl0.size)
  clear T
  refine Eng.tail_nil ?_
  first | show Code.wp Tryd.prog _ _ _ _ | skip
  refine wp_seq ?_
  obtain ⟨q6, Bq6⟩ : ∃ b : Bool, b = (Pth.rightB p) := ⟨_, rfl⟩
  obtain ⟨q10, Bq10⟩ : ∃ b : Bool, b = (Nfa.mat p l) := ⟨_, rfl⟩
  obtain ⟨q11, Bq11⟩ : ∃ b : Bool, b = (q6 && q10) := ⟨_, rfl⟩
  refine Eng.regionS (Eng.still [fun u_ => u_ = v, fun u_ => u_ = .bool q6, fun u_ => u_ = .bool q6, fun u_ => u_ = bif (q6 == true) then (v) else undef, fun u_ => u_ = bif (q6 == true) then (sv) else undef, fun u_ => u_ = bif (q6 == true) then (.bool q10) else undef, fun u_ => u_ = .bool q11, fun u_ => u_ = .bool q11]) (fun i => ([.plain, .plain, .plain, .plain, .plain, .plain, .plain, .plain] : List Eng.Kind).getD i .plain) 8 0 12 s1 rfl (by kernel_rfl) (Eng.still_stable _) (Or.inr (Eng.still_any _)) ?_ ?_
  · refine Eng.Steps.cons (fun _ => ?_) (Eng.Steps.cons (fun _ => ?_) (Eng.Steps.cons (fun _ => ?_) (Eng.Steps.cons (fun _ => ?_) (Eng.Steps.cons (fun _ => ?_) (Eng.Steps.cons (fun _ => ?_) (Eng.Steps.cons (fun _ => ?_) (Eng.Steps.cons (fun _ => ?_) (Eng.Steps.nil))))))))
    · refine Eng.plain rfl rfl fun a w' H => ?_
      exact Eng.val (w1 := w') (v := v) (Eng.run_move rfl ((H.kept 0 (by kernel_rfl)).trans h0_1)) (Below.refl _ _) rfl
    · refine Eng.plain rfl rfl fun a w' H => ?_
      refine Eng.call Tryd.func77 (by kernel_rfl) (by kernel_rfl) rfl #[v] ?_ ?_
      · have e0 : a.eval (.tmp 5) = v := (H.dep 0 5 (by kernel_rfl) rfl); simp only [List.map_toArray, List.map_cons, List.map_nil, e0]
      refine (Pth.right_calls v p _ (Eng.Reads.below Fxx_1 H.below) (by omega) hst (Tabs.below (Tabs.below hT bl1) H.below)).mono ?_
      rintro e w'' ⟨rfl, hb⟩
      exact ⟨_, rfl, (by show _ = Value.bool q6; rw [Bq6]), hb⟩
    · refine Eng.plain rfl rfl fun a w' H => ?_
      exact Eng.val (w1 := w') (v := .bool q6) (Eng.run_move rfl (H.dep 1 6 (by kernel_rfl) rfl)) (Below.refl _ _) rfl
    · refine Eng.guarded1 (j := 2) (d := 7) (b := q6) rfl rfl (by kernel_rfl) rfl (fun v w h => h) (fun hG w => Eng.off hG) fun hG a w' H => ?_
      exact Eng.val (w1 := w') (v := v) (Eng.run_move rfl ((H.kept 0 (by kernel_rfl)).trans h0_1)) (Below.refl _ _) (Eng.off' hG rfl)
    · refine Eng.guarded1 (j := 2) (d := 7) (b := q6) rfl rfl (by kernel_rfl) rfl (fun v w h => h) (fun hG w => Eng.off hG) fun hG a w' H => ?_
      exact Eng.val (w1 := w') (v := sv) (Eng.run_move rfl ((H.kept 1 (by kernel_rfl)).trans h1_1)) (Below.refl _ _) (Eng.off' hG rfl)
    · refine Eng.guarded1 (j := 2) (d := 7) (b := q6) rfl rfl (by kernel_rfl) rfl (fun v w h => h) (fun hG w => Eng.off hG) fun hG a w' H => ?_
      refine Eng.call Tryd.func88 (by kernel_rfl) (by kernel_rfl) rfl #[v, sv] ?_ ?_
      · have e0 : a.eval (.tmp 8) = v := (Eng.on (H.dep 3 8 (by kernel_rfl) rfl) hG); have e1 : a.eval (.tmp 9) = sv := (Eng.on (H.dep 4 9 (by kernel_rfl) rfl) hG); simp only [List.map_toArray, List.map_cons, List.map_nil, e0, e1]
      refine (Nfa.like_calls v sv p l _ (Eng.Reads.below Fxx_1 H.below) (Eng.Reads.below Fss_1 H.below) hpl hll).mono ?_
      rintro e w'' ⟨rfl, hb⟩
      exact ⟨_, rfl, (Eng.off' hG (by rw [Bq10])), hb⟩
    · refine Eng.plain rfl rfl fun a w' H => ?_
      exact Eng.val (w1 := w') (v := .bool (q6 && q10)) (Eng.run_and rfl rfl (G := true) (H.dep 2 7 (by kernel_rfl) rfl) (fun hb => (Eng.on (H.dep 5 10 (by kernel_rfl) rfl) (Eng.mk1 hb)))) (Below.refl _ _) (by show _ = Value.bool q11; rw [Bq11])
    · refine Eng.plain rfl rfl fun a w' H => ?_
      exact Eng.val (w1 := w') (v := .bool q11) (Eng.run_assign rfl (H.dep 6 11 (by kernel_rfl) rfl)) (Below.refl _ _) rfl
  intro act2 w2 T
  have h0_2 : act2.eval (.tmp 0) = v := (T.rest 0 (by kernel_rfl)).trans h0_1
  have h1_2 : act2.eval (.tmp 1) = sv := (T.rest 1 (by kernel_rfl)).trans h1_1
  have Fxx_2 := Eng.Reads.below Fxx_1 T.below
  have Fss_2 := Eng.Reads.below Fss_1 T.below
  have h4_2 : act2.eval (.tmp 4) = .bool q11 := T.done 7 4 rfl rfl
  have d2 := T.defers.trans d1
  have s2 := T.size.trans s1
  have bl2 := bl1.trans (T.below.mono bl1.size)
  clear T
  refine Eng.tail_nil ?_
  first | show Code.wp Tryd.prog _ _ _ _ | skip
  refine wp_ret ?_
  repeat (first | refine Eng.in_ret ?_ | refine Eng.then_ret ?_)
  exact Eng.ret1 rfl d2 (h4_2.trans (by rw [Bq11, Bq10, Bq6])) ⟨rfl, bl2⟩
end Go.Proofs.YthgafcaoibfchaaDoor.X
end
section
namespace Go.Proofs.YthgafcaoibfchaaDoor.X
open Go Go.RowKit Go.Shelf Go.Proofs
set_option linter.unusedVariables false
namespace Nfa
theorem light_len {ps : List (List Pth.Part)} (h : Pth.heavies ps = false) : ps.length ≤ 40 := by
  unfold Pth.heavies at h
  simp only [Bool.or_eq_false_iff, decide_eq_false_iff_not] at h
  omega
theorem code_zero {ps : List (List Pth.Part)} (h : code ps = 0) : (∀ i, i < ps.length → Pth.rightB (ps.getD i []) = true) ∧ many ps ps.length ≤ 512 := by
  unfold code at h
  by_cases h1 : (ps.any fun p => !Pth.rightB p) = true
  · rw [if_pos h1] at h; omega
  · rw [if_neg h1] at h
    by_cases h2 : 512 < many ps ps.length
    · rw [if_pos h2] at h; omega
    · refine ⟨fun i hi => ?_, by omega⟩
      cases hr : Pth.rightB (ps.getD i []) with
      | true => rfl
      | false =>
        exfalso
        apply h1
        refine List.any_eq_true.2 ⟨ps[i], List.getElem_mem hi, ?_⟩
        rw [List.getD_eq_getElem?_getD, List.getElem?_eq_getElem hi] at hr
        simpa using hr
theorem right_len {p : List Pth.Part} (h : Pth.rightB p = true) : p.length ≤ 20 := by
  unfold Pth.rightB at h
  simp only [Bool.and_eq_true, decide_eq_true_eq] at h
  omega
theorem many_off {ps : List (List Pth.Part)} (h : ∀ i, i < ps.length → (ps.getD i []).length ≤ 20) (hl : ps.length ≤ 1000) : ∀ k, k ≤ ps.length → many ps k = (off ps k : Int) ∧ off ps k ≤ 21 * k
  | 0, _ => ⟨rfl, Nat.le_refl _⟩
  | k + 1, hk => by
    obtain ⟨h1, h2⟩ := many_off h hl k (by omega)
    have h3 := h k (by omega)
    have e : off ps (k + 1) = off ps k + ((ps.getD k []).length + 1) := rfl
    refine ⟨?_, by rw [e]; omega⟩
    unfold many
    rw [h1, e]
    have e1 : (((ps.getD k []).length : Nat) : Int) + 1 = (((ps.getD k []).length + 1 : Nat) : Int) := by omega
    rw [e1, wrap_nat' (by omega)]
    have e2 : ((off ps k : Nat) : Int) + (((ps.getD k []).length + 1 : Nat) : Int) = ((off ps k + ((ps.getD k []).length + 1) : Nat) : Int) := by omega
    rw [e2, wrap_nat' (by omega)]
theorem ok_of {ps : List (List Pth.Part)} (hcode : code ps = 0) (hl : ps.length ≤ 1000) : Ok ps := by
  obtain ⟨hr, hm⟩ := code_zero hcode
  have h := many_off (fun i hi => right_len (hr i hi)) hl
  refine ⟨fun k hk => (h k hk).1, ?_⟩
  have := (h ps.length (Nat.le_refl _)).1
  omega
end Nfa
end Go.Proofs.YthgafcaoibfchaaDoor.X
end
section
namespace Go.Proofs.YthgafcaoibfchaaDoor.X
open Go Go.RowKit Go.Shelf Go.Proofs
set_option linter.unusedVariables false
namespace Nfa
def likeTo (ps : List (List Pth.Part)) (la : List ByteArray) (k : Nat) : List Int := ((List.range k).filter fun (i : Nat) => Pth.rightB (ps.getD i []) && mat (ps.getD i []) la).map fun (i : Nat) => (i : Int)
theorem likeTo_succ (ps : List (List Pth.Part)) (la : List ByteArray) (k : Nat) : likeTo ps la (k + 1) = if (Pth.rightB (ps.getD k []) && mat (ps.getD k []) la) = true then likeTo ps la k ++ [(k : Int)] else likeTo ps la k := by
  unfold likeTo
  rw [List.range_succ, List.filter_append, List.map_append, List.filter_cons]
  by_cases h : (Pth.rightB (ps.getD k []) && mat (ps.getD k []) la) = true
  · rw [if_pos h, if_pos h]; rfl
  · rw [if_neg h, if_neg h]; exact List.append_nil _
theorem likeTo_len (ps : List (List Pth.Part)) (la : List ByteArray) (k : Nat) : (likeTo ps la k).length ≤ k := by
  unfold likeTo
  rw [List.length_map]
  exact Nat.le_trans (List.length_filter_le _ _) (by simp)
theorem like_all {ps : List (List Pth.Part)} (hcode : code ps = 0) (hheavy : Pth.heavies ps = false) (la : List ByteArray) : (accept ps (begs ps ps.length) (run ps (begs ps ps.length) la) == likeTo ps la ps.length) = true := by
  have hok := ok_of hcode (by have := light_len hheavy; omega)
  rw [beq_iff_eq]
  show accept ps (bsOf ps) (run ps (bsOf ps) la) = _
  unfold accept acceptTo likeTo
  congr 1
  refine List.filter_congr fun i hi => ?_
  have hi := List.mem_range.1 hi
  rw [begin_eq hok hi]
  have h : ((off ps i : Int) + ((ps.getD i []).length : Int)) = ((off ps i + (ps.getD i []).length : Nat) : Int) := by omega
  have := off_lt hok hi (Nat.le_refl _)
  rw [h, wrap_nat' (by omega), (run_has hok hi la).2 _ (Nat.le_refl _), runS_mat, (code_zero hcode).1 i hi, Bool.true_and]
structure TabN (M B : Nat) (pv bv : Value) (ps : List (List Pth.Part)) (vs : List Value) (bs : List Int) (w : World) : Prop where
  tab : Tab B pv bv ps vs bs w
  lo : ∀ g, bv.ownBlock = some g → g < M
  sz : M ≤ w.heap.size
section
variable {M B : Nat} {pv bv : Value} {ps : List (List Pth.Part)} {vs : List Value} {bs : List Int} {w w' : World}
theorem TabN.of (h : Tab B pv bv ps vs bs w) : TabN w.heap.size B pv bv ps vs bs w := ⟨h, Eng.own_lt h.bb, Nat.le_refl _⟩
theorem TabN.below (h : TabN M B pv bv ps vs bs w) (hb : Below w.heap.size w w') : TabN M B pv bv ps vs bs w' := ⟨h.tab.below hb, h.lo, Nat.le_trans h.sz hb.size⟩
theorem TabN.sets {g : Nat} {o : Obj} {cs : Array Value} {T : TypeId} (h : TabN M B pv bv ps vs bs w) (S : Eng.Sets w w' g o) (hk : w.heap[g]? = some (.cells cs T (0, 0))) (hT : ((T != 115) && ((T != 82) && (T != 3))) = true) : TabN M B pv bv ps vs bs w' := ⟨h.tab.sets S hk hT, h.lo, by rw [S.size]; exact h.sz⟩
theorem TabN.grown {u : Value} {n : Nat} {xs : List Value} (h : TabN M B pv bv ps vs bs w) (G : w.grownBy w' u.ownBlock) (U : w.ownsRow B 3 1 u n xs) (hN : ∀ g, u.ownBlock = some g → M ≤ g) : TabN M B pv bv ps vs bs w' := by
  refine ⟨⟨h.tab.len, Pth.own_grown h.tab.pp G U rfl, h.tab.each.grownI G U, h.tab.bb.1, ?_⟩, h.lo, Nat.le_trans h.sz G.size⟩
  rcases h.tab.bb.2 with h2 | ⟨g, cap, cur, e, hg, hh, r⟩
  · exact .inl h2
  · refine .inr ⟨g, cap, cur, e, hg, (G.block g (Array.getElem?_eq_some_iff.1 hh).1 fun he => ?_).trans hh, r⟩
    have h1 := hN g he.symm
    have h3 := h.lo g (by rw [e]; rfl)
    omega
theorem own_app {v v1 : Value} (hN : ∀ g, v.ownBlock = some g → M ≤ g) (E : v1.ownBlock = v.ownBlock ∨ v1.ownBlock = some w.heap.size) (hz : M ≤ w.heap.size) : ∀ g, v1.ownBlock = some g → M ≤ g := by
  intro g h
  rcases E with e | e
  · rw [e] at h; exact hN g h
  · rw [e] at h; injection h with h; omega
end
end Nfa
end Go.Proofs.YthgafcaoibfchaaDoor.X
end
section
namespace Go.Proofs.YthgafcaoibfchaaDoor.X
open Go Go.RowKit Go.Shelf Go.Proofs
set_option linter.unusedVariables false
theorem Pth.Each.mono {B B' : Nat} {ps : List (List Pth.Part)} {vs : List Value} {w : World} (h : Pth.Each B ps vs w) (hB : B' ≤ B) : Pth.Each B' ps vs w := ⟨h.len, fun i hi => Eng.own_mono (h.row i hi) hB⟩
namespace Nfa
def more (ps : List (List Pth.Part)) (bs : List Int) (s : List Int) (l : List ByteArray) : List Int := l.foldl (step ps bs) s
end Nfa
end Go.Proofs.YthgafcaoibfchaaDoor.X
end
