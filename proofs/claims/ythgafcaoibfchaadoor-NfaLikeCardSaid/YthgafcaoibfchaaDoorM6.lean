/- Words and walks that the row of NfaLike needs: printed by programs, and plain laws. -/
import Derived.Test.YthgafcaoibfchaaDoorM2
import Derived.Test.YthgafcaoibfchaaDoorM4
import Derived.Test.YthgafcaoibfchaaDoorM3
section
namespace Go.Proofs.YthgafcaoibfchaaDoor.X
open Go.RowKit Go.Shelf Go.Proofs Go.Proofs.YthgafcaoibfchaaDoorW.PrintWords Go.Proofs.YthgafcaoibfchaaDoorW.PrintLast Go.Proofs.YthgafcaoibfchaaDoorW.PrintMore
set_option linter.unusedVariables false
set_option linter.unusedSimpArgs false
attribute [local go_sem] max2_int min2_int max_two min_two
set_option maxHeartbeats 4000000 in
set_option maxRecDepth 100000 in
theorem Nfa.has_calls (l : List Int) (n : Int) (w : World) (hl : l.length = 8) : Calls Tryd.prog 85 #[.agg ((List.map (Value.int .u64) l).toArray), .int .i64 n] w fun e w' => e = .returned (.bool (Nfa.has l n)) ∧ Below w.heap.size w w' := by
  obtain ⟨N64, hN⟩ : ∃ k : Nat, n.toNat / 64 = k := ⟨_, rfl⟩
  obtain ⟨Nr, hR⟩ : ∃ k : Nat, n.toNat % 64 = k := ⟨_, rfl⟩
  have hq64 : 0 ≤ n → n < 512 → IntKind.i64.wrap (n.tdiv 64) = (N64 : Int) := fun h0 h1 => by rw [← hN]; exact Nfa.quo64 h0 h1
  have hr64 : 0 ≤ n → n.tmod 64 = (Nr : Int) := fun h0 => by rw [← hR]; exact Nfa.rem64 h0
  have hN8 : n < 512 → N64 < 8 := by omega
  have hNr : Nr < 64 := by omega
  refine Eng.enter Tryd.func85 rfl fun act0 d0 s0 v0 => ?_
  have s0 : act0.tmps.size = 22 := s0
  have h0_0 : act0.eval (.tmp 0) = .agg ((List.map (Value.int .u64) l).toArray) := v0 0 (by simp)
  have h1_0 : act0.eval (.tmp 1) = .int .i64 n := v0 1 (by simp)
  clear v0
  have bl0 : Below w.heap.size w w := Below.refl _ _
  refine wp_seq ?_
  refine Eng.regionS (Eng.still [fun u_ => True, fun u_ => u_ = .bool false]) (fun i => ([.alloc 74 ((List.map (Value.int .u64) l).toArray), .plain] : List Eng.Kind).getD i .plain) 2 0 22 s0 rfl (by kernel_rfl) (Eng.still_stable _) (Or.inr (Eng.still_any _)) ?_ ?_
  · refine Eng.Steps.cons (fun _ => ?_) (Eng.Steps.cons (fun _ => ?_) (Eng.Steps.nil))
    · refine Eng.made rfl (by simp) rfl (fun a w' hd ho => ?_) (fun _ _ => trivial)
      exact Eng.run_box rfl ((ho 0 (by kernel_rfl)).trans h0_0)
    · refine Eng.plain rfl rfl fun a w' H => ?_
      exact Eng.val (w1 := w') (v := .bool false) (Eng.run_assign rfl (rfl : a.eval (.const (.bool false)) = .bool false)) (Below.refl _ _) rfl
  intro act1 w1 T
  have h0_1 : act1.eval (.tmp 0) = .agg ((List.map (Value.int .u64) l).toArray) := (T.rest 0 (by kernel_rfl)).trans h0_0
  have h1_1 : act1.eval (.tmp 1) = .int .i64 n := (T.rest 1 (by kernel_rfl)).trans h1_0
  obtain ⟨g2_1, h2_1, rg2_1, lg2_1_1, kg2_1_1⟩ := T.al 0 2 _ _ rfl rfl rfl (by kernel_rfl)
  have og2_1 : w.heap.size ≤ g2_1 := Nat.le_trans bl0.size rg2_1
  have h4_1 : act1.eval (.tmp 4) = .bool false := T.done 1 4 rfl rfl
  have d1 := T.defers.trans d0
  have s1 := T.size.trans s0
  have bl1 := bl0.trans (T.below.mono bl0.size)
  clear T
  refine Eng.tail_nil ?_
  show Code.wp Tryd.prog _ _ _ _
  refine wp_seq ?_
  obtain ⟨q6, Bq6⟩ : ∃ b : Bool, b = (decide (n ≥ 0)) := ⟨_, rfl⟩
  obtain ⟨q9, Bq9⟩ : ∃ b : Bool, b = (decide (n < 512)) := ⟨_, rfl⟩
  obtain ⟨q10, Bq10⟩ : ∃ b : Bool, b = (q6 && q9) := ⟨_, rfl⟩
  obtain ⟨q20, Bq20⟩ : ∃ b : Bool, b = ((Go.bits .and .u64 (shr .u64 (Nfa.at_ l N64) (Nr : Int)) 1) == 1) := ⟨_, rfl⟩
  obtain ⟨q21, Bq21⟩ : ∃ b : Bool, b = (q10 && q20) := ⟨_, rfl⟩
  refine Eng.regionS (Eng.still [fun u_ => u_ = .int .i64 n, fun u_ => u_ = .bool q6, fun u_ => u_ = .bool q6, fun u_ => u_ = bif (q6 == true) then (.int .i64 n) else undef, fun u_ => u_ = bif (q6 == true) then (.bool q9) else undef, fun u_ => u_ = .bool q10, fun u_ => u_ = .bool q10, fun u_ => u_ = bif (q10 == true) then (.int .i64 n) else undef, fun u_ => u_ = bif (q10 == true) then (.int .i64 (N64 : Int)) else undef, fun u_ => u_ = bif (q10 == true) then (.pointer (some ⟨g2_1, N64, none⟩)) else undef, fun u_ => u_ = bif (q10 == true) then (.int .u64 (Nfa.at_ l (N64))) else undef, fun u_ => u_ = bif (q10 == true) then (.int .i64 n) else undef, fun u_ => u_ = bif (q10 == true) then (.int .i64 (Nr : Int)) else undef, fun u_ => u_ = bif (q10 == true) then (.int .u64 (shr .u64 (Nfa.at_ l N64) (Nr : Int))) else undef, fun u_ => u_ = bif (q10 == true) then (.int .u64 (Go.bits .and .u64 (shr .u64 (Nfa.at_ l N64) (Nr : Int)) 1)) else undef, fun u_ => u_ = bif (q10 == true) then (.bool q20) else undef, fun u_ => u_ = .bool q21, fun u_ => u_ = .bool q21]) (fun i => ([.plain, .plain, .plain, .plain, .plain, .plain, .plain, .plain, .plain, .plain, .plain, .plain, .plain, .plain, .plain, .plain, .plain, .plain] : List Eng.Kind).getD i .plain) 18 0 22 s1 rfl (by kernel_rfl) (Eng.still_stable _) (Or.inr (Eng.still_any _)) ?_ ?_
  · refine Eng.Steps.cons (fun _ => ?_) (Eng.Steps.cons (fun _ => ?_) (Eng.Steps.cons (fun _ => ?_) (Eng.Steps.cons (fun _ => ?_) (Eng.Steps.cons (fun _ => ?_) (Eng.Steps.cons (fun _ => ?_) (Eng.Steps.cons (fun _ => ?_) (Eng.Steps.cons (fun _ => ?_) (Eng.Steps.cons (fun _ => ?_) (Eng.Steps.cons (fun _ => ?_) (Eng.Steps.cons (fun _ => ?_) (Eng.Steps.cons (fun _ => ?_) (Eng.Steps.cons (fun _ => ?_) (Eng.Steps.cons (fun _ => ?_) (Eng.Steps.cons (fun _ => ?_) (Eng.Steps.cons (fun _ => ?_) (Eng.Steps.cons (fun _ => ?_) (Eng.Steps.cons (fun _ => ?_) (Eng.Steps.nil))))))))))))))))))
    · refine Eng.plain rfl rfl fun a w' H => ?_
      exact Eng.val (w1 := w') (v := .int .i64 n) (Eng.run_move rfl ((H.kept 1 (by kernel_rfl)).trans h1_1)) (Below.refl _ _) rfl
    · refine Eng.plain rfl rfl fun a w' H => ?_
      refine Eng.val (w1 := w') (v := .bool (decide (n ≥ 0))) ?_ (Below.refl _ _) (by show _ = Value.bool q6; rw [Bq6])
      have e0 : a.eval (.tmp 5) = .int .i64 n := (H.dep 0 5 (by kernel_rfl) rfl)
      have e1 : a.eval (.const (.int .i64 0)) = .int .i64 0 := (rfl : a.eval (.const (.int .i64 0)) = .int .i64 0)
      simp only [execOp, resolve, List.map_toArray, List.map_cons, List.map_nil, e0, e1]
      go_simp
      all_goals first | rfl | (simp; done) | (rw [Bool.eq_iff_iff]; simp; done) | omega | skip
    · refine Eng.plain rfl rfl fun a w' H => ?_
      exact Eng.val (w1 := w') (v := .bool q6) (Eng.run_move rfl (H.dep 1 6 (by kernel_rfl) rfl)) (Below.refl _ _) rfl
    · refine Eng.guarded1 (j := 2) (d := 7) (b := q6) rfl rfl (by kernel_rfl) rfl (fun v w h => h) (fun hG w => Eng.off hG) fun hG a w' H => ?_
      exact Eng.val (w1 := w') (v := .int .i64 n) (Eng.run_move rfl ((H.kept 1 (by kernel_rfl)).trans h1_1)) (Below.refl _ _) (Eng.off' hG rfl)
    · refine Eng.guarded1 (j := 2) (d := 7) (b := q6) rfl rfl (by kernel_rfl) rfl (fun v w h => h) (fun hG w => Eng.off hG) fun hG a w' H => ?_
      refine Eng.val (w1 := w') (v := .bool (decide (n < 512))) ?_ (Below.refl _ _) (Eng.off' hG (by rw [Bq9]))
      have e0 : a.eval (.tmp 8) = .int .i64 n := (Eng.on (H.dep 3 8 (by kernel_rfl) rfl) hG)
      have e1 : a.eval (.const (.int .i64 512)) = .int .i64 512 := (rfl : a.eval (.const (.int .i64 512)) = .int .i64 512)
      simp only [execOp, resolve, List.map_toArray, List.map_cons, List.map_nil, e0, e1]
      go_simp
      all_goals first | rfl | (simp; done) | (rw [Bool.eq_iff_iff]; simp; done) | omega | skip
    · refine Eng.plain rfl rfl fun a w' H => ?_
      exact Eng.val (w1 := w') (v := .bool (q6 && q9)) (Eng.run_and rfl rfl (G := true) (H.dep 2 7 (by kernel_rfl) rfl) (fun hb => (Eng.on (H.dep 4 9 (by kernel_rfl) rfl) (Eng.mk1 hb)))) (Below.refl _ _) (by show _ = Value.bool q10; rw [Bq10])
    · refine Eng.plain rfl rfl fun a w' H => ?_
      exact Eng.val (w1 := w') (v := .bool q10) (Eng.run_move rfl (H.dep 5 10 (by kernel_rfl) rfl)) (Below.refl _ _) rfl
    · refine Eng.guarded1 (j := 6) (d := 11) (b := q10) rfl rfl (by kernel_rfl) rfl (fun v w h => h) (fun hG w => Eng.off hG) fun hG a w' H => ?_
      exact Eng.val (w1 := w') (v := .int .i64 n) (Eng.run_move rfl ((H.kept 1 (by kernel_rfl)).trans h1_1)) (Below.refl _ _) (Eng.off' hG rfl)
    · refine Eng.guarded1 (j := 6) (d := 11) (b := q10) rfl rfl (by kernel_rfl) rfl (fun v w h => h) (fun hG w => Eng.off hG) fun hG a w' H => ?_
      have hq := Eng.one2 hG
      rw [Bq10, Bq9, Bq6] at hq
      simp only [Bool.and_eq_true, decide_eq_true_eq] at hq
      obtain ⟨hq0, hq1⟩ := hq
      refine Eng.val (w1 := w') (v := .int .i64 (N64 : Int)) ?_ (Below.refl _ _) (Eng.off' hG rfl)
      have e0 : a.eval (.tmp 12) = .int .i64 n := (Eng.on (H.dep 7 12 (by kernel_rfl) rfl) hG)
      have e1 : a.eval (.const (.int .i64 64)) = .int .i64 64 := (rfl : a.eval (.const (.int .i64 64)) = .int .i64 64)
      simp only [execOp, resolve, List.map_toArray, List.map_cons, List.map_nil, e0, e1]
      go_simp
      all_goals first | rfl | (exact hq64 hq0 hq1) | (rw [hq64 hq0 hq1]; done) | skip
    · refine Eng.guarded1 (j := 6) (d := 11) (b := q10) rfl rfl (by kernel_rfl) rfl (fun v w h => h) (fun hG w => Eng.off hG) fun hG a w' H => ?_
      refine Eng.val (w1 := w') (v := .pointer (some ⟨g2_1, N64, none⟩)) ?_ (Below.refl _ _) (Eng.off' hG rfl)
      exact Eng.run_indexAddr rfl Tryd.underlying74 (by kernel_rfl) ((H.kept 2 (by kernel_rfl)).trans h2_1) ((Eng.on (H.dep 8 13 (by kernel_rfl) rfl) hG).trans (congrArg (Value.int _) (show (N64 : Int) = ((N64 : Nat) : Int) from by first | rfl | (have hq := Eng.one2 hG; rw [Bq10, Bq9, Bq6] at hq; simp only [Bool.and_eq_true, decide_eq_true_eq] at hq; exact hN8 hq.2)))) (by decide) (by first | rfl | (have hq := Eng.one2 hG; rw [Bq10, Bq9, Bq6] at hq; simp only [Bool.and_eq_true, decide_eq_true_eq] at hq; exact hN8 hq.2))
    · refine Eng.guarded1 (j := 6) (d := 11) (b := q10) rfl rfl (by kernel_rfl) rfl (fun v w h => h) (fun hG w => Eng.off hG) fun hG a w' H => ?_
      have kb := (H.below.block _ lg2_1_1).trans kg2_1_1
      have z0 : w'.cell? ⟨g2_1, N64, none⟩ = some (.int .u64 (Nfa.at_ l (N64))) := (Eng.cells kb (N64)).trans (Nfa.cell_at (hl) (by first | omega | (have hq := Eng.one2 hG; rw [Bq10, Bq9, Bq6] at hq; simp only [Bool.and_eq_true, decide_eq_true_eq] at hq; exact hN8 hq.2)))
      refine Eng.val (w1 := w') (v := .int .u64 (Nfa.at_ l (N64))) ?_ (Below.refl _ _) (Eng.off' hG rfl)
      have e0 : a.eval (.tmp 14) = .pointer (some ⟨g2_1, N64, none⟩) := (Eng.on (H.dep 9 14 (by kernel_rfl) rfl) hG)
      simp only [execOp, resolve, List.map_toArray, List.map_cons, List.map_nil, e0]
      go_simp
      all_goals first | rfl | (simp; done) | (rw [Bool.eq_iff_iff]; simp; done) | omega | skip
    · refine Eng.guarded1 (j := 6) (d := 11) (b := q10) rfl rfl (by kernel_rfl) rfl (fun v w h => h) (fun hG w => Eng.off hG) fun hG a w' H => ?_
      exact Eng.val (w1 := w') (v := .int .i64 n) (Eng.run_move rfl ((H.kept 1 (by kernel_rfl)).trans h1_1)) (Below.refl _ _) (Eng.off' hG rfl)
    · refine Eng.guarded1 (j := 6) (d := 11) (b := q10) rfl rfl (by kernel_rfl) rfl (fun v w h => h) (fun hG w => Eng.off hG) fun hG a w' H => ?_
      have hq := Eng.one2 hG
      rw [Bq10, Bq9, Bq6] at hq
      simp only [Bool.and_eq_true, decide_eq_true_eq] at hq
      obtain ⟨hq0, hq1⟩ := hq
      refine Eng.val (w1 := w') (v := .int .i64 (Nr : Int)) ?_ (Below.refl _ _) (Eng.off' hG rfl)
      have e0 : a.eval (.tmp 16) = .int .i64 n := (Eng.on (H.dep 11 16 (by kernel_rfl) rfl) hG)
      have e1 : a.eval (.const (.int .i64 64)) = .int .i64 64 := (rfl : a.eval (.const (.int .i64 64)) = .int .i64 64)
      simp only [execOp, resolve, List.map_toArray, List.map_cons, List.map_nil, e0, e1]
      go_simp
      all_goals first | rfl | (exact hr64 hq0) | (rw [hr64 hq0]; done) | skip
    · refine Eng.guarded1 (j := 6) (d := 11) (b := q10) rfl rfl (by kernel_rfl) rfl (fun v w h => h) (fun hG w => Eng.off hG) fun hG a w' H => ?_
      refine Eng.val (w1 := w') (v := .int .u64 (shr .u64 (Nfa.at_ l N64) (Nr : Int))) ?_ (Below.refl _ _) (Eng.off' hG rfl)
      have e0 : a.eval (.tmp 15) = .int .u64 (Nfa.at_ l (N64)) := (Eng.on (H.dep 10 15 (by kernel_rfl) rfl) hG)
      have e1 : a.eval (.tmp 17) = .int .i64 (Nr : Int) := (Eng.on (H.dep 12 17 (by kernel_rfl) rfl) hG)
      simp only [execOp, resolve, List.map_toArray, List.map_cons, List.map_nil, e0, e1]
      go_simp
      all_goals first | rfl | (exact Nfa.shr_eq _ hNr) | skip
    · refine Eng.guarded1 (j := 6) (d := 11) (b := q10) rfl rfl (by kernel_rfl) rfl (fun v w h => h) (fun hG w => Eng.off hG) fun hG a w' H => ?_
      refine Eng.val (w1 := w') (v := .int .u64 (Go.bits .and .u64 (shr .u64 (Nfa.at_ l N64) (Nr : Int)) 1)) ?_ (Below.refl _ _) (Eng.off' hG rfl)
      have e0 : a.eval (.tmp 18) = .int .u64 (shr .u64 (Nfa.at_ l N64) (Nr : Int)) := (Eng.on (H.dep 13 18 (by kernel_rfl) rfl) hG)
      have e1 : a.eval (.const (.int .u64 1)) = .int .u64 1 := (rfl : a.eval (.const (.int .u64 1)) = .int .u64 1)
      simp only [execOp, resolve, List.map_toArray, List.map_cons, List.map_nil, e0, e1]
      go_simp
      all_goals first | rfl | skip
    · refine Eng.guarded1 (j := 6) (d := 11) (b := q10) rfl rfl (by kernel_rfl) rfl (fun v w h => h) (fun hG w => Eng.off hG) fun hG a w' H => ?_
      refine Eng.val (w1 := w') (v := .bool ((Go.bits .and .u64 (shr .u64 (Nfa.at_ l N64) (Nr : Int)) 1) == 1)) ?_ (Below.refl _ _) (Eng.off' hG (by rw [Bq20]))
      have e0 : a.eval (.tmp 19) = .int .u64 (Go.bits .and .u64 (shr .u64 (Nfa.at_ l N64) (Nr : Int)) 1) := (Eng.on (H.dep 14 19 (by kernel_rfl) rfl) hG)
      have e1 : a.eval (.const (.int .u64 1)) = .int .u64 1 := (rfl : a.eval (.const (.int .u64 1)) = .int .u64 1)
      simp only [execOp, resolve, List.map_toArray, List.map_cons, List.map_nil, e0, e1]
      go_simp
      all_goals first | rfl | (simp; done) | (rw [Bool.eq_iff_iff]; simp; done) | omega | skip
    · refine Eng.plain rfl rfl fun a w' H => ?_
      exact Eng.val (w1 := w') (v := .bool (q10 && q20)) (Eng.run_and rfl rfl (G := true) (H.dep 6 11 (by kernel_rfl) rfl) (fun hb => (Eng.on (H.dep 15 20 (by kernel_rfl) rfl) (Eng.mk1 hb)))) (Below.refl _ _) (by show _ = Value.bool q21; rw [Bq21])
    · refine Eng.plain rfl rfl fun a w' H => ?_
      exact Eng.val (w1 := w') (v := .bool q21) (Eng.run_assign rfl (H.dep 16 21 (by kernel_rfl) rfl)) (Below.refl _ _) rfl
  intro act2 w2 T
  have h0_2 : act2.eval (.tmp 0) = .agg ((List.map (Value.int .u64) l).toArray) := (T.rest 0 (by kernel_rfl)).trans h0_1
  have h1_2 : act2.eval (.tmp 1) = .int .i64 n := (T.rest 1 (by kernel_rfl)).trans h1_1
  have h2_2 : act2.eval (.tmp 2) = .pointer (some ⟨g2_1, 0, none⟩) := (T.rest 2 (by kernel_rfl)).trans h2_1
  have kg2_1_2 := (T.below.block _ lg2_1_1).trans kg2_1_1
  have lg2_1_2 := Nat.lt_of_lt_of_le lg2_1_1 T.below.size
  have h4_2 : act2.eval (.tmp 4) = .bool q21 := T.done 17 4 rfl rfl
  have d2 := T.defers.trans d1
  have s2 := T.size.trans s1
  have bl2 := bl1.trans (T.below.mono bl1.size)
  clear T
  refine Eng.tail_nil ?_
  show Code.wp Tryd.prog _ _ _ _
  refine wp_ret ?_
  repeat (first | refine Eng.in_ret ?_ | refine Eng.then_ret ?_)
  exact Eng.ret1 rfl d2 (h4_2.trans (by rw [Bq21, Bq20, Bq10, Bq9, Bq6]; unfold Nfa.has; rw [hN, hR])) ⟨rfl, bl2⟩
end Go.Proofs.YthgafcaoibfchaaDoor.X
end
section
namespace Go.Proofs.YthgafcaoibfchaaDoor.X
open Go.RowKit Go.Shelf Go.Proofs Go.Proofs.YthgafcaoibfchaaDoorW.PrintWords Go.Proofs.YthgafcaoibfchaaDoorW.PrintLast Go.Proofs.YthgafcaoibfchaaDoorW.PrintMore
set_option linter.unusedVariables false
set_option linter.unusedSimpArgs false
attribute [local go_sem] max2_int min2_int max_two min_two
set_option maxHeartbeats 4000000 in
set_option maxRecDepth 100000 in
theorem Nfa.put_calls (g : Nat) (l : List Int) (n : Int) (w : World) (hl : l.length = 8) (hk : w.heap[g]? = some (.cells (List.map (Value.int .u64) l).toArray 74 (0, 0))) : Calls Tryd.prog 90 #[.pointer (some ⟨g, 0, none⟩), .int .i64 n] w fun e w' => ∃ v, e = .returned v ∧ Eng.Turns w w' g (.cells (List.map (Value.int .u64) (Nfa.put l n)).toArray 74 (0, 0)) := by
  obtain ⟨N64, hN⟩ : ∃ k : Nat, n.toNat / 64 = k := ⟨_, rfl⟩
  obtain ⟨Nr, hR⟩ : ∃ k : Nat, n.toNat % 64 = k := ⟨_, rfl⟩
  have hq64 : 0 ≤ n → n < 512 → IntKind.i64.wrap (n.tdiv 64) = (N64 : Int) := fun h0 h1 => by rw [← hN]; exact Nfa.quo64 h0 h1
  have hr64 : 0 ≤ n → n.tmod 64 = (Nr : Int) := fun h0 => by rw [← hR]; exact Nfa.rem64 h0
  have hN8 : n < 512 → N64 < 8 := by omega
  have hNr : Nr < 64 := by omega
  have hg := (Array.getElem?_eq_some_iff.1 hk).1
  refine Eng.enter Tryd.func90 rfl fun act0 d0 s0 v0 => ?_
  have s0 : act0.tmps.size = 22 := s0
  have h0_0 : act0.eval (.tmp 0) = .pointer (some ⟨g, 0, none⟩) := v0 0 (by simp)
  have h1_0 : act0.eval (.tmp 1) = .int .i64 n := v0 1 (by simp)
  clear v0
  have bl0 : Below w.heap.size w w := Below.refl _ _
  refine wp_seq ?_
  obtain ⟨q5, Bq5⟩ : ∃ b : Bool, b = (decide (n ≥ 0)) := ⟨_, rfl⟩
  obtain ⟨q8, Bq8⟩ : ∃ b : Bool, b = (decide (n < 512)) := ⟨_, rfl⟩
  obtain ⟨q9, Bq9⟩ : ∃ b : Bool, b = (q5 && q8) := ⟨_, rfl⟩
  refine Eng.regionS (Eng.still [fun u_ => u_ = .int .i64 n, fun u_ => u_ = .bool q5, fun u_ => u_ = .bool q5, fun u_ => u_ = bif (q5 == true) then (.int .i64 n) else undef, fun u_ => u_ = bif (q5 == true) then (.bool q8) else undef, fun u_ => u_ = .bool q9]) (fun i => ([.plain, .plain, .plain, .plain, .plain, .plain] : List Eng.Kind).getD i .plain) 6 0 22 s0 rfl (by kernel_rfl) (Eng.still_stable _) (Or.inr (Eng.still_any _)) ?_ ?_
  · refine Eng.Steps.cons (fun _ => ?_) (Eng.Steps.cons (fun _ => ?_) (Eng.Steps.cons (fun _ => ?_) (Eng.Steps.cons (fun _ => ?_) (Eng.Steps.cons (fun _ => ?_) (Eng.Steps.cons (fun _ => ?_) (Eng.Steps.nil))))))
    · refine Eng.plain rfl rfl fun a w' H => ?_
      exact Eng.val (w1 := w') (v := .int .i64 n) (Eng.run_move rfl ((H.kept 1 (by kernel_rfl)).trans h1_0)) (Below.refl _ _) rfl
    · refine Eng.plain rfl rfl fun a w' H => ?_
      refine Eng.val (w1 := w') (v := .bool (decide (n ≥ 0))) ?_ (Below.refl _ _) (by show _ = Value.bool q5; rw [Bq5])
      have e0 : a.eval (.tmp 4) = .int .i64 n := (H.dep 0 4 (by kernel_rfl) rfl)
      have e1 : a.eval (.const (.int .i64 0)) = .int .i64 0 := (rfl : a.eval (.const (.int .i64 0)) = .int .i64 0)
      simp only [execOp, resolve, List.map_toArray, List.map_cons, List.map_nil, e0, e1]
      go_simp
      all_goals first | rfl | (simp; done) | (rw [Bool.eq_iff_iff]; simp; done) | omega | skip
    · refine Eng.plain rfl rfl fun a w' H => ?_
      exact Eng.val (w1 := w') (v := .bool q5) (Eng.run_move rfl (H.dep 1 5 (by kernel_rfl) rfl)) (Below.refl _ _) rfl
    · refine Eng.guarded1 (j := 2) (d := 6) (b := q5) rfl rfl (by kernel_rfl) rfl (fun v w h => h) (fun hG w => Eng.off hG) fun hG a w' H => ?_
      exact Eng.val (w1 := w') (v := .int .i64 n) (Eng.run_move rfl ((H.kept 1 (by kernel_rfl)).trans h1_0)) (Below.refl _ _) (Eng.off' hG rfl)
    · refine Eng.guarded1 (j := 2) (d := 6) (b := q5) rfl rfl (by kernel_rfl) rfl (fun v w h => h) (fun hG w => Eng.off hG) fun hG a w' H => ?_
      refine Eng.val (w1 := w') (v := .bool (decide (n < 512))) ?_ (Below.refl _ _) (Eng.off' hG (by rw [Bq8]))
      have e0 : a.eval (.tmp 7) = .int .i64 n := (Eng.on (H.dep 3 7 (by kernel_rfl) rfl) hG)
      have e1 : a.eval (.const (.int .i64 512)) = .int .i64 512 := (rfl : a.eval (.const (.int .i64 512)) = .int .i64 512)
      simp only [execOp, resolve, List.map_toArray, List.map_cons, List.map_nil, e0, e1]
      go_simp
      all_goals first | rfl | (simp; done) | (rw [Bool.eq_iff_iff]; simp; done) | omega | skip
    · refine Eng.plain rfl rfl fun a w' H => ?_
      exact Eng.val (w1 := w') (v := .bool (q5 && q8)) (Eng.run_and rfl rfl (G := true) (H.dep 2 6 (by kernel_rfl) rfl) (fun hb => (Eng.on (H.dep 4 8 (by kernel_rfl) rfl) (Eng.mk1 hb)))) (Below.refl _ _) (by show _ = Value.bool q9; rw [Bq9])
  intro act1 w1 T
  have h0_1 : act1.eval (.tmp 0) = .pointer (some ⟨g, 0, none⟩) := (T.rest 0 (by kernel_rfl)).trans h0_0
  have h1_1 : act1.eval (.tmp 1) = .int .i64 n := (T.rest 1 (by kernel_rfl)).trans h1_0
  have kg_1 := (T.below.block _ hg).trans hk
  have lg_1 := Nat.lt_of_lt_of_le hg T.below.size
  have h9_1 : act1.eval (.tmp 9) = .bool q9 := T.done 5 9 rfl rfl
  have d1 := T.defers.trans d0
  have s1 := T.size.trans s0
  have bl1 := bl0.trans (T.below.mono bl0.size)
  clear T
  refine Eng.tail_nil ?_
  show Code.wp Tryd.prog _ _ _ _
  refine wp_cond_split h9_1 (fun hq => ?_) (fun hq => ?_)
  ·
    have kn2 := hq
    have c9 := Bq9.symm.trans hq
    clear hq
    have hq := c9
    rw [Bq8, Bq5] at hq
    simp only [Bool.and_eq_true, decide_eq_true_eq] at hq
    obtain ⟨hq0, hq1⟩ := hq
    have hq8 := hN8 hq1
    refine Eng.regionD (Eng.still [fun u_ => u_ = .pointer (some ⟨g, 0, none⟩), fun u_ => u_ = .int .i64 n, fun u_ => u_ = .int .i64 (N64 : Int), fun u_ => u_ = .pointer (some ⟨g, 0, none⟩), fun u_ => u_ = .pointer (some ⟨g, N64, none⟩), fun u_ => u_ = .int .u64 (Nfa.at_ l (N64)), fun u_ => u_ = .int .i64 n, fun u_ => u_ = .int .i64 (Nr : Int), fun u_ => u_ = .int .u64 (shl .u64 1 (Nr : Int)), fun u_ => u_ = .int .u64 (Go.bits .or .u64 (Nfa.at_ l N64) (shl .u64 1 (Nr : Int))), fun u_ => u_ = .pointer (some ⟨g, 0, none⟩), fun u_ => u_ = .pointer (some ⟨g, N64, none⟩)]) (fun i => ([.plain, .plain, .plain, .plain, .plain, .plain, .plain, .plain, .plain, .plain, .plain, .plain] : List Eng.Kind).getD i .plain) 12 1 22 (by kernel_rfl) s1 rfl (by kernel_rfl) (Eng.still_stable _) (Or.inr (Eng.still_any _)) ?_ ?_
    · refine Eng.Steps.cons (fun _ => ?_) (Eng.Steps.cons (fun _ => ?_) (Eng.Steps.cons (fun _ => ?_) (Eng.Steps.cons (fun _ => ?_) (Eng.Steps.cons (fun _ => ?_) (Eng.Steps.cons (fun _ => ?_) (Eng.Steps.cons (fun _ => ?_) (Eng.Steps.cons (fun _ => ?_) (Eng.Steps.cons (fun _ => ?_) (Eng.Steps.cons (fun _ => ?_) (Eng.Steps.cons (fun _ => ?_) (Eng.Steps.cons (fun _ => ?_) (Eng.Steps.cons (fun hlt => ?_) (Eng.Steps.nil)))))))))))))
      · refine Eng.plain rfl rfl fun a w' H => ?_
        exact Eng.val (w1 := w') (v := .pointer (some ⟨g, 0, none⟩)) (Eng.run_move rfl ((H.kept 0 (by kernel_rfl)).trans h0_1)) (Below.refl _ _) rfl
      · refine Eng.plain rfl rfl fun a w' H => ?_
        exact Eng.val (w1 := w') (v := .int .i64 n) (Eng.run_move rfl ((H.kept 1 (by kernel_rfl)).trans h1_1)) (Below.refl _ _) rfl
      · refine Eng.plain rfl rfl fun a w' H => ?_
        refine Eng.val (w1 := w') (v := .int .i64 (N64 : Int)) ?_ (Below.refl _ _) rfl
        have e0 : a.eval (.tmp 11) = .int .i64 n := (H.dep 1 11 (by kernel_rfl) rfl)
        have e1 : a.eval (.const (.int .i64 64)) = .int .i64 64 := (rfl : a.eval (.const (.int .i64 64)) = .int .i64 64)
        simp only [execOp, resolve, List.map_toArray, List.map_cons, List.map_nil, e0, e1]
        go_simp
        all_goals first | rfl | (exact hq64 hq0 hq1) | (rw [hq64 hq0 hq1]; done) | skip
      · refine Eng.plain rfl rfl fun a w' H => ?_
        refine Eng.val (w1 := w') (v := .pointer (some ⟨g, 0, none⟩)) ?_ (Below.refl _ _) rfl
        have e0 : a.eval (.tmp 10) = .pointer (some ⟨g, 0, none⟩) := (H.dep 0 10 (by kernel_rfl) rfl)
        simp only [execOp, resolve, List.map_toArray, List.map_cons, List.map_nil, e0]
        go_simp
        all_goals first | rfl | (simp; done) | (rw [Bool.eq_iff_iff]; simp; done) | omega | skip
      · refine Eng.plain rfl rfl fun a w' H => ?_
        refine Eng.val (w1 := w') (v := .pointer (some ⟨g, N64, none⟩)) ?_ (Below.refl _ _) rfl
        exact Eng.run_indexAddr rfl Tryd.underlying74 (by kernel_rfl) (H.dep 3 13 (by kernel_rfl) rfl) ((H.dep 2 12 (by kernel_rfl) rfl).trans (congrArg (Value.int _) (show (N64 : Int) = ((N64 : Nat) : Int) from by omega))) (by decide) (by omega)
      · refine Eng.plain rfl rfl fun a w' H => ?_
        have kb := (H.below.block _ lg_1).trans kg_1
        have z0 : w'.cell? ⟨g, N64, none⟩ = some (.int .u64 (Nfa.at_ l (N64))) := (Eng.cells kb (N64)).trans (Nfa.cell_at (hl) (by omega))
        refine Eng.val (w1 := w') (v := .int .u64 (Nfa.at_ l (N64))) ?_ (Below.refl _ _) rfl
        have e0 : a.eval (.tmp 14) = .pointer (some ⟨g, N64, none⟩) := (H.dep 4 14 (by kernel_rfl) rfl)
        simp only [execOp, resolve, List.map_toArray, List.map_cons, List.map_nil, e0]
        go_simp
        all_goals first | rfl | (simp; done) | (rw [Bool.eq_iff_iff]; simp; done) | omega | skip
      · refine Eng.plain rfl rfl fun a w' H => ?_
        exact Eng.val (w1 := w') (v := .int .i64 n) (Eng.run_move rfl ((H.kept 1 (by kernel_rfl)).trans h1_1)) (Below.refl _ _) rfl
      · refine Eng.plain rfl rfl fun a w' H => ?_
        refine Eng.val (w1 := w') (v := .int .i64 (Nr : Int)) ?_ (Below.refl _ _) rfl
        have e0 : a.eval (.tmp 16) = .int .i64 n := (H.dep 6 16 (by kernel_rfl) rfl)
        have e1 : a.eval (.const (.int .i64 64)) = .int .i64 64 := (rfl : a.eval (.const (.int .i64 64)) = .int .i64 64)
        simp only [execOp, resolve, List.map_toArray, List.map_cons, List.map_nil, e0, e1]
        go_simp
        all_goals first | rfl | (exact hr64 hq0) | (rw [hr64 hq0]; done) | skip
      · refine Eng.plain rfl rfl fun a w' H => ?_
        refine Eng.val (w1 := w') (v := .int .u64 (shl .u64 1 (Nr : Int))) ?_ (Below.refl _ _) rfl
        have e0 : a.eval (.const (.int .u64 1)) = .int .u64 1 := (rfl : a.eval (.const (.int .u64 1)) = .int .u64 1)
        have e1 : a.eval (.tmp 17) = .int .i64 (Nr : Int) := (H.dep 7 17 (by kernel_rfl) rfl)
        simp only [execOp, resolve, List.map_toArray, List.map_cons, List.map_nil, e0, e1]
        go_simp
        all_goals first | rfl | (exact Nfa.shl_eq _ hNr) | (have h := Nfa.shl_eq 1 hNr; rw [Int.one_mul] at h; exact h) | skip
      · refine Eng.plain rfl rfl fun a w' H => ?_
        refine Eng.val (w1 := w') (v := .int .u64 (Go.bits .or .u64 (Nfa.at_ l N64) (shl .u64 1 (Nr : Int)))) ?_ (Below.refl _ _) rfl
        have e0 : a.eval (.tmp 15) = .int .u64 (Nfa.at_ l (N64)) := (H.dep 5 15 (by kernel_rfl) rfl)
        have e1 : a.eval (.tmp 18) = .int .u64 (shl .u64 1 (Nr : Int)) := (H.dep 8 18 (by kernel_rfl) rfl)
        simp only [execOp, resolve, List.map_toArray, List.map_cons, List.map_nil, e0, e1]
        go_simp
        all_goals first | rfl | skip
      · refine Eng.plain rfl rfl fun a w' H => ?_
        refine Eng.val (w1 := w') (v := .pointer (some ⟨g, 0, none⟩)) ?_ (Below.refl _ _) rfl
        have e0 : a.eval (.tmp 10) = .pointer (some ⟨g, 0, none⟩) := (H.dep 0 10 (by kernel_rfl) rfl)
        simp only [execOp, resolve, List.map_toArray, List.map_cons, List.map_nil, e0]
        go_simp
        all_goals first | rfl | (simp; done) | (rw [Bool.eq_iff_iff]; simp; done) | omega | skip
      · refine Eng.plain rfl rfl fun a w' H => ?_
        refine Eng.val (w1 := w') (v := .pointer (some ⟨g, N64, none⟩)) ?_ (Below.refl _ _) rfl
        exact Eng.run_indexAddr rfl Tryd.underlying74 (by kernel_rfl) (H.dep 10 20 (by kernel_rfl) rfl) ((H.dep 2 12 (by kernel_rfl) rfl).trans (congrArg (Value.int _) (show (N64 : Int) = ((N64 : Nat) : Int) from by omega))) (by decide) (by omega)
      · exact absurd hlt (by decide)
    intro act3 w3 T
    have h0_3 : act3.eval (.tmp 0) = .pointer (some ⟨g, 0, none⟩) := (T.rest 0 (by kernel_rfl)).trans h0_1
    have h1_3 : act3.eval (.tmp 1) = .int .i64 n := (T.rest 1 (by kernel_rfl)).trans h1_1
    have h9_3 : act3.eval (.tmp 9) = .bool q9 := (T.rest 9 (by kernel_rfl)).trans h9_1
    have kg_3 := (T.below.block _ lg_1).trans kg_1
    have lg_3 := Nat.lt_of_lt_of_le lg_1 T.below.size
    have h19_3 : act3.eval (.tmp 19) = .int .u64 (Go.bits .or .u64 (Nfa.at_ l N64) (shl .u64 1 (Nr : Int))) := T.done 9 19 rfl rfl
    have h21_3 : act3.eval (.tmp 21) = .pointer (some ⟨g, N64, none⟩) := T.done 11 21 rfl rfl
    have d3 := T.defers.trans d1
    have s3 := T.size.trans s1
    have bl3 := bl1.trans (T.below.mono bl1.size)
    clear T
    refine Eng.tail_set (n := N64) (v := .int .u64 (Go.bits .or .u64 (Nfa.at_ l N64) (shl .u64 1 (Nr : Int)))) (new := (List.map (Value.int .u64) (l.set (N64) (Go.bits .or .u64 (Nfa.at_ l N64) (shl .u64 1 (Nr : Int))))).toArray) rfl rfl rfl kg_3 (Nfa.cell_set l (N64) (Go.bits .or .u64 (Nfa.at_ l N64) (shl .u64 1 (Nr : Int)))) ?_ fun w4 S => ?_
    · have e0 : act3.eval (.tmp 21) = .pointer (some ⟨g, N64, none⟩) := h21_3
      have e1 : act3.eval (.tmp 19) = .int .u64 (Go.bits .or .u64 (Nfa.at_ l N64) (shl .u64 1 (Nr : Int))) := h19_3
      have z0 := (Eng.cells kg_3 (N64)).trans (Nfa.cell_at (hl) (by omega))
      have f0 := Eng.unfrozen kg_3 (N64)
      simp only [execOp]
      rw [e0, e1]
      go_simp
    have kg_4 := S.new
    have lg_4 := Nat.lt_of_lt_of_eq lg_3 S.size.symm
    refine Eng.tail_nil ?_
    have fin := Eng.Turns.of_sets bl3 S
    exact Eng.ret0 rfl d3 fun v => ⟨v, rfl, by rw [Nfa.put_in hq0 hq1, hN, hR]; exact fin⟩
  ·
    have kn5 := hq
    have c9 := Bq9.symm.trans hq
    clear hq
    have hq := c9
    rw [Bq8, Bq5] at hq
    refine wp_skip ?_
    exact Eng.ret0 rfl d1 fun v => ⟨v, rfl, by rw [Nfa.put_out (by simpa using hq)]; exact Eng.Turns.of_below bl1 hk⟩
end Go.Proofs.YthgafcaoibfchaaDoor.X
end
section
namespace Go.Proofs.YthgafcaoibfchaaDoor.X
open Go.RowKit Go.Shelf Go.Proofs Go.Proofs.YthgafcaoibfchaaDoorW.PrintWords Go.Proofs.YthgafcaoibfchaaDoorW.PrintLast Go.Proofs.YthgafcaoibfchaaDoorW.PrintMore
set_option linter.unusedVariables false
set_option linter.unusedSimpArgs false
attribute [local go_sem] max2_int min2_int max_two min_two
set_option maxHeartbeats 4000000 in
set_option maxRecDepth 100000 in
theorem Nfa.parts_calls (pv bv : Value) (many : Int) (w : World) : Calls Tryd.prog 89 #[.agg #[pv, bv, .int .i64 many]] w fun e w' => ∃ bt, e = .returned (.func (.func 116) #[] #[.pointer (some ⟨bt, 0, none⟩)]) ∧ w.heap.size ≤ bt ∧ bt < w'.heap.size ∧ w'.heap[bt]? = some (.cells #[pv, bv, .int .i64 many] 65 (0, 0)) ∧ Below w.heap.size w w' := by
  refine Eng.enter Tryd.func89 rfl fun act0 d0 s0 v0 => ?_
  have s0 : act0.tmps.size = 4 := s0
  have h0_0 : act0.eval (.tmp 0) = .agg #[pv, bv, .int .i64 many] := v0 0 (by simp)
  clear v0
  have bl0 : Below w.heap.size w w := Below.refl _ _
  refine wp_seq ?_
  refine Eng.regionS (Eng.still [fun u_ => True, fun u_ => u_ = .nilFunc]) (fun i => ([.alloc 65 #[pv, bv, .int .i64 many], .plain] : List Eng.Kind).getD i .plain) 2 0 4 s0 rfl (by kernel_rfl) (Eng.still_stable _) (Or.inr (Eng.still_any _)) ?_ ?_
  · refine Eng.Steps.cons (fun _ => ?_) (Eng.Steps.cons (fun _ => ?_) (Eng.Steps.nil))
    · refine Eng.made rfl (by simp) rfl (fun a w' hd ho => ?_) (fun _ _ => trivial)
      exact Eng.run_box rfl ((ho 0 (by kernel_rfl)).trans h0_0)
    · refine Eng.plain rfl rfl fun a w' H => ?_
      exact Eng.val (w1 := w') (v := .nilFunc) (Eng.run_assign rfl (rfl : a.eval (.const (.nilFunc)) = .nilFunc)) (Below.refl _ _) rfl
  intro act1 w1 T
  have h0_1 : act1.eval (.tmp 0) = .agg #[pv, bv, .int .i64 many] := (T.rest 0 (by kernel_rfl)).trans h0_0
  obtain ⟨g1_1, h1_1, rg1_1, lg1_1_1, kg1_1_1⟩ := T.al 0 1 _ _ rfl rfl rfl (by kernel_rfl)
  have og1_1 : w.heap.size ≤ g1_1 := Nat.le_trans bl0.size rg1_1
  have h2_1 : act1.eval (.tmp 2) = .nilFunc := T.done 1 2 rfl rfl
  have d1 := T.defers.trans d0
  have s1 := T.size.trans s0
  have bl1 := bl0.trans (T.below.mono bl0.size)
  clear T
  refine Eng.tail_nil ?_
  show Code.wp Tryd.prog _ _ _ _
  refine wp_seq ?_
  refine Eng.regionS (Eng.still [fun u_ => u_ = .func (.func 116) #[] #[.pointer (some ⟨g1_1, 0, none⟩)], fun u_ => u_ = .func (.func 116) #[] #[.pointer (some ⟨g1_1, 0, none⟩)]]) (fun i => ([.plain, .plain] : List Eng.Kind).getD i .plain) 2 0 4 s1 rfl (by kernel_rfl) (Eng.still_stable _) (Or.inr (Eng.still_any _)) ?_ ?_
  · refine Eng.Steps.cons (fun _ => ?_) (Eng.Steps.cons (fun _ => ?_) (Eng.Steps.nil))
    · refine Eng.plain rfl rfl fun a w' H => ?_
      refine Eng.val (w1 := w') (v := .func (.func 116) #[] #[.pointer (some ⟨g1_1, 0, none⟩)]) ?_ (Below.refl _ _) rfl
      have e0 : a.eval (.tmp 1) = .pointer (some ⟨g1_1, 0, none⟩) := ((H.kept 1 (by kernel_rfl)).trans h1_1)
      simp only [execOp, resolve, List.map_toArray, List.map_cons, List.map_nil, e0]
      go_simp
      all_goals first | rfl | (simp; done) | (rw [Bool.eq_iff_iff]; simp; done) | omega | skip
    · refine Eng.plain rfl rfl fun a w' H => ?_
      exact Eng.val (w1 := w') (v := .func (.func 116) #[] #[.pointer (some ⟨g1_1, 0, none⟩)]) (Eng.run_assign rfl (H.dep 0 3 (by kernel_rfl) rfl)) (Below.refl _ _) rfl
  intro act2 w2 T
  have h0_2 : act2.eval (.tmp 0) = .agg #[pv, bv, .int .i64 many] := (T.rest 0 (by kernel_rfl)).trans h0_1
  have h1_2 : act2.eval (.tmp 1) = .pointer (some ⟨g1_1, 0, none⟩) := (T.rest 1 (by kernel_rfl)).trans h1_1
  have kg1_1_2 := (T.below.block _ lg1_1_1).trans kg1_1_1
  have lg1_1_2 := Nat.lt_of_lt_of_le lg1_1_1 T.below.size
  have h2_2 : act2.eval (.tmp 2) = .func (.func 116) #[] #[.pointer (some ⟨g1_1, 0, none⟩)] := T.done 1 2 rfl rfl
  have d2 := T.defers.trans d1
  have s2 := T.size.trans s1
  have bl2 := bl1.trans (T.below.mono bl1.size)
  clear T
  refine Eng.tail_nil ?_
  show Code.wp Tryd.prog _ _ _ _
  refine wp_ret ?_
  repeat (first | refine Eng.in_ret ?_ | refine Eng.then_ret ?_)
  exact Eng.ret1 rfl d2 h2_2 ⟨g1_1, rfl, og1_1, lg1_1_2, kg1_1_2, bl2⟩
end Go.Proofs.YthgafcaoibfchaaDoor.X
end
section
namespace Go.Proofs.YthgafcaoibfchaaDoor.X
open Go.RowKit Go.Shelf Go.Proofs Go.Proofs.YthgafcaoibfchaaDoorW.PrintWords Go.Proofs.YthgafcaoibfchaaDoorW.PrintLast Go.Proofs.YthgafcaoibfchaaDoorW.PrintMore
set_option linter.unusedVariables false
set_option linter.unusedSimpArgs false
attribute [local go_sem] max2_int min2_int max_two min_two
set_option maxHeartbeats 4000000 in
set_option maxRecDepth 100000 in
theorem Nfa.parts_in (m ly bt : Nat) (w : World) (pv bv : Value) (many : Int) (ps : List (List Pth.Part)) (bs : List Int) (vs : List Value) (hvl : vs.length = ps.length) (hp : Eng.Reads w pv ps.length 1 vs) (hin : ∀ k, k < ps.length → Eng.Reads w (vs.getD k undef) (ps.getD k []).length 2 (Pth.cellsP (ps.getD k []))) (hb : Eng.Reads w bv bs.length 1 (Nfa.ints bs)) (K : List Nfa.It → World → Prop) (hK : ∀ pre W W', K pre W → Below W.heap.size W W' → K pre W') (hT : ∀ pre W, K pre W → Below w.heap.size w W ∧ W.heap[bt]? = some (.cells #[pv, bv, .int .i64 many] 65 (0, 0))) (hY : ∀ pre x W, (pre ++ [x]) <+: Nfa.items ps bs → K pre W → YieldAt Fence.wide m Tryd.prog ly (Nfa.enc x) W fun e W' => e = .returned (.bool true) ∧ K (pre ++ [x]) W') (W0 : World) (h0 : K [] W0) : Calls Tryd.prog 116 #[.func (.yield ly) #[] #[], .pointer (some ⟨bt, 0, none⟩)] W0 fun e W' => (∃ v, e = .returned v) ∧ K (Nfa.items ps bs) W' := by
  have hmp := Eng.Reads.len_le hp
  have hu115 := Tryd.underlying115
  refine Eng.enter Tryd.func116 rfl fun act0 d0 s0 v0 => ?_
  have s0 : act0.tmps.size = 33 := s0
  have h0_0 : act0.eval (.tmp 0) = .func (.yield ly) #[] #[] := v0 0 (by simp)
  have h1_0 : act0.eval (.tmp 1) = .pointer (some ⟨bt, 0, none⟩) := v0 1 (by simp)
  clear v0
  refine wp_seq ?_
  refine Eng.regionS (Eng.still [fun u_ => u_ = .pointer (some ⟨bt, 0, none⟩), fun u_ => u_ = pv, fun u_ => u_ = .int .i64 ((ps.length : Nat) : Int), fun u_ => u_ = .int .i64 0]) (fun i => ([.plain, .plain, .plain, .plain] : List Eng.Kind).getD i .plain) 4 0 33 s0 rfl (by kernel_rfl) (Eng.still_stable _) (Or.inr (Eng.still_any _)) ?_ ?_
  · refine Eng.Steps.cons (fun _ => ?_) (Eng.Steps.cons (fun _ => ?_) (Eng.Steps.cons (fun _ => ?_) (Eng.Steps.cons (fun _ => ?_) (Eng.Steps.nil))))
    · refine Eng.plain rfl rfl fun a w' H => ?_
      refine Eng.val (w1 := w') (v := .pointer (some ⟨bt, 0, none⟩)) ?_ (Below.refl _ _) rfl
      have e0 : a.eval (.tmp 1) = .pointer (some ⟨bt, 0, none⟩) := ((H.kept 1 (by kernel_rfl)).trans h1_0)
      simp only [execOp, resolve, List.map_toArray, List.map_cons, List.map_nil, e0]
      go_simp
      all_goals first | rfl | (simp; done) | (rw [Bool.eq_iff_iff]; simp; done) | omega | skip
    · refine Eng.plain rfl rfl fun a w' H => ?_
      have kb := (H.below.block _ (Array.getElem?_eq_some_iff.1 (hT _ _ h0).2).1).trans (hT _ _ h0).2
      have z0 : w'.cell? ⟨bt, 0, none⟩ = some (pv) := (Eng.cells kb 0).trans rfl
      refine Eng.val (w1 := w') (v := pv) ?_ (Below.refl _ _) rfl
      have e0 : a.eval (.tmp 7) = .pointer (some ⟨bt, 0, none⟩) := (H.dep 0 7 (by kernel_rfl) rfl)
      simp only [execOp, resolve, List.map_toArray, List.map_cons, List.map_nil, e0]
      go_simp
      all_goals first | rfl | (simp; done) | (rw [Bool.eq_iff_iff]; simp; done) | omega | skip
    · refine Eng.plain rfl rfl fun a w' H => ?_
      refine Eng.val (w1 := w') (v := .int .i64 ((ps.length : Nat) : Int)) ?_ (Below.refl _ _) rfl
      exact Eng.run_len_sl rfl Tryd.underlying62 (show a.eval (.tmp 8) = pv from (H.dep 1 8 (by kernel_rfl) rfl)) (Eng.Reads.below (Eng.Reads.below hp (hT _ _ h0).1) H.below)
    · refine Eng.plain rfl rfl fun a w' H => ?_
      exact Eng.val (w1 := w') (v := .int .i64 0) (Eng.run_move rfl (rfl : a.eval (.const (.int .i64 0)) = .int .i64 0)) (Below.refl _ _) rfl
  intro act1 w1 T
  have h0_1 : act1.eval (.tmp 0) = .func (.yield ly) #[] #[] := (T.rest 0 (by kernel_rfl)).trans h0_0
  have h1_1 : act1.eval (.tmp 1) = .pointer (some ⟨bt, 0, none⟩) := (T.rest 1 (by kernel_rfl)).trans h1_0
  have kbt_1 := (T.below.block _ (Array.getElem?_eq_some_iff.1 (hT _ _ h0).2).1).trans (hT _ _ h0).2
  have lbt_1 := Nat.lt_of_lt_of_le (Array.getElem?_eq_some_iff.1 (hT _ _ h0).2).1 T.below.size
  have Fpp_1 := Eng.Reads.below (Eng.Reads.below hp (hT _ _ h0).1) T.below
  have Fbb_1 := Eng.Reads.below (Eng.Reads.below hb (hT _ _ h0).1) T.below
  have h8_1 : act1.eval (.tmp 8) = pv := T.done 1 8 rfl rfl
  have h9_1 : act1.eval (.tmp 9) = .int .i64 ((ps.length : Nat) : Int) := T.done 2 9 rfl rfl
  have h10_1 : act1.eval (.tmp 10) = .int .i64 0 := T.done 3 10 rfl rfl
  have d1 := T.defers.trans d0
  have s1 := T.size.trans s0
  have bl1 := (hT _ _ h0).1.trans (T.below.mono (hT _ _ h0).1.size)
  have J1 := hK _ _ _ h0 T.below
  clear T
  refine Eng.tail_nil ?_
  first | show Code.wp Tryd.prog _ _ _ _ | skip
  refine wp_block ?_
  refine Eng.loopN (fun n a w' => ∃ (k : Nat), ps.length - k = n ∧ (k ≤ ps.length) ∧ (K (Nfa.itemsTo ps bs k 0) w') ∧ a.defers = [] ∧ a.tmps.size = 33 ∧ Below w.heap.size w w' ∧ a.eval (.tmp 0) = .func (.yield ly) #[] #[] ∧ a.eval (.tmp 1) = .pointer (some ⟨bt, 0, none⟩) ∧ a.eval (.tmp 8) = pv ∧ a.eval (.tmp 9) = .int .i64 ((ps.length : Nat) : Int) ∧ a.eval (.tmp 10) = .int .i64 (k : Nat) ∧ w'.heap[bt]? = some (.cells (#[pv, bv, .int .i64 many]) 65 (0, 0)) ∧ bt < w'.heap.size) (n0 := ps.length - 0) ?_ ?_
  · exact ⟨0, rfl, by omega, by rw [Nfa.itemsTo_zero]; exact J1, d1, s1, bl1, h0_1, h1_1, h8_1, h9_1, (h10_1.trans (by first | rfl | (congr 1; rw [Eng.i64_id (by omega) (by omega)]; omega) | (simp; done))), kbt_1, lbt_1⟩
  rintro n act2 w2 ⟨k, rfl, hc0_2, hc1_2, d2, s2, bl2, h0_2, h1_2, h8_2, h9_2, h10_2, kbt_2, lbt_2⟩
  have Fpp_2 := Eng.Reads.below hp bl2
  have Fbb_2 := Eng.Reads.below hb bl2
  have hk1 := hc0_2
  refine wp_seq ?_
  obtain ⟨q11, Bq11⟩ : ∃ b : Bool, b = (decide ((k : Nat) < ((ps.length : Nat) : Int))) := ⟨_, rfl⟩
  refine Eng.regionS (Eng.still [fun u_ => u_ = .bool q11]) (fun i => ([.plain] : List Eng.Kind).getD i .plain) 1 0 33 s2 rfl (by kernel_rfl) (Eng.still_stable _) (Or.inr (Eng.still_any _)) ?_ ?_
  · refine Eng.Steps.cons (fun _ => ?_) (Eng.Steps.nil)
    · refine Eng.plain rfl rfl fun a w' H => ?_
      refine Eng.val (w1 := w') (v := .bool (decide ((k : Nat) < ((ps.length : Nat) : Int)))) ?_ (Below.refl _ _) (by show _ = Value.bool q11; rw [Bq11])
      have e0 : a.eval (.tmp 10) = .int .i64 (k : Nat) := ((H.kept 10 (by kernel_rfl)).trans h10_2)
      have e1 : a.eval (.tmp 9) = .int .i64 ((ps.length : Nat) : Int) := ((H.kept 9 (by kernel_rfl)).trans h9_2)
      simp only [execOp, resolve, List.map_toArray, List.map_cons, List.map_nil, e0, e1]
      go_simp
      all_goals first | rfl | (simp; done) | (rw [Bool.eq_iff_iff]; simp; done) | omega | skip
  intro act3 w3 T
  have h0_3 : act3.eval (.tmp 0) = .func (.yield ly) #[] #[] := (T.rest 0 (by kernel_rfl)).trans h0_2
  have h1_3 : act3.eval (.tmp 1) = .pointer (some ⟨bt, 0, none⟩) := (T.rest 1 (by kernel_rfl)).trans h1_2
  have h8_3 : act3.eval (.tmp 8) = pv := (T.rest 8 (by kernel_rfl)).trans h8_2
  have h9_3 : act3.eval (.tmp 9) = .int .i64 ((ps.length : Nat) : Int) := (T.rest 9 (by kernel_rfl)).trans h9_2
  have h10_3 : act3.eval (.tmp 10) = .int .i64 (k : Nat) := (T.rest 10 (by kernel_rfl)).trans h10_2
  have kbt_3 := (T.below.block _ lbt_2).trans kbt_2
  have lbt_3 := Nat.lt_of_lt_of_le lbt_2 T.below.size
  have Fpp_3 := Eng.Reads.below Fpp_2 T.below
  have Fbb_3 := Eng.Reads.below Fbb_2 T.below
  have h11_3 : act3.eval (.tmp 11) = .bool q11 := T.done 0 11 rfl rfl
  have d3 := T.defers.trans d2
  have s3 := T.size.trans s2
  have bl3 := bl2.trans (T.below.mono bl2.size)
  have J3 := hK _ _ _ hc1_2 T.below
  clear T
  refine Eng.tail_nil ?_
  first | show Code.wp Tryd.prog _ _ _ _ | skip
  refine wp_seq ?_
  refine wp_cond_split h11_3 (fun hq => ?_) (fun hq => ?_)
  ·
    have kn4 := hq
    have c11 := Bq11.symm.trans hq
    clear hq
    have c11 := of_decide_eq_true c11
    have hk0 : k < ps.length := by omega
    have Fin0 := hin k hk0
    have hmi := Eng.Reads.len_le Fin0
    have Finn5 := Eng.Reads.below Fin0 bl3
    refine wp_skip ?_
    first | show Code.wp Tryd.prog _ _ _ _ | skip
    refine wp_seq ?_
    refine wp_block ?_
    refine wp_seq ?_
    refine Eng.regionS (Eng.still [fun u_ => u_ = .int .i64 (k : Nat), fun u_ => u_ = Eng.elemPtr pv (k * 1), fun u_ => u_ = (vs.getD k undef), fun u_ => u_ = .int .i64 (k : Nat), fun u_ => u_ = (vs.getD k undef)]) (fun i => ([.plain, .plain, .plain, .plain, .plain] : List Eng.Kind).getD i .plain) 5 0 33 s3 rfl (by kernel_rfl) (Eng.still_stable _) (Or.inr (Eng.still_any _)) ?_ ?_
    · refine Eng.Steps.cons (fun _ => ?_) (Eng.Steps.cons (fun _ => ?_) (Eng.Steps.cons (fun _ => ?_) (Eng.Steps.cons (fun _ => ?_) (Eng.Steps.cons (fun _ => ?_) (Eng.Steps.nil)))))
      · refine Eng.plain rfl rfl fun a w' H => ?_
        exact Eng.val (w1 := w') (v := .int .i64 (k : Nat)) (Eng.run_move rfl ((H.kept 10 (by kernel_rfl)).trans h10_3)) (Below.refl _ _) rfl
      · refine Eng.plain rfl rfl fun a w' H => ?_
        refine Eng.val (w1 := w') (v := Eng.elemPtr pv (k * 1)) ?_ (Below.refl _ _) rfl
        exact Eng.run_index_sl rfl Tryd.underlying62 (by kernel_rfl) (show a.eval (.tmp 8) = pv from ((H.kept 8 (by kernel_rfl)).trans h8_3)) ((show a.eval (.tmp 10) = .int .i64 (k : Nat) from ((H.kept 10 (by kernel_rfl)).trans h10_3)).trans (congrArg (Value.int _) (show (k : Nat) = ((k : Nat) : Int) from by omega))) (Eng.Reads.below Fpp_3 H.below) (by omega) rfl
      · refine Eng.plain rfl rfl fun a w' H => ?_
        refine Eng.val (w1 := w') (v := (vs.getD k undef)) ?_ (Below.refl _ _) rfl
        exact Eng.run_load_el ((vs.getD k undef)) rfl (show a.eval (.tmp 13) = Eng.elemPtr pv (k * 1) from (H.dep 1 13 (by kernel_rfl) rfl)) (Eng.Reads.below Fpp_3 H.below) (Nfa.at_one vs hvl (by omega)) (by kernel_rfl)
      · refine Eng.plain rfl rfl fun a w' H => ?_
        exact Eng.val (w1 := w') (v := .int .i64 (k : Nat)) (Eng.run_assign rfl (H.dep 0 12 (by kernel_rfl) rfl)) (Below.refl _ _) rfl
      · refine Eng.plain rfl rfl fun a w' H => ?_
        exact Eng.val (w1 := w') (v := (vs.getD k undef)) (Eng.run_assign rfl (H.dep 2 14 (by kernel_rfl) rfl)) (Below.refl _ _) rfl
    intro act6 w6 T
    have h0_6 : act6.eval (.tmp 0) = .func (.yield ly) #[] #[] := (T.rest 0 (by kernel_rfl)).trans h0_3
    have h1_6 : act6.eval (.tmp 1) = .pointer (some ⟨bt, 0, none⟩) := (T.rest 1 (by kernel_rfl)).trans h1_3
    have h8_6 : act6.eval (.tmp 8) = pv := (T.rest 8 (by kernel_rfl)).trans h8_3
    have h9_6 : act6.eval (.tmp 9) = .int .i64 ((ps.length : Nat) : Int) := (T.rest 9 (by kernel_rfl)).trans h9_3
    have h10_6 : act6.eval (.tmp 10) = .int .i64 (k : Nat) := (T.rest 10 (by kernel_rfl)).trans h10_3
    have h11_6 : act6.eval (.tmp 11) = .bool q11 := (T.rest 11 (by kernel_rfl)).trans h11_3
    have kbt_6 := (T.below.block _ lbt_3).trans kbt_3
    have lbt_6 := Nat.lt_of_lt_of_le lbt_3 T.below.size
    have Fpp_6 := Eng.Reads.below Fpp_3 T.below
    have Fbb_6 := Eng.Reads.below Fbb_3 T.below
    have Finn_6 := Eng.Reads.below Finn5 T.below
    have h3_6 : act6.eval (.tmp 3) = .int .i64 (k : Nat) := T.done 3 3 rfl rfl
    have h4_6 : act6.eval (.tmp 4) = (vs.getD k undef) := T.done 4 4 rfl rfl
    have d6 := T.defers.trans d3
    have s6 := T.size.trans s3
    have bl6 := bl3.trans (T.below.mono bl3.size)
    have J6 := hK _ _ _ J3 T.below
    clear T
    refine Eng.tail_nil ?_
    first | show Code.wp Tryd.prog _ _ _ _ | skip
    refine wp_seq ?_
    refine Eng.regionS (Eng.still [fun u_ => u_ = (vs.getD k undef), fun u_ => u_ = .int .i64 (((ps.getD k []).length : Nat) : Int), fun u_ => u_ = .int .i64 0]) (fun i => ([.plain, .plain, .plain] : List Eng.Kind).getD i .plain) 3 0 33 s6 rfl (by kernel_rfl) (Eng.still_stable _) (Or.inr (Eng.still_any _)) ?_ ?_
    · refine Eng.Steps.cons (fun _ => ?_) (Eng.Steps.cons (fun _ => ?_) (Eng.Steps.cons (fun _ => ?_) (Eng.Steps.nil)))
      · refine Eng.plain rfl rfl fun a w' H => ?_
        exact Eng.val (w1 := w') (v := (vs.getD k undef)) (Eng.run_move rfl ((H.kept 4 (by kernel_rfl)).trans h4_6)) (Below.refl _ _) rfl
      · refine Eng.plain rfl rfl fun a w' H => ?_
        refine Eng.val (w1 := w') (v := .int .i64 (((ps.getD k []).length : Nat) : Int)) ?_ (Below.refl _ _) rfl
        exact Eng.run_len_sl rfl Tryd.underlying82 (show a.eval (.tmp 15) = (vs.getD k undef) from (H.dep 0 15 (by kernel_rfl) rfl)) (Eng.Reads.below Finn_6 H.below)
      · refine Eng.plain rfl rfl fun a w' H => ?_
        exact Eng.val (w1 := w') (v := .int .i64 0) (Eng.run_move rfl (rfl : a.eval (.const (.int .i64 0)) = .int .i64 0)) (Below.refl _ _) rfl
    intro act7 w7 T
    have h0_7 : act7.eval (.tmp 0) = .func (.yield ly) #[] #[] := (T.rest 0 (by kernel_rfl)).trans h0_6
    have h1_7 : act7.eval (.tmp 1) = .pointer (some ⟨bt, 0, none⟩) := (T.rest 1 (by kernel_rfl)).trans h1_6
    have h3_7 : act7.eval (.tmp 3) = .int .i64 (k : Nat) := (T.rest 3 (by kernel_rfl)).trans h3_6
    have h4_7 : act7.eval (.tmp 4) = (vs.getD k undef) := (T.rest 4 (by kernel_rfl)).trans h4_6
    have h8_7 : act7.eval (.tmp 8) = pv := (T.rest 8 (by kernel_rfl)).trans h8_6
    have h9_7 : act7.eval (.tmp 9) = .int .i64 ((ps.length : Nat) : Int) := (T.rest 9 (by kernel_rfl)).trans h9_6
    have h10_7 : act7.eval (.tmp 10) = .int .i64 (k : Nat) := (T.rest 10 (by kernel_rfl)).trans h10_6
    have h11_7 : act7.eval (.tmp 11) = .bool q11 := (T.rest 11 (by kernel_rfl)).trans h11_6
    have kbt_7 := (T.below.block _ lbt_6).trans kbt_6
    have lbt_7 := Nat.lt_of_lt_of_le lbt_6 T.below.size
    have Fpp_7 := Eng.Reads.below Fpp_6 T.below
    have Fbb_7 := Eng.Reads.below Fbb_6 T.below
    have Finn_7 := Eng.Reads.below Finn_6 T.below
    have h15_7 : act7.eval (.tmp 15) = (vs.getD k undef) := T.done 0 15 rfl rfl
    have h16_7 : act7.eval (.tmp 16) = .int .i64 (((ps.getD k []).length : Nat) : Int) := T.done 1 16 rfl rfl
    have h17_7 : act7.eval (.tmp 17) = .int .i64 0 := T.done 2 17 rfl rfl
    have d7 := T.defers.trans d6
    have s7 := T.size.trans s6
    have bl7 := bl6.trans (T.below.mono bl6.size)
    have J7 := hK _ _ _ J6 T.below
    clear T
    refine Eng.tail_nil ?_
    first | show Code.wp Tryd.prog _ _ _ _ | skip
    refine wp_block ?_
    refine Eng.loopN (fun n a w' => ∃ (j : Nat), (ps.getD k []).length - j = n ∧ (j ≤ (ps.getD k []).length) ∧ (K (Nfa.itemsTo ps bs k j) w') ∧ a.defers = [] ∧ a.tmps.size = 33 ∧ Below w.heap.size w w' ∧ a.eval (.tmp 0) = .func (.yield ly) #[] #[] ∧ a.eval (.tmp 1) = .pointer (some ⟨bt, 0, none⟩) ∧ a.eval (.tmp 3) = .int .i64 (k : Nat) ∧ a.eval (.tmp 4) = (vs.getD k undef) ∧ a.eval (.tmp 8) = pv ∧ a.eval (.tmp 9) = .int .i64 ((ps.length : Nat) : Int) ∧ a.eval (.tmp 10) = .int .i64 (k : Nat) ∧ a.eval (.tmp 11) = .bool q11 ∧ a.eval (.tmp 15) = (vs.getD k undef) ∧ a.eval (.tmp 16) = .int .i64 (((ps.getD k []).length : Nat) : Int) ∧ a.eval (.tmp 17) = .int .i64 (j : Nat) ∧ w'.heap[bt]? = some (.cells (#[pv, bv, .int .i64 many]) 65 (0, 0)) ∧ bt < w'.heap.size) (n0 := (ps.getD k []).length - 0) ?_ ?_
    · exact ⟨0, rfl, by omega, J7, d7, s7, bl7, h0_7, h1_7, h3_7, h4_7, h8_7, h9_7, h10_7, h11_7, h15_7, h16_7, (h17_7.trans (by first | rfl | (congr 1; rw [Eng.i64_id (by omega) (by omega)]; omega) | (simp; done))), kbt_7, lbt_7⟩
    rintro n act8 w8 ⟨j, rfl, hc0_8, hc1_8, d8, s8, bl8, h0_8, h1_8, h3_8, h4_8, h8_8, h9_8, h10_8, h11_8, h15_8, h16_8, h17_8, kbt_8, lbt_8⟩
    have Fpp_8 := Eng.Reads.below hp bl8
    have Fbb_8 := Eng.Reads.below hb bl8
    have Finn_8 := Eng.Reads.below Fin0 bl8
    have hj1 := hc0_8
    refine wp_seq ?_
    obtain ⟨q18, Bq18⟩ : ∃ b : Bool, b = (decide ((j : Nat) < (((ps.getD k []).length : Nat) : Int))) := ⟨_, rfl⟩
    refine Eng.regionS (Eng.still [fun u_ => u_ = .bool q18]) (fun i => ([.plain] : List Eng.Kind).getD i .plain) 1 0 33 s8 rfl (by kernel_rfl) (Eng.still_stable _) (Or.inr (Eng.still_any _)) ?_ ?_
    · refine Eng.Steps.cons (fun _ => ?_) (Eng.Steps.nil)
      · refine Eng.plain rfl rfl fun a w' H => ?_
        refine Eng.val (w1 := w') (v := .bool (decide ((j : Nat) < (((ps.getD k []).length : Nat) : Int)))) ?_ (Below.refl _ _) (by show _ = Value.bool q18; rw [Bq18])
        have e0 : a.eval (.tmp 17) = .int .i64 (j : Nat) := ((H.kept 17 (by kernel_rfl)).trans h17_8)
        have e1 : a.eval (.tmp 16) = .int .i64 (((ps.getD k []).length : Nat) : Int) := ((H.kept 16 (by kernel_rfl)).trans h16_8)
        simp only [execOp, resolve, List.map_toArray, List.map_cons, List.map_nil, e0, e1]
        go_simp
        all_goals first | rfl | (simp; done) | (rw [Bool.eq_iff_iff]; simp; done) | omega | skip
    intro act9 w9 T
    have h0_9 : act9.eval (.tmp 0) = .func (.yield ly) #[] #[] := (T.rest 0 (by kernel_rfl)).trans h0_8
    have h1_9 : act9.eval (.tmp 1) = .pointer (some ⟨bt, 0, none⟩) := (T.rest 1 (by kernel_rfl)).trans h1_8
    have h3_9 : act9.eval (.tmp 3) = .int .i64 (k : Nat) := (T.rest 3 (by kernel_rfl)).trans h3_8
    have h4_9 : act9.eval (.tmp 4) = (vs.getD k undef) := (T.rest 4 (by kernel_rfl)).trans h4_8
    have h8_9 : act9.eval (.tmp 8) = pv := (T.rest 8 (by kernel_rfl)).trans h8_8
    have h9_9 : act9.eval (.tmp 9) = .int .i64 ((ps.length : Nat) : Int) := (T.rest 9 (by kernel_rfl)).trans h9_8
    have h10_9 : act9.eval (.tmp 10) = .int .i64 (k : Nat) := (T.rest 10 (by kernel_rfl)).trans h10_8
    have h11_9 : act9.eval (.tmp 11) = .bool q11 := (T.rest 11 (by kernel_rfl)).trans h11_8
    have h15_9 : act9.eval (.tmp 15) = (vs.getD k undef) := (T.rest 15 (by kernel_rfl)).trans h15_8
    have h16_9 : act9.eval (.tmp 16) = .int .i64 (((ps.getD k []).length : Nat) : Int) := (T.rest 16 (by kernel_rfl)).trans h16_8
    have h17_9 : act9.eval (.tmp 17) = .int .i64 (j : Nat) := (T.rest 17 (by kernel_rfl)).trans h17_8
    have kbt_9 := (T.below.block _ lbt_8).trans kbt_8
    have lbt_9 := Nat.lt_of_lt_of_le lbt_8 T.below.size
    have Fpp_9 := Eng.Reads.below Fpp_8 T.below
    have Fbb_9 := Eng.Reads.below Fbb_8 T.below
    have Finn_9 := Eng.Reads.below Finn_8 T.below
    have h18_9 : act9.eval (.tmp 18) = .bool q18 := T.done 0 18 rfl rfl
    have d9 := T.defers.trans d8
    have s9 := T.size.trans s8
    have bl9 := bl8.trans (T.below.mono bl8.size)
    have J9 := hK _ _ _ hc1_8 T.below
    clear T
    refine Eng.tail_nil ?_
    first | show Code.wp Tryd.prog _ _ _ _ | skip
    refine wp_seq ?_
    refine wp_cond_split h18_9 (fun hq => ?_) (fun hq => ?_)
    ·
      have kn10 := hq
      have c18 := Bq18.symm.trans hq
      clear hq
      have c18 := of_decide_eq_true c18
      have hj0 : j < (ps.getD k []).length := by omega
      refine wp_skip ?_
      first | show Code.wp Tryd.prog _ _ _ _ | skip
      refine wp_seq ?_
      refine wp_block ?_
      refine wp_seq ?_
      refine Eng.regionS (Eng.still [fun u_ => u_ = .int .i64 (j : Nat), fun u_ => u_ = Eng.elemPtr (vs.getD k undef) (j * 2), fun u_ => u_ = .agg #[.int .i64 (((ps.getD k []).getD j default).1), .string (((ps.getD k []).getD j default).2)], fun u_ => True, fun u_ => u_ = .int .i64 (j : Nat), fun u_ => True]) (fun i => ([.plain, .plain, .plain, .alloc 115 #[.int .i64 0, .string ⟨#[]⟩], .plain, .store 3 #[.int .i64 (((ps.getD k []).getD j default).1), .string (((ps.getD k []).getD j default).2)]] : List Eng.Kind).getD i .plain) 6 0 33 s9 rfl (by kernel_rfl) (Eng.still_stable _) (Or.inr (Eng.still_any _)) ?_ ?_
      · refine Eng.Steps.cons (fun _ => ?_) (Eng.Steps.cons (fun _ => ?_) (Eng.Steps.cons (fun _ => ?_) (Eng.Steps.cons (fun _ => ?_) (Eng.Steps.cons (fun _ => ?_) (Eng.Steps.cons (fun _ => ?_) (Eng.Steps.nil))))))
        · refine Eng.plain rfl rfl fun a w' H => ?_
          exact Eng.val (w1 := w') (v := .int .i64 (j : Nat)) (Eng.run_move rfl ((H.kept 17 (by kernel_rfl)).trans h17_9)) (Below.refl _ _) rfl
        · refine Eng.plain rfl rfl fun a w' H => ?_
          refine Eng.val (w1 := w') (v := Eng.elemPtr (vs.getD k undef) (j * 2)) ?_ (Below.refl _ _) rfl
          exact Eng.run_index_sl rfl Tryd.underlying82 (by kernel_rfl) (show a.eval (.tmp 15) = (vs.getD k undef) from ((H.kept 15 (by kernel_rfl)).trans h15_9)) ((show a.eval (.tmp 17) = .int .i64 (j : Nat) from ((H.kept 17 (by kernel_rfl)).trans h17_9)).trans (congrArg (Value.int _) (show (j : Nat) = ((j : Nat) : Int) from by omega))) (Eng.Reads.below Finn_9 H.below) (by omega) rfl
        · refine Eng.plain rfl rfl fun a w' H => ?_
          refine Eng.val (w1 := w') (v := .agg #[.int .i64 (((ps.getD k []).getD j default).1), .string (((ps.getD k []).getD j default).2)]) ?_ (Below.refl _ _) rfl
          exact Eng.run_load_els [.int .i64 (((ps.getD k []).getD j default).1), .string (((ps.getD k []).getD j default).2)] rfl (show a.eval (.tmp 20) = Eng.elemPtr (vs.getD k undef) (j * 2) from (H.dep 1 20 (by kernel_rfl) rfl)) (Eng.Reads.below Finn_9 H.below) (Pth.cells_at (ps.getD k []) j (by omega)) rfl Tryd.underlying115 rfl (by kernel_rfl)
        · refine Eng.made rfl (by simp) rfl (fun a w' hd ho => ?_) (fun _ _ => trivial)
          simp only [execOp]
          go_simp
        · refine Eng.plain rfl rfl fun a w' H => ?_
          exact Eng.val (w1 := w') (v := .int .i64 (j : Nat)) (Eng.run_assign rfl (H.dep 0 19 (by kernel_rfl) rfl)) (Below.refl _ _) rfl
        · refine Eng.stored [.int .i64 (((ps.getD k []).getD j default).1), .string (((ps.getD k []).getD j default).2)] rfl rfl rfl (j := 3) (d := 6) (by kernel_rfl) rfl rfl (Eng.store_uniq (by kernel_rfl)) rfl rfl fun a w' g e hc hd ho => ?_
          have e0 : a.eval _ = .agg #[.int .i64 (((ps.getD k []).getD j default).1), .string (((ps.getD k []).getD j default).2)] := (hd 2 21 (by kernel_rfl) rfl)
          have z0 := (Eng.cells hc 0).trans rfl
          have z1 := (Eng.cells hc 1).trans rfl
          have f0 := Eng.unfrozen hc 0
          have f1 := Eng.unfrozen hc 1
          simp only [execOp, e, e0]
          go_simp
          rfl
      intro act11 w11 T
      have h0_11 : act11.eval (.tmp 0) = .func (.yield ly) #[] #[] := (T.rest 0 (by kernel_rfl)).trans h0_9
      have h1_11 : act11.eval (.tmp 1) = .pointer (some ⟨bt, 0, none⟩) := (T.rest 1 (by kernel_rfl)).trans h1_9
      have h3_11 : act11.eval (.tmp 3) = .int .i64 (k : Nat) := (T.rest 3 (by kernel_rfl)).trans h3_9
      have h4_11 : act11.eval (.tmp 4) = (vs.getD k undef) := (T.rest 4 (by kernel_rfl)).trans h4_9
      have h8_11 : act11.eval (.tmp 8) = pv := (T.rest 8 (by kernel_rfl)).trans h8_9
      have h9_11 : act11.eval (.tmp 9) = .int .i64 ((ps.length : Nat) : Int) := (T.rest 9 (by kernel_rfl)).trans h9_9
      have h10_11 : act11.eval (.tmp 10) = .int .i64 (k : Nat) := (T.rest 10 (by kernel_rfl)).trans h10_9
      have h11_11 : act11.eval (.tmp 11) = .bool q11 := (T.rest 11 (by kernel_rfl)).trans h11_9
      have h15_11 : act11.eval (.tmp 15) = (vs.getD k undef) := (T.rest 15 (by kernel_rfl)).trans h15_9
      have h16_11 : act11.eval (.tmp 16) = .int .i64 (((ps.getD k []).length : Nat) : Int) := (T.rest 16 (by kernel_rfl)).trans h16_9
      have h17_11 : act11.eval (.tmp 17) = .int .i64 (j : Nat) := (T.rest 17 (by kernel_rfl)).trans h17_9
      have h18_11 : act11.eval (.tmp 18) = .bool q18 := (T.rest 18 (by kernel_rfl)).trans h18_9
      have kbt_11 := (T.below.block _ lbt_9).trans kbt_9
      have lbt_11 := Nat.lt_of_lt_of_le lbt_9 T.below.size
      have Fpp_11 := Eng.Reads.below Fpp_9 T.below
      have Fbb_11 := Eng.Reads.below Fbb_9 T.below
      have Finn_11 := Eng.Reads.below Finn_9 T.below
      obtain ⟨g6_11, h6_11, rg6_11, lg6_11_11, kg6_11_11⟩ := T.st 3 6 5 _ _ _ rfl rfl rfl rfl rfl
      have og6_11 : w.heap.size ≤ g6_11 := Nat.le_trans bl9.size rg6_11
      have h5_11 : act11.eval (.tmp 5) = .int .i64 (j : Nat) := T.done 4 5 rfl rfl
      have d11 := T.defers.trans d9
      have s11 := T.size.trans s9
      have bl11 := bl9.trans (T.below.mono bl9.size)
      have J11 := hK _ _ _ J9 T.below
      clear T
      refine Eng.tail_nil ?_
      first | show Code.wp Tryd.prog _ _ _ _ | skip
      refine wp_seq ?_
      refine (wpIn_wide (n := m + 1)).1 ?_
      refine EngI.regionD EngI.free_wide (Eng.still [fun u_ => u_ = .func (.yield ly) #[] #[], fun u_ => u_ = .agg #[pv, bv, .int .i64 many], fun u_ => u_ = .int .i64 (k : Nat), fun u_ => u_ = .int .i64 (Nfa.beginF bs (k : Nat)), fun u_ => u_ = .int .i64 (j : Nat), fun u_ => u_ = .int .i64 (IntKind.i64.wrap ((Nfa.beginF bs (k : Nat)) + (j : Nat))), fun u_ => u_ = .agg #[.int .i64 (((ps.getD k []).getD j default).1), .string (((ps.getD k []).getD j default).2)]]) (fun i => ([.plain, .plain, .plain, .plain, .plain, .plain, .plain] : List Eng.Kind).getD i .plain) 7 2 33 (by kernel_rfl) s11 rfl (by kernel_rfl) (Eng.still_stable _) (Or.inr (Eng.still_any _)) (by kernel_rfl) ?_ ?_
      · refine Eng.Steps.cons (fun _ => ?_) (Eng.Steps.cons (fun _ => ?_) (Eng.Steps.cons (fun _ => ?_) (Eng.Steps.cons (fun _ => ?_) (Eng.Steps.cons (fun _ => ?_) (Eng.Steps.cons (fun _ => ?_) (Eng.Steps.cons (fun _ => ?_) (Eng.Steps.cons (fun hlt => ?_) (Eng.Steps.cons (fun hlt => ?_) (Eng.Steps.nil)))))))))
        · refine Eng.plain rfl rfl fun a w' H => ?_
          exact Eng.val (w1 := w') (v := .func (.yield ly) #[] #[]) (Eng.run_move rfl ((H.kept 0 (by kernel_rfl)).trans h0_11)) (Below.refl _ _) rfl
        · refine Eng.plain rfl rfl fun a w' H => ?_
          have kb := (H.below.block _ lbt_11).trans kbt_11
          have z0 : w'.cell? ⟨bt, 0, none⟩ = some (pv) := (Eng.cells kb 0).trans rfl
          have z1 : w'.cell? ⟨bt, 1, none⟩ = some (bv) := (Eng.cells kb 1).trans rfl
          have z2 : w'.cell? ⟨bt, 2, none⟩ = some (.int .i64 many) := (Eng.cells kb 2).trans rfl
          refine Eng.val (w1 := w') (v := .agg #[pv, bv, .int .i64 many]) ?_ (Below.refl _ _) rfl
          have e0 : a.eval (.tmp 1) = .pointer (some ⟨bt, 0, none⟩) := ((H.kept 1 (by kernel_rfl)).trans h1_11)
          simp only [execOp, resolve, List.map_toArray, List.map_cons, List.map_nil, e0]
          go_simp
          all_goals first | rfl | (simp; done) | (rw [Bool.eq_iff_iff]; simp; done) | omega | skip
        · refine Eng.plain rfl rfl fun a w' H => ?_
          exact Eng.val (w1 := w') (v := .int .i64 (k : Nat)) (Eng.run_move rfl ((H.kept 3 (by kernel_rfl)).trans h3_11)) (Below.refl _ _) rfl
        · refine Eng.plain rfl rfl fun a w' H => ?_
          refine Eng.call Tryd.func86 (by kernel_rfl) (by kernel_rfl) rfl #[.agg #[pv, bv, .int .i64 many], .int .i64 (k : Nat)] ?_ ?_
          · have e0 : a.eval (.tmp 23) = .agg #[pv, bv, .int .i64 many] := (H.dep 1 23 (by kernel_rfl) rfl); have e1 : a.eval (.tmp 24) = .int .i64 (k : Nat) := (H.dep 2 24 (by kernel_rfl) rfl); simp only [List.map_toArray, List.map_cons, List.map_nil, e0, e1]
          refine (Nfa.begin_calls pv bv bs many (k : Nat) _ (Eng.Reads.below Fbb_11 H.below) (by omega)).mono ?_
          rintro e w'' ⟨rfl, hb⟩
          exact ⟨_, rfl, rfl, hb⟩
        · refine Eng.plain rfl rfl fun a w' H => ?_
          exact Eng.val (w1 := w') (v := .int .i64 (j : Nat)) (Eng.run_move rfl ((H.kept 5 (by kernel_rfl)).trans h5_11)) (Below.refl _ _) rfl
        · refine Eng.plain rfl rfl fun a w' H => ?_
          refine Eng.val (w1 := w') (v := .int .i64 (IntKind.i64.wrap ((Nfa.beginF bs (k : Nat)) + (j : Nat)))) ?_ (Below.refl _ _) rfl
          have e0 : a.eval (.tmp 25) = .int .i64 (Nfa.beginF bs (k : Nat)) := (H.dep 3 25 (by kernel_rfl) rfl)
          have e1 : a.eval (.tmp 26) = .int .i64 (j : Nat) := (H.dep 4 26 (by kernel_rfl) rfl)
          simp only [execOp, resolve, List.map_toArray, List.map_cons, List.map_nil, e0, e1]
          go_simp
          all_goals first | rfl | (simp; done) | (rw [Bool.eq_iff_iff]; simp; done) | omega | skip
        · refine Eng.plain rfl rfl fun a w' H => ?_
          have kb := (H.below.block _ lg6_11_11).trans kg6_11_11
          have z0 : w'.cell? ⟨g6_11, 0, none⟩ = some (.int .i64 (((ps.getD k []).getD j default).1)) := (Eng.cells kb 0).trans rfl
          have z1 : w'.cell? ⟨g6_11, 1, none⟩ = some (.string (((ps.getD k []).getD j default).2)) := (Eng.cells kb 1).trans rfl
          refine Eng.val (w1 := w') (v := .agg #[.int .i64 (((ps.getD k []).getD j default).1), .string (((ps.getD k []).getD j default).2)]) ?_ (Below.refl _ _) rfl
          have e0 : a.eval (.tmp 6) = .pointer (some ⟨g6_11, 0, none⟩) := ((H.kept 6 (by kernel_rfl)).trans h6_11)
          simp only [execOp, resolve, List.map_toArray, List.map_cons, List.map_nil, e0]
          go_simp
          all_goals first | rfl | (simp; done) | (rw [Bool.eq_iff_iff]; simp; done) | omega | skip
        · exact absurd hlt (by decide)
        · exact absurd hlt (by decide)
      intro act12 w12 T
      have h0_12 : act12.eval (.tmp 0) = .func (.yield ly) #[] #[] := (T.rest 0 (by kernel_rfl)).trans h0_11
      have h1_12 : act12.eval (.tmp 1) = .pointer (some ⟨bt, 0, none⟩) := (T.rest 1 (by kernel_rfl)).trans h1_11
      have h3_12 : act12.eval (.tmp 3) = .int .i64 (k : Nat) := (T.rest 3 (by kernel_rfl)).trans h3_11
      have h4_12 : act12.eval (.tmp 4) = (vs.getD k undef) := (T.rest 4 (by kernel_rfl)).trans h4_11
      have h5_12 : act12.eval (.tmp 5) = .int .i64 (j : Nat) := (T.rest 5 (by kernel_rfl)).trans h5_11
      have h6_12 : act12.eval (.tmp 6) = .pointer (some ⟨g6_11, 0, none⟩) := (T.rest 6 (by kernel_rfl)).trans h6_11
      have h8_12 : act12.eval (.tmp 8) = pv := (T.rest 8 (by kernel_rfl)).trans h8_11
      have h9_12 : act12.eval (.tmp 9) = .int .i64 ((ps.length : Nat) : Int) := (T.rest 9 (by kernel_rfl)).trans h9_11
      have h10_12 : act12.eval (.tmp 10) = .int .i64 (k : Nat) := (T.rest 10 (by kernel_rfl)).trans h10_11
      have h11_12 : act12.eval (.tmp 11) = .bool q11 := (T.rest 11 (by kernel_rfl)).trans h11_11
      have h15_12 : act12.eval (.tmp 15) = (vs.getD k undef) := (T.rest 15 (by kernel_rfl)).trans h15_11
      have h16_12 : act12.eval (.tmp 16) = .int .i64 (((ps.getD k []).length : Nat) : Int) := (T.rest 16 (by kernel_rfl)).trans h16_11
      have h17_12 : act12.eval (.tmp 17) = .int .i64 (j : Nat) := (T.rest 17 (by kernel_rfl)).trans h17_11
      have h18_12 : act12.eval (.tmp 18) = .bool q18 := (T.rest 18 (by kernel_rfl)).trans h18_11
      have kbt_12 := (T.below.block _ lbt_11).trans kbt_11
      have lbt_12 := Nat.lt_of_lt_of_le lbt_11 T.below.size
      have kg6_11_12 := (T.below.block _ lg6_11_11).trans kg6_11_11
      have lg6_11_12 := Nat.lt_of_lt_of_le lg6_11_11 T.below.size
      have Fpp_12 := Eng.Reads.below Fpp_11 T.below
      have Fbb_12 := Eng.Reads.below Fbb_11 T.below
      have Finn_12 := Eng.Reads.below Finn_11 T.below
      have h22_12 : act12.eval (.tmp 22) = .func (.yield ly) #[] #[] := T.done 0 22 rfl rfl
      have h27_12 : act12.eval (.tmp 27) = .int .i64 (IntKind.i64.wrap ((Nfa.beginF bs (k : Nat)) + (j : Nat))) := T.done 5 27 rfl rfl
      have h28_12 : act12.eval (.tmp 28) = .agg #[.int .i64 (((ps.getD k []).getD j default).1), .string (((ps.getD k []).getD j default).2)] := T.done 6 28 rfl rfl
      have d12 := T.defers.trans d11
      have s12 := T.size.trans s11
      have bl12 := bl11.trans (T.below.mono bl11.size)
      have J12 := hK _ _ _ J11 T.below
      clear T
      refine EngI.tail_yield (args := Nfa.enc (Nfa.item ps bs k j)) rfl rfl rfl rfl h22_12 (by have e0 : act12.eval (.tmp 27) = .int .i64 (IntKind.i64.wrap ((Nfa.beginF bs (k : Nat)) + (j : Nat))) := h27_12; have e1 : act12.eval (.tmp 28) = .agg #[.int .i64 (((ps.getD k []).getD j default).1), .string (((ps.getD k []).getD j default).2)] := h28_12; simp only [List.map_toArray, List.map_cons, List.map_nil, e0, e1]; rfl) s12 rfl (hY _ _ _ (Nfa.itemsTo_prefix ps bs hk0 hj0) J12) fun w13 act13 J13 d13 s13 hv hr => ?_
      have h0_13 : act13.eval (.tmp 0) = .func (.yield ly) #[] #[] := (hr 0 rfl).trans h0_12
      have h1_13 : act13.eval (.tmp 1) = .pointer (some ⟨bt, 0, none⟩) := (hr 1 rfl).trans h1_12
      have h3_13 : act13.eval (.tmp 3) = .int .i64 (k : Nat) := (hr 3 rfl).trans h3_12
      have h4_13 : act13.eval (.tmp 4) = (vs.getD k undef) := (hr 4 rfl).trans h4_12
      have h5_13 : act13.eval (.tmp 5) = .int .i64 (j : Nat) := (hr 5 rfl).trans h5_12
      have h6_13 : act13.eval (.tmp 6) = .pointer (some ⟨g6_11, 0, none⟩) := (hr 6 rfl).trans h6_12
      have h8_13 : act13.eval (.tmp 8) = pv := (hr 8 rfl).trans h8_12
      have h9_13 : act13.eval (.tmp 9) = .int .i64 ((ps.length : Nat) : Int) := (hr 9 rfl).trans h9_12
      have h10_13 : act13.eval (.tmp 10) = .int .i64 (k : Nat) := (hr 10 rfl).trans h10_12
      have h11_13 : act13.eval (.tmp 11) = .bool q11 := (hr 11 rfl).trans h11_12
      have h15_13 : act13.eval (.tmp 15) = (vs.getD k undef) := (hr 15 rfl).trans h15_12
      have h16_13 : act13.eval (.tmp 16) = .int .i64 (((ps.getD k []).length : Nat) : Int) := (hr 16 rfl).trans h16_12
      have h17_13 : act13.eval (.tmp 17) = .int .i64 (j : Nat) := (hr 17 rfl).trans h17_12
      have h18_13 : act13.eval (.tmp 18) = .bool q18 := (hr 18 rfl).trans h18_12
      have h22_13 : act13.eval (.tmp 22) = .func (.yield ly) #[] #[] := (hr 22 rfl).trans h22_12
      have h27_13 : act13.eval (.tmp 27) = .int .i64 (IntKind.i64.wrap ((Nfa.beginF bs (k : Nat)) + (j : Nat))) := (hr 27 rfl).trans h27_12
      have h28_13 : act13.eval (.tmp 28) = .agg #[.int .i64 (((ps.getD k []).getD j default).1), .string (((ps.getD k []).getD j default).2)] := (hr 28 rfl).trans h28_12
      have h29_13 : act13.eval (.tmp 29) = .bool true := hv
      have d13 := d13.trans d12
      clear hv hr
      have bl13 := (hT _ _ J13).1
      have kbt_13 := (hT _ _ J13).2
      have lbt_13 := (Array.getElem?_eq_some_iff.1 kbt_13).1
      have Fpp_13 := Eng.Reads.below hp bl13
      have Fbb_13 := Eng.Reads.below hb bl13
      have Finn_13 := Eng.Reads.below Fin0 bl13
      refine EngI.tail_val EngI.free_wide rfl rfl rfl rfl (Eng.run_not rfl h29_13) s13 rfl fun act14 d14 s14 hv hr => ?_
      have h0_14 : act14.eval (.tmp 0) = .func (.yield ly) #[] #[] := (hr 0 rfl).trans h0_13
      have h1_14 : act14.eval (.tmp 1) = .pointer (some ⟨bt, 0, none⟩) := (hr 1 rfl).trans h1_13
      have h3_14 : act14.eval (.tmp 3) = .int .i64 (k : Nat) := (hr 3 rfl).trans h3_13
      have h4_14 : act14.eval (.tmp 4) = (vs.getD k undef) := (hr 4 rfl).trans h4_13
      have h5_14 : act14.eval (.tmp 5) = .int .i64 (j : Nat) := (hr 5 rfl).trans h5_13
      have h6_14 : act14.eval (.tmp 6) = .pointer (some ⟨g6_11, 0, none⟩) := (hr 6 rfl).trans h6_13
      have h8_14 : act14.eval (.tmp 8) = pv := (hr 8 rfl).trans h8_13
      have h9_14 : act14.eval (.tmp 9) = .int .i64 ((ps.length : Nat) : Int) := (hr 9 rfl).trans h9_13
      have h10_14 : act14.eval (.tmp 10) = .int .i64 (k : Nat) := (hr 10 rfl).trans h10_13
      have h11_14 : act14.eval (.tmp 11) = .bool q11 := (hr 11 rfl).trans h11_13
      have h15_14 : act14.eval (.tmp 15) = (vs.getD k undef) := (hr 15 rfl).trans h15_13
      have h16_14 : act14.eval (.tmp 16) = .int .i64 (((ps.getD k []).length : Nat) : Int) := (hr 16 rfl).trans h16_13
      have h17_14 : act14.eval (.tmp 17) = .int .i64 (j : Nat) := (hr 17 rfl).trans h17_13
      have h18_14 : act14.eval (.tmp 18) = .bool q18 := (hr 18 rfl).trans h18_13
      have h22_14 : act14.eval (.tmp 22) = .func (.yield ly) #[] #[] := (hr 22 rfl).trans h22_13
      have h27_14 : act14.eval (.tmp 27) = .int .i64 (IntKind.i64.wrap ((Nfa.beginF bs (k : Nat)) + (j : Nat))) := (hr 27 rfl).trans h27_13
      have h28_14 : act14.eval (.tmp 28) = .agg #[.int .i64 (((ps.getD k []).getD j default).1), .string (((ps.getD k []).getD j default).2)] := (hr 28 rfl).trans h28_13
      have h29_14 : act14.eval (.tmp 29) = .bool true := (hr 29 rfl).trans h29_13
      have h30_14 : act14.eval (.tmp 30) = .bool (!true) := hv
      have d14 := d14.trans d13
      clear hv hr
      refine EngI.tail_nil ?_
      first | show Code.wp Tryd.prog _ _ _ _ | skip
      have n30 : (!true) = false := by
        rfl
      refine wp_cond_false (h30_14.trans (by rw [n30])) ?_
      refine wp_skip ?_
      first | show Code.wp Tryd.prog _ _ _ _ | skip
      refine Eng.regionS (Eng.still [fun u_ => u_ = .int .i64 (IntKind.i64.wrap ((j : Nat) + 1)), fun u_ => u_ = .int .i64 (IntKind.i64.wrap ((j : Nat) + 1))]) (fun i => ([.plain, .plain] : List Eng.Kind).getD i .plain) 2 0 33 s14 rfl (by kernel_rfl) (Eng.still_stable _) (Or.inr (Eng.still_any _)) ?_ ?_
      · refine Eng.Steps.cons (fun _ => ?_) (Eng.Steps.cons (fun _ => ?_) (Eng.Steps.nil))
        · refine Eng.plain rfl rfl fun a w' H => ?_
          refine Eng.val (w1 := w') (v := .int .i64 (IntKind.i64.wrap ((j : Nat) + 1))) ?_ (Below.refl _ _) rfl
          have e0 : a.eval (.tmp 17) = .int .i64 (j : Nat) := ((H.kept 17 (by kernel_rfl)).trans h17_14)
          have e1 : a.eval (.const (.int .i64 1)) = .int .i64 1 := (rfl : a.eval (.const (.int .i64 1)) = .int .i64 1)
          simp only [execOp, resolve, List.map_toArray, List.map_cons, List.map_nil, e0, e1]
          go_simp
          all_goals first | rfl | (simp; done) | (rw [Bool.eq_iff_iff]; simp; done) | omega | skip
        · refine Eng.plain rfl rfl fun a w' H => ?_
          exact Eng.val (w1 := w') (v := .int .i64 (IntKind.i64.wrap ((j : Nat) + 1))) (Eng.run_move rfl (H.dep 0 31 (by kernel_rfl) rfl)) (Below.refl _ _) rfl
      intro act15 w15 T
      have h0_15 : act15.eval (.tmp 0) = .func (.yield ly) #[] #[] := (T.rest 0 (by kernel_rfl)).trans h0_14
      have h1_15 : act15.eval (.tmp 1) = .pointer (some ⟨bt, 0, none⟩) := (T.rest 1 (by kernel_rfl)).trans h1_14
      have h3_15 : act15.eval (.tmp 3) = .int .i64 (k : Nat) := (T.rest 3 (by kernel_rfl)).trans h3_14
      have h4_15 : act15.eval (.tmp 4) = (vs.getD k undef) := (T.rest 4 (by kernel_rfl)).trans h4_14
      have h5_15 : act15.eval (.tmp 5) = .int .i64 (j : Nat) := (T.rest 5 (by kernel_rfl)).trans h5_14
      have h6_15 : act15.eval (.tmp 6) = .pointer (some ⟨g6_11, 0, none⟩) := (T.rest 6 (by kernel_rfl)).trans h6_14
      have h8_15 : act15.eval (.tmp 8) = pv := (T.rest 8 (by kernel_rfl)).trans h8_14
      have h9_15 : act15.eval (.tmp 9) = .int .i64 ((ps.length : Nat) : Int) := (T.rest 9 (by kernel_rfl)).trans h9_14
      have h10_15 : act15.eval (.tmp 10) = .int .i64 (k : Nat) := (T.rest 10 (by kernel_rfl)).trans h10_14
      have h11_15 : act15.eval (.tmp 11) = .bool q11 := (T.rest 11 (by kernel_rfl)).trans h11_14
      have h15_15 : act15.eval (.tmp 15) = (vs.getD k undef) := (T.rest 15 (by kernel_rfl)).trans h15_14
      have h16_15 : act15.eval (.tmp 16) = .int .i64 (((ps.getD k []).length : Nat) : Int) := (T.rest 16 (by kernel_rfl)).trans h16_14
      have h18_15 : act15.eval (.tmp 18) = .bool q18 := (T.rest 18 (by kernel_rfl)).trans h18_14
      have h30_15 : act15.eval (.tmp 30) = .bool (!true) := (T.rest 30 (by kernel_rfl)).trans h30_14
      have kbt_15 := (T.below.block _ lbt_13).trans kbt_13
      have lbt_15 := Nat.lt_of_lt_of_le lbt_13 T.below.size
      have Fpp_15 := Eng.Reads.below Fpp_13 T.below
      have Fbb_15 := Eng.Reads.below Fbb_13 T.below
      have Finn_15 := Eng.Reads.below Finn_13 T.below
      have h17_15 : act15.eval (.tmp 17) = .int .i64 (IntKind.i64.wrap ((j : Nat) + 1)) := T.done 1 17 rfl rfl
      have d15 := T.defers.trans d14
      have s15 := T.size.trans s14
      have bl15 := bl13.trans (T.below.mono bl13.size)
      have J15 := hK _ _ _ J13 T.below
      clear T
      refine Eng.tail_nil ?_
      exact ⟨_, by omega, j + 1, rfl, by omega, by rw [Nfa.itemsTo_succ]; exact J15, d15, s15, bl15, h0_15, h1_15, h3_15, h4_15, h8_15, h9_15, h10_15, h11_15, h15_15, h16_15, (h17_15.trans (by first | rfl | (congr 1; rw [Eng.i64_id (by omega) (by omega)]; omega) | (simp; done))), kbt_15, lbt_15⟩
    ·
      have kn16 := hq
      have c18 := Bq18.symm.trans hq
      clear hq
      have c18 := of_decide_eq_false c18
      have hje : j = (ps.getD k []).length := by omega
      refine wp_exit ?_
      first | show Code.wp Tryd.prog _ _ _ _ | skip
      first | show Code.wp Tryd.prog _ _ _ _ | skip
      refine Eng.regionS (Eng.still [fun u_ => u_ = .int .i64 (IntKind.i64.wrap ((k : Nat) + 1)), fun u_ => u_ = .int .i64 (IntKind.i64.wrap ((k : Nat) + 1))]) (fun i => ([.plain, .plain] : List Eng.Kind).getD i .plain) 2 0 33 s9 rfl (by kernel_rfl) (Eng.still_stable _) (Or.inr (Eng.still_any _)) ?_ ?_
      · refine Eng.Steps.cons (fun _ => ?_) (Eng.Steps.cons (fun _ => ?_) (Eng.Steps.nil))
        · refine Eng.plain rfl rfl fun a w' H => ?_
          refine Eng.val (w1 := w') (v := .int .i64 (IntKind.i64.wrap ((k : Nat) + 1))) ?_ (Below.refl _ _) rfl
          have e0 : a.eval (.tmp 10) = .int .i64 (k : Nat) := ((H.kept 10 (by kernel_rfl)).trans h10_9)
          have e1 : a.eval (.const (.int .i64 1)) = .int .i64 1 := (rfl : a.eval (.const (.int .i64 1)) = .int .i64 1)
          simp only [execOp, resolve, List.map_toArray, List.map_cons, List.map_nil, e0, e1]
          go_simp
          all_goals first | rfl | (simp; done) | (rw [Bool.eq_iff_iff]; simp; done) | omega | skip
        · refine Eng.plain rfl rfl fun a w' H => ?_
          exact Eng.val (w1 := w') (v := .int .i64 (IntKind.i64.wrap ((k : Nat) + 1))) (Eng.run_move rfl (H.dep 0 32 (by kernel_rfl) rfl)) (Below.refl _ _) rfl
      intro act17 w17 T
      have h0_17 : act17.eval (.tmp 0) = .func (.yield ly) #[] #[] := (T.rest 0 (by kernel_rfl)).trans h0_9
      have h1_17 : act17.eval (.tmp 1) = .pointer (some ⟨bt, 0, none⟩) := (T.rest 1 (by kernel_rfl)).trans h1_9
      have h3_17 : act17.eval (.tmp 3) = .int .i64 (k : Nat) := (T.rest 3 (by kernel_rfl)).trans h3_9
      have h4_17 : act17.eval (.tmp 4) = (vs.getD k undef) := (T.rest 4 (by kernel_rfl)).trans h4_9
      have h8_17 : act17.eval (.tmp 8) = pv := (T.rest 8 (by kernel_rfl)).trans h8_9
      have h9_17 : act17.eval (.tmp 9) = .int .i64 ((ps.length : Nat) : Int) := (T.rest 9 (by kernel_rfl)).trans h9_9
      have h11_17 : act17.eval (.tmp 11) = .bool q11 := (T.rest 11 (by kernel_rfl)).trans h11_9
      have h15_17 : act17.eval (.tmp 15) = (vs.getD k undef) := (T.rest 15 (by kernel_rfl)).trans h15_9
      have h16_17 : act17.eval (.tmp 16) = .int .i64 (((ps.getD k []).length : Nat) : Int) := (T.rest 16 (by kernel_rfl)).trans h16_9
      have h17_17 : act17.eval (.tmp 17) = .int .i64 (j : Nat) := (T.rest 17 (by kernel_rfl)).trans h17_9
      have h18_17 : act17.eval (.tmp 18) = .bool q18 := (T.rest 18 (by kernel_rfl)).trans h18_9
      have kbt_17 := (T.below.block _ lbt_9).trans kbt_9
      have lbt_17 := Nat.lt_of_lt_of_le lbt_9 T.below.size
      have Fpp_17 := Eng.Reads.below Fpp_9 T.below
      have Fbb_17 := Eng.Reads.below Fbb_9 T.below
      have Finn_17 := Eng.Reads.below Finn_9 T.below
      have h10_17 : act17.eval (.tmp 10) = .int .i64 (IntKind.i64.wrap ((k : Nat) + 1)) := T.done 1 10 rfl rfl
      have d17 := T.defers.trans d9
      have s17 := T.size.trans s9
      have bl17 := bl9.trans (T.below.mono bl9.size)
      have J17 := hK _ _ _ J9 T.below
      clear T
      refine Eng.tail_nil ?_
      exact ⟨_, by omega, k + 1, rfl, by omega, by rw [← Nfa.itemsTo_end, ← hje]; exact J17, d17, s17, bl17, h0_17, h1_17, h8_17, h9_17, (h10_17.trans (by first | rfl | (congr 1; rw [Eng.i64_id (by omega) (by omega)]; omega) | (simp; done))), kbt_17, lbt_17⟩
  ·
    have kn18 := hq
    have c11 := Bq11.symm.trans hq
    clear hq
    have c11 := of_decide_eq_false c11
    refine wp_exit ?_
    first | show Code.wp Tryd.prog _ _ _ _ | skip
    obtain rfl : k = ps.length := by omega
    show bodyPost Tryd.prog Tryd.f116 (fun e W' => (∃ v, e = .returned v) ∧ K (Nfa.items ps bs) W') .normal act3 w3
    exact Eng.ret0 rfl d3 fun v => ⟨⟨v, rfl⟩, by rw [← Nfa.itemsTo_all]; exact J3⟩
end Go.Proofs.YthgafcaoibfchaaDoor.X
end
