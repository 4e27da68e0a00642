/- Words and walks that the row of LatticeOrder needs: printed by programs, and plain laws. -/
import Derived.Test.YthgafcaoibfchaaDoorM4
import Derived.Deep.DrawnRows
namespace Go.Proofs.YthgafcaoibfchaaDoor.X
open Go.RowKit Go.Shelf Go.Proofs Go.Proofs.YthgafcaoibfchaaDoorW.PrintWords Go.Proofs.YthgafcaoibfchaaDoorW.PrintLast Go.Proofs.YthgafcaoibfchaaDoorW.PrintMore
set_option linter.unusedVariables false
set_option linter.unusedSimpArgs false
attribute [local go_sem] max2_int min2_int max_two min_two
attribute [local go_sem high] Lat.eqA30 Lat.eqA28
set_option maxHeartbeats 4000000 in
set_option maxRecDepth 100000 in
theorem Lor.walk (a0 a1 b0 b1 c0 c1 : Int) (w : World) (ha0 : 0 ≤ a1) (ha1 : a1 ≤ 18446744073709551615) (hb0 : 0 ≤ b1) (hb1 : b1 ≤ 18446744073709551615) : Calls Tryd.prog 5 #[.agg #[.int .i64 a0, .int .u64 a1], .agg #[.int .i64 b0, .int .u64 b1], .agg #[.int .i64 c0, .int .u64 c1]] w fun e w' => e = .returned (.bool true) ∧ Below w.heap.size w w' := by
  have hu30 := Tryd.underlying30
  have hu28 := Tryd.underlying28
  refine Eng.enter Tryd.func5 rfl fun act0 d0 s0 v0 => ?_
  have s0 : act0.tmps.size = 48 := s0
  have h0_0 : act0.eval (.tmp 0) = .agg #[.int .i64 a0, .int .u64 a1] := v0 0 (by simp)
  have h1_0 : act0.eval (.tmp 1) = .agg #[.int .i64 b0, .int .u64 b1] := v0 1 (by simp)
  have h2_0 : act0.eval (.tmp 2) = .agg #[.int .i64 c0, .int .u64 c1] := v0 2 (by simp)
  clear v0
  have bl0 : Below w.heap.size w w := Below.refl _ _
  refine wp_seq ?_
  refine Eng.regionS (Eng.still [fun v => True, fun v => True, fun v => True, fun v => v = .bool false]) (fun i => ([.alloc 28 #[.int .i64 a0, .int .u64 a1], .alloc 28 #[.int .i64 b0, .int .u64 b1], .alloc 28 #[.int .i64 c0, .int .u64 c1], .plain] : List Eng.Kind).getD i .plain) 4 0 48 s0 rfl (by kernel_rfl) (Eng.still_stable _) (Or.inr (Eng.still_any _)) ?_ ?_
  · refine Eng.Steps.cons (fun _ => ?_) (Eng.Steps.cons (fun _ => ?_) (Eng.Steps.cons (fun _ => ?_) (Eng.Steps.cons (fun _ => ?_) (Eng.Steps.nil))))
    · refine Eng.made rfl (by simp) rfl (fun a w' hd ho => ?_) (fun _ _ => trivial)
      exact Eng.run_box rfl ((ho 0 (by kernel_rfl)).trans h0_0)
    · refine Eng.made rfl (by simp) rfl (fun a w' hd ho => ?_) (fun _ _ => trivial)
      exact Eng.run_box rfl ((ho 1 (by kernel_rfl)).trans h1_0)
    · refine Eng.made rfl (by simp) rfl (fun a w' hd ho => ?_) (fun _ _ => trivial)
      exact Eng.run_box rfl ((ho 2 (by kernel_rfl)).trans h2_0)
    · refine Eng.plain rfl rfl fun a w' H => ?_
      exact Eng.val (w1 := w') (v := .bool false) (Eng.run_assign rfl (rfl : a.eval (.const (.bool false)) = .bool false)) (Below.refl _ _) rfl
  intro act1 w1 T
  have h0_1 : act1.eval (.tmp 0) = .agg #[.int .i64 a0, .int .u64 a1] := (T.rest 0 (by kernel_rfl)).trans h0_0
  have h1_1 : act1.eval (.tmp 1) = .agg #[.int .i64 b0, .int .u64 b1] := (T.rest 1 (by kernel_rfl)).trans h1_0
  have h2_1 : act1.eval (.tmp 2) = .agg #[.int .i64 c0, .int .u64 c1] := (T.rest 2 (by kernel_rfl)).trans h2_0
  obtain ⟨g3_1, h3_1, rg3_1, lg3_1_1, kg3_1_1⟩ := T.al 0 3 _ _ rfl rfl rfl (by kernel_rfl)
  have og3_1 : w.heap.size ≤ g3_1 := Nat.le_trans bl0.size rg3_1
  obtain ⟨g4_1, h4_1, rg4_1, lg4_1_1, kg4_1_1⟩ := T.al 1 4 _ _ rfl rfl rfl (by kernel_rfl)
  have og4_1 : w.heap.size ≤ g4_1 := Nat.le_trans bl0.size rg4_1
  obtain ⟨g5_1, h5_1, rg5_1, lg5_1_1, kg5_1_1⟩ := T.al 2 5 _ _ rfl rfl rfl (by kernel_rfl)
  have og5_1 : w.heap.size ≤ g5_1 := Nat.le_trans bl0.size rg5_1
  have h6_1 : act1.eval (.tmp 6) = .bool false := T.done 3 6 rfl rfl
  have d1 := T.defers.trans d0
  have s1 := T.size.trans s0
  have bl1 := bl0.trans (T.below.mono bl0.size)
  clear T
  refine Eng.tail_nil ?_
  show Code.wp Tryd.prog _ _ _ _
  refine wp_seq ?_
  refine wp_seq ?_
  obtain ⟨q10, Bq10⟩ : ∃ b : Bool, b = (true) := ⟨_, rfl⟩
  obtain ⟨q11, Bq11⟩ : ∃ b : Bool, b = (!q10) := ⟨_, rfl⟩
  refine Eng.regionS (Eng.still [fun v => v = .bool q10, fun v => v = .bool q11]) (fun i => ([.plain, .plain] : List Eng.Kind).getD i .plain) 2 0 48 s1 rfl (by kernel_rfl) (Eng.still_stable _) (Or.inr (Eng.still_any _)) ?_ ?_
  · refine Eng.Steps.cons (fun _ => ?_) (Eng.Steps.cons (fun _ => ?_) (Eng.Steps.nil))
    · refine Eng.plain rfl rfl fun a w' H => ?_
      refine Eng.call Tryd.func17 (by kernel_rfl) (by kernel_rfl) rfl #[] ?_ ?_
      · simp
      refine (Alv.calls _).mono ?_
      rintro e w'' ⟨rfl, hb⟩
      exact ⟨_, rfl, (by show _ = Value.bool q10; rw [Bq10]), hb⟩
    · refine Eng.plain rfl rfl fun a w' H => ?_
      exact Eng.val (w1 := w') (v := .bool (!q10)) (Eng.run_not rfl (H.dep 0 10 (by kernel_rfl) rfl)) (Below.refl _ _) (by show _ = Value.bool q11; rw [Bq11])
  intro act2 w2 T
  have h0_2 : act2.eval (.tmp 0) = .agg #[.int .i64 a0, .int .u64 a1] := (T.rest 0 (by kernel_rfl)).trans h0_1
  have h1_2 : act2.eval (.tmp 1) = .agg #[.int .i64 b0, .int .u64 b1] := (T.rest 1 (by kernel_rfl)).trans h1_1
  have h2_2 : act2.eval (.tmp 2) = .agg #[.int .i64 c0, .int .u64 c1] := (T.rest 2 (by kernel_rfl)).trans h2_1
  have h3_2 : act2.eval (.tmp 3) = .pointer (some ⟨g3_1, 0, none⟩) := (T.rest 3 (by kernel_rfl)).trans h3_1
  have h4_2 : act2.eval (.tmp 4) = .pointer (some ⟨g4_1, 0, none⟩) := (T.rest 4 (by kernel_rfl)).trans h4_1
  have h5_2 : act2.eval (.tmp 5) = .pointer (some ⟨g5_1, 0, none⟩) := (T.rest 5 (by kernel_rfl)).trans h5_1
  have h6_2 : act2.eval (.tmp 6) = .bool false := (T.rest 6 (by kernel_rfl)).trans h6_1
  have kg3_1_2 := (T.below.block _ lg3_1_1).trans kg3_1_1
  have lg3_1_2 := Nat.lt_of_lt_of_le lg3_1_1 T.below.size
  have kg4_1_2 := (T.below.block _ lg4_1_1).trans kg4_1_1
  have lg4_1_2 := Nat.lt_of_lt_of_le lg4_1_1 T.below.size
  have kg5_1_2 := (T.below.block _ lg5_1_1).trans kg5_1_1
  have lg5_1_2 := Nat.lt_of_lt_of_le lg5_1_1 T.below.size
  have h11_2 : act2.eval (.tmp 11) = .bool q11 := T.done 1 11 rfl rfl
  have d2 := T.defers.trans d1
  have s2 := T.size.trans s1
  have bl2 := bl1.trans (T.below.mono bl1.size)
  clear T
  refine Eng.tail_nil ?_
  show Code.wp Tryd.prog _ _ _ _
  have n11 : q11 = false := by
    simp only [Bq11, Bq10]
    rfl
  refine wp_cond_false (h11_2.trans (by rw [n11])) ?_
  refine wp_skip ?_
  show Code.wp Tryd.prog _ _ _ _
  refine wp_seq ?_
  refine Eng.regionD (Eng.still [fun v => v = .agg #[.int .i64 a0, .int .u64 a1], fun v => v = .agg #[.int .i64 b0, .int .u64 b1], fun v => v = .agg #[.int .i64 c0, .int .u64 c1], fun v => True, fun v => True, fun v => True, fun v => True, fun v => True, fun v => True]) (fun i => ([.plain, .plain, .plain, .alloc 30 #[.int .i64 0, .int .u64 0], .alloc 30 #[.int .i64 0, .int .u64 0], .alloc 30 #[.int .i64 0, .int .u64 0], .store 3 #[.int .i64 a0, .int .u64 a1], .store 4 #[.int .i64 b0, .int .u64 b1], .store 5 #[.int .i64 c0, .int .u64 c1]] : List Eng.Kind).getD i .plain) 9 0 48 (by kernel_rfl) s2 rfl (by kernel_rfl) (Eng.still_stable _) (Or.inr (Eng.still_any _)) ?_ ?_
  · refine Eng.Steps.cons (fun _ => ?_) (Eng.Steps.cons (fun _ => ?_) (Eng.Steps.cons (fun _ => ?_) (Eng.Steps.cons (fun _ => ?_) (Eng.Steps.cons (fun _ => ?_) (Eng.Steps.cons (fun _ => ?_) (Eng.Steps.cons (fun _ => ?_) (Eng.Steps.cons (fun _ => ?_) (Eng.Steps.cons (fun _ => ?_) (Eng.Steps.nil)))))))))
    · refine Eng.plain rfl rfl fun a w' H => ?_
      have kb := (H.below.block _ lg3_1_2).trans kg3_1_2
      have z0 : w'.cell? ⟨g3_1, 0, none⟩ = some (.int .i64 a0) := (Eng.cells kb 0).trans rfl
      have z1 : w'.cell? ⟨g3_1, 1, none⟩ = some (.int .u64 a1) := (Eng.cells kb 1).trans rfl
      refine Eng.val (w1 := w') (v := .agg #[.int .i64 a0, .int .u64 a1]) ?_ (Below.refl _ _) rfl
      have e0 : a.eval (.tmp 3) = .pointer (some ⟨g3_1, 0, none⟩) := ((H.kept 3 (by kernel_rfl)).trans h3_2)
      simp only [execOp, resolve, List.map_toArray, List.map_cons, List.map_nil, e0]
      go_simp
      all_goals first | rfl | (simp; done) | omega
    · refine Eng.plain rfl rfl fun a w' H => ?_
      have kb := (H.below.block _ lg4_1_2).trans kg4_1_2
      have z0 : w'.cell? ⟨g4_1, 0, none⟩ = some (.int .i64 b0) := (Eng.cells kb 0).trans rfl
      have z1 : w'.cell? ⟨g4_1, 1, none⟩ = some (.int .u64 b1) := (Eng.cells kb 1).trans rfl
      refine Eng.val (w1 := w') (v := .agg #[.int .i64 b0, .int .u64 b1]) ?_ (Below.refl _ _) rfl
      have e0 : a.eval (.tmp 4) = .pointer (some ⟨g4_1, 0, none⟩) := ((H.kept 4 (by kernel_rfl)).trans h4_2)
      simp only [execOp, resolve, List.map_toArray, List.map_cons, List.map_nil, e0]
      go_simp
      all_goals first | rfl | (simp; done) | omega
    · refine Eng.plain rfl rfl fun a w' H => ?_
      have kb := (H.below.block _ lg5_1_2).trans kg5_1_2
      have z0 : w'.cell? ⟨g5_1, 0, none⟩ = some (.int .i64 c0) := (Eng.cells kb 0).trans rfl
      have z1 : w'.cell? ⟨g5_1, 1, none⟩ = some (.int .u64 c1) := (Eng.cells kb 1).trans rfl
      refine Eng.val (w1 := w') (v := .agg #[.int .i64 c0, .int .u64 c1]) ?_ (Below.refl _ _) rfl
      have e0 : a.eval (.tmp 5) = .pointer (some ⟨g5_1, 0, none⟩) := ((H.kept 5 (by kernel_rfl)).trans h5_2)
      simp only [execOp, resolve, List.map_toArray, List.map_cons, List.map_nil, e0]
      go_simp
      all_goals first | rfl | (simp; done) | omega
    · refine Eng.made rfl (by simp) rfl (fun a w' hd ho => ?_) (fun _ _ => trivial)
      simp only [execOp]
      go_simp
    · refine Eng.made rfl (by simp) rfl (fun a w' hd ho => ?_) (fun _ _ => trivial)
      simp only [execOp]
      go_simp
    · refine Eng.made rfl (by simp) rfl (fun a w' hd ho => ?_) (fun _ _ => trivial)
      simp only [execOp]
      go_simp
    · refine Eng.stored [.int .i64 a0, .int .u64 a1] rfl rfl rfl (j := 3) (d := 7) (by kernel_rfl) rfl rfl (Eng.store_uniq (by kernel_rfl)) rfl rfl fun a w' g e hc hd ho => ?_
      have e0 : a.eval _ = .agg #[.int .i64 a0, .int .u64 a1] := (hd 0 12 (by kernel_rfl) rfl)
      have z0 := (Eng.cells hc 0).trans rfl
      have z1 := (Eng.cells hc 1).trans rfl
      have f0 := Eng.unfrozen hc 0
      have f1 := Eng.unfrozen hc 1
      simp only [execOp, e, e0]
      go_simp
      rfl
    · refine Eng.stored [.int .i64 b0, .int .u64 b1] rfl rfl rfl (j := 4) (d := 8) (by kernel_rfl) rfl rfl (Eng.store_uniq (by kernel_rfl)) rfl rfl fun a w' g e hc hd ho => ?_
      have e0 : a.eval _ = .agg #[.int .i64 b0, .int .u64 b1] := (hd 1 13 (by kernel_rfl) rfl)
      have z0 := (Eng.cells hc 0).trans rfl
      have z1 := (Eng.cells hc 1).trans rfl
      have f0 := Eng.unfrozen hc 0
      have f1 := Eng.unfrozen hc 1
      simp only [execOp, e, e0]
      go_simp
      rfl
    · refine Eng.stored [.int .i64 c0, .int .u64 c1] rfl rfl rfl (j := 5) (d := 9) (by kernel_rfl) rfl rfl (Eng.store_uniq (by kernel_rfl)) rfl rfl fun a w' g e hc hd ho => ?_
      have e0 : a.eval _ = .agg #[.int .i64 c0, .int .u64 c1] := (hd 2 14 (by kernel_rfl) rfl)
      have z0 := (Eng.cells hc 0).trans rfl
      have z1 := (Eng.cells hc 1).trans rfl
      have f0 := Eng.unfrozen hc 0
      have f1 := Eng.unfrozen hc 1
      simp only [execOp, e, e0]
      go_simp
      rfl
  intro act3 w3 T
  have h0_3 : act3.eval (.tmp 0) = .agg #[.int .i64 a0, .int .u64 a1] := (T.rest 0 (by kernel_rfl)).trans h0_2
  have h1_3 : act3.eval (.tmp 1) = .agg #[.int .i64 b0, .int .u64 b1] := (T.rest 1 (by kernel_rfl)).trans h1_2
  have h2_3 : act3.eval (.tmp 2) = .agg #[.int .i64 c0, .int .u64 c1] := (T.rest 2 (by kernel_rfl)).trans h2_2
  have h3_3 : act3.eval (.tmp 3) = .pointer (some ⟨g3_1, 0, none⟩) := (T.rest 3 (by kernel_rfl)).trans h3_2
  have h4_3 : act3.eval (.tmp 4) = .pointer (some ⟨g4_1, 0, none⟩) := (T.rest 4 (by kernel_rfl)).trans h4_2
  have h5_3 : act3.eval (.tmp 5) = .pointer (some ⟨g5_1, 0, none⟩) := (T.rest 5 (by kernel_rfl)).trans h5_2
  have h6_3 : act3.eval (.tmp 6) = .bool false := (T.rest 6 (by kernel_rfl)).trans h6_2
  have h11_3 : act3.eval (.tmp 11) = .bool q11 := (T.rest 11 (by kernel_rfl)).trans h11_2
  have kg3_1_3 := (T.below.block _ lg3_1_2).trans kg3_1_2
  have lg3_1_3 := Nat.lt_of_lt_of_le lg3_1_2 T.below.size
  have kg4_1_3 := (T.below.block _ lg4_1_2).trans kg4_1_2
  have lg4_1_3 := Nat.lt_of_lt_of_le lg4_1_2 T.below.size
  have kg5_1_3 := (T.below.block _ lg5_1_2).trans kg5_1_2
  have lg5_1_3 := Nat.lt_of_lt_of_le lg5_1_2 T.below.size
  obtain ⟨g7_3, h7_3, rg7_3, lg7_3_3, kg7_3_3⟩ := T.st 3 7 6 _ _ _ rfl rfl rfl rfl rfl
  have og7_3 : w.heap.size ≤ g7_3 := Nat.le_trans bl2.size rg7_3
  obtain ⟨g8_3, h8_3, rg8_3, lg8_3_3, kg8_3_3⟩ := T.st 4 8 7 _ _ _ rfl rfl rfl rfl rfl
  have og8_3 : w.heap.size ≤ g8_3 := Nat.le_trans bl2.size rg8_3
  obtain ⟨g9_3, h9_3, rg9_3, lg9_3_3, kg9_3_3⟩ := T.st 5 9 8 _ _ _ rfl rfl rfl rfl rfl
  have og9_3 : w.heap.size ≤ g9_3 := Nat.le_trans bl2.size rg9_3
  have d3 := T.defers.trans d2
  have s3 := T.size.trans s2
  have bl3 := bl2.trans (T.below.mono bl2.size)
  clear T
  refine Eng.tail_nil ?_
  show Code.wp Tryd.prog _ _ _ _
  refine wp_seq ?_
  refine wp_seq ?_
  obtain ⟨q17, Bq17⟩ : ∃ b : Bool, b = (Lat.ov a0 a1 a0 a1) := ⟨_, rfl⟩
  obtain ⟨q18, Bq18⟩ : ∃ b : Bool, b = (!q17) := ⟨_, rfl⟩
  obtain ⟨q22, Bq22⟩ : ∃ b : Bool, b = (Lat.ov a0 a1 b0 b1) := ⟨_, rfl⟩
  obtain ⟨q26, Bq26⟩ : ∃ b : Bool, b = (Lat.ov b0 b1 a0 a1) := ⟨_, rfl⟩
  obtain ⟨q27, Bq27⟩ : ∃ b : Bool, b = (q22 && q26) := ⟨_, rfl⟩
  obtain ⟨q30, Bq30⟩ : ∃ b : Bool, b = (a0 == b0 && (a1 == b1)) := ⟨_, rfl⟩
  obtain ⟨q31, Bq31⟩ : ∃ b : Bool, b = (!(q27 == q30)) := ⟨_, rfl⟩
  obtain ⟨q32, Bq32⟩ : ∃ b : Bool, b = (q18 || q31) := ⟨_, rfl⟩
  refine Eng.regionD (Eng.still [fun v => v = .agg #[.int .i64 a0, .int .u64 a1], fun v => v = .agg #[.int .i64 a0, .int .u64 a1], fun v => v = .bool q17, fun v => v = .bool q18, fun v => v = .bool q18, fun v => v = bif (q18 == false) then (.agg #[.int .i64 a0, .int .u64 a1]) else undef, fun v => v = bif (q18 == false) then (.agg #[.int .i64 b0, .int .u64 b1]) else undef, fun v => v = bif (q18 == false) then (.bool q22) else undef, fun v => v = bif (q18 == false) then (.bool q22) else undef, fun v => v = bif ((q18 == false) && (q22 == true)) then (.agg #[.int .i64 b0, .int .u64 b1]) else undef, fun v => v = bif ((q18 == false) && (q22 == true)) then (.agg #[.int .i64 a0, .int .u64 a1]) else undef, fun v => v = bif ((q18 == false) && (q22 == true)) then (.bool q26) else undef, fun v => v = bif (q18 == false) then (.bool q27) else undef, fun v => v = bif (q18 == false) then (.agg #[.int .i64 a0, .int .u64 a1]) else undef, fun v => v = bif (q18 == false) then (.agg #[.int .i64 b0, .int .u64 b1]) else undef, fun v => v = bif (q18 == false) then (.bool q30) else undef, fun v => v = bif (q18 == false) then (.bool q31) else undef, fun v => v = .bool q32]) (fun i => ([.plain, .plain, .plain, .plain, .plain, .plain, .plain, .plain, .plain, .plain, .plain, .plain, .plain, .plain, .plain, .plain, .plain, .plain] : List Eng.Kind).getD i .plain) 18 0 48 (by kernel_rfl) s3 rfl (by kernel_rfl) (Eng.still_stable _) (Or.inr (Eng.still_any _)) ?_ ?_
  · refine Eng.Steps.cons (fun _ => ?_) (Eng.Steps.cons (fun _ => ?_) (Eng.Steps.cons (fun _ => ?_) (Eng.Steps.cons (fun _ => ?_) (Eng.Steps.cons (fun _ => ?_) (Eng.Steps.cons (fun _ => ?_) (Eng.Steps.cons (fun _ => ?_) (Eng.Steps.cons (fun _ => ?_) (Eng.Steps.cons (fun _ => ?_) (Eng.Steps.cons (fun _ => ?_) (Eng.Steps.cons (fun _ => ?_) (Eng.Steps.cons (fun _ => ?_) (Eng.Steps.cons (fun _ => ?_) (Eng.Steps.cons (fun _ => ?_) (Eng.Steps.cons (fun _ => ?_) (Eng.Steps.cons (fun _ => ?_) (Eng.Steps.cons (fun _ => ?_) (Eng.Steps.cons (fun _ => ?_) (Eng.Steps.nil))))))))))))))))))
    · refine Eng.plain rfl rfl fun a w' H => ?_
      have kb := (H.below.block _ lg7_3_3).trans kg7_3_3
      have z0 : w'.cell? ⟨g7_3, 0, none⟩ = some (.int .i64 a0) := (Eng.cells kb 0).trans rfl
      have z1 : w'.cell? ⟨g7_3, 1, none⟩ = some (.int .u64 a1) := (Eng.cells kb 1).trans rfl
      refine Eng.val (w1 := w') (v := .agg #[.int .i64 a0, .int .u64 a1]) ?_ (Below.refl _ _) rfl
      have e0 : a.eval (.tmp 7) = .pointer (some ⟨g7_3, 0, none⟩) := ((H.kept 7 (by kernel_rfl)).trans h7_3)
      simp only [execOp, resolve, List.map_toArray, List.map_cons, List.map_nil, e0]
      go_simp
      all_goals first | rfl | (simp; done) | omega
    · refine Eng.plain rfl rfl fun a w' H => ?_
      have kb := (H.below.block _ lg7_3_3).trans kg7_3_3
      have z0 : w'.cell? ⟨g7_3, 0, none⟩ = some (.int .i64 a0) := (Eng.cells kb 0).trans rfl
      have z1 : w'.cell? ⟨g7_3, 1, none⟩ = some (.int .u64 a1) := (Eng.cells kb 1).trans rfl
      refine Eng.val (w1 := w') (v := .agg #[.int .i64 a0, .int .u64 a1]) ?_ (Below.refl _ _) rfl
      have e0 : a.eval (.tmp 7) = .pointer (some ⟨g7_3, 0, none⟩) := ((H.kept 7 (by kernel_rfl)).trans h7_3)
      simp only [execOp, resolve, List.map_toArray, List.map_cons, List.map_nil, e0]
      go_simp
      all_goals first | rfl | (simp; done) | omega
    · refine Eng.plain rfl rfl fun a w' H => ?_
      refine Eng.call Tryd.func22 (by kernel_rfl) (by kernel_rfl) rfl #[.agg #[.int .i64 a0, .int .u64 a1], .agg #[.int .i64 a0, .int .u64 a1]] ?_ ?_
      · have e0 : a.eval (.tmp 15) = .agg #[.int .i64 a0, .int .u64 a1] := (H.dep 0 15 (by kernel_rfl) rfl); have e1 : a.eval (.tmp 16) = .agg #[.int .i64 a0, .int .u64 a1] := (H.dep 1 16 (by kernel_rfl) rfl); simp only [List.map_toArray, List.map_cons, List.map_nil, e0, e1]
      refine (lattice_Over.calls a0 a1 a0 a1 (Lat.ov a0 a1 a0 a1) _ (Lat.over a0 a1 a0 a1)).mono ?_
      rintro e w'' ⟨rfl, hb⟩
      exact ⟨_, rfl, (by show _ = Value.bool q17; rw [Bq17]), hb⟩
    · refine Eng.plain rfl rfl fun a w' H => ?_
      exact Eng.val (w1 := w') (v := .bool (!q17)) (Eng.run_not rfl (H.dep 2 17 (by kernel_rfl) rfl)) (Below.refl _ _) (by show _ = Value.bool q18; rw [Bq18])
    · refine Eng.plain rfl rfl fun a w' H => ?_
      exact Eng.val (w1 := w') (v := .bool q18) (Eng.run_move rfl (H.dep 3 18 (by kernel_rfl) rfl)) (Below.refl _ _) rfl
    · refine Eng.guarded1 (j := 4) (d := 19) (b := q18) rfl rfl (by kernel_rfl) rfl (fun v w h => h) (fun hG w => Eng.off hG) fun hG a w' H => ?_
      have kb := (H.below.block _ lg7_3_3).trans kg7_3_3
      have z0 : w'.cell? ⟨g7_3, 0, none⟩ = some (.int .i64 a0) := (Eng.cells kb 0).trans rfl
      have z1 : w'.cell? ⟨g7_3, 1, none⟩ = some (.int .u64 a1) := (Eng.cells kb 1).trans rfl
      refine Eng.val (w1 := w') (v := .agg #[.int .i64 a0, .int .u64 a1]) ?_ (Below.refl _ _) (Eng.off' hG rfl)
      have e0 : a.eval (.tmp 7) = .pointer (some ⟨g7_3, 0, none⟩) := ((H.kept 7 (by kernel_rfl)).trans h7_3)
      simp only [execOp, resolve, List.map_toArray, List.map_cons, List.map_nil, e0]
      go_simp
      all_goals first | rfl | (simp; done) | omega
    · refine Eng.guarded1 (j := 4) (d := 19) (b := q18) rfl rfl (by kernel_rfl) rfl (fun v w h => h) (fun hG w => Eng.off hG) fun hG a w' H => ?_
      have kb := (H.below.block _ lg8_3_3).trans kg8_3_3
      have z0 : w'.cell? ⟨g8_3, 0, none⟩ = some (.int .i64 b0) := (Eng.cells kb 0).trans rfl
      have z1 : w'.cell? ⟨g8_3, 1, none⟩ = some (.int .u64 b1) := (Eng.cells kb 1).trans rfl
      refine Eng.val (w1 := w') (v := .agg #[.int .i64 b0, .int .u64 b1]) ?_ (Below.refl _ _) (Eng.off' hG rfl)
      have e0 : a.eval (.tmp 8) = .pointer (some ⟨g8_3, 0, none⟩) := ((H.kept 8 (by kernel_rfl)).trans h8_3)
      simp only [execOp, resolve, List.map_toArray, List.map_cons, List.map_nil, e0]
      go_simp
      all_goals first | rfl | (simp; done) | omega
    · refine Eng.guarded1 (j := 4) (d := 19) (b := q18) rfl rfl (by kernel_rfl) rfl (fun v w h => h) (fun hG w => Eng.off hG) fun hG a w' H => ?_
      refine Eng.call Tryd.func22 (by kernel_rfl) (by kernel_rfl) rfl #[.agg #[.int .i64 a0, .int .u64 a1], .agg #[.int .i64 b0, .int .u64 b1]] ?_ ?_
      · have e0 : a.eval (.tmp 20) = .agg #[.int .i64 a0, .int .u64 a1] := (Eng.on (H.dep 5 20 (by kernel_rfl) rfl) hG); have e1 : a.eval (.tmp 21) = .agg #[.int .i64 b0, .int .u64 b1] := (Eng.on (H.dep 6 21 (by kernel_rfl) rfl) hG); simp only [List.map_toArray, List.map_cons, List.map_nil, e0, e1]
      refine (lattice_Over.calls a0 a1 b0 b1 (Lat.ov a0 a1 b0 b1) _ (Lat.over a0 a1 b0 b1)).mono ?_
      rintro e w'' ⟨rfl, hb⟩
      exact ⟨_, rfl, (Eng.off' hG (by rw [Bq22])), hb⟩
    · refine Eng.guarded1 (j := 4) (d := 19) (b := q18) rfl rfl (by kernel_rfl) rfl (fun v w h => h) (fun hG w => Eng.off hG) fun hG a w' H => ?_
      exact Eng.val (w1 := w') (v := .bool q22) (Eng.run_move rfl (Eng.on (H.dep 7 22 (by kernel_rfl) rfl) hG)) (Below.refl _ _) (Eng.off' hG rfl)
    · refine Eng.guarded (j := 8) (d := 23) (b := q22) (G := (q18 == false)) rfl rfl (by kernel_rfl) rfl (fun v w h => h) (fun hG w => Eng.off hG) fun hG a w' H => ?_
      have kb := (H.below.block _ lg8_3_3).trans kg8_3_3
      have z0 : w'.cell? ⟨g8_3, 0, none⟩ = some (.int .i64 b0) := (Eng.cells kb 0).trans rfl
      have z1 : w'.cell? ⟨g8_3, 1, none⟩ = some (.int .u64 b1) := (Eng.cells kb 1).trans rfl
      refine Eng.val (w1 := w') (v := .agg #[.int .i64 b0, .int .u64 b1]) ?_ (Below.refl _ _) (Eng.off' hG rfl)
      have e0 : a.eval (.tmp 8) = .pointer (some ⟨g8_3, 0, none⟩) := ((H.kept 8 (by kernel_rfl)).trans h8_3)
      simp only [execOp, resolve, List.map_toArray, List.map_cons, List.map_nil, e0]
      go_simp
      all_goals first | rfl | (simp; done) | omega
    · refine Eng.guarded (j := 8) (d := 23) (b := q22) (G := (q18 == false)) rfl rfl (by kernel_rfl) rfl (fun v w h => h) (fun hG w => Eng.off hG) fun hG a w' H => ?_
      have kb := (H.below.block _ lg7_3_3).trans kg7_3_3
      have z0 : w'.cell? ⟨g7_3, 0, none⟩ = some (.int .i64 a0) := (Eng.cells kb 0).trans rfl
      have z1 : w'.cell? ⟨g7_3, 1, none⟩ = some (.int .u64 a1) := (Eng.cells kb 1).trans rfl
      refine Eng.val (w1 := w') (v := .agg #[.int .i64 a0, .int .u64 a1]) ?_ (Below.refl _ _) (Eng.off' hG rfl)
      have e0 : a.eval (.tmp 7) = .pointer (some ⟨g7_3, 0, none⟩) := ((H.kept 7 (by kernel_rfl)).trans h7_3)
      simp only [execOp, resolve, List.map_toArray, List.map_cons, List.map_nil, e0]
      go_simp
      all_goals first | rfl | (simp; done) | omega
    · refine Eng.guarded (j := 8) (d := 23) (b := q22) (G := (q18 == false)) rfl rfl (by kernel_rfl) rfl (fun v w h => h) (fun hG w => Eng.off hG) fun hG a w' H => ?_
      refine Eng.call Tryd.func22 (by kernel_rfl) (by kernel_rfl) rfl #[.agg #[.int .i64 b0, .int .u64 b1], .agg #[.int .i64 a0, .int .u64 a1]] ?_ ?_
      · have e0 : a.eval (.tmp 24) = .agg #[.int .i64 b0, .int .u64 b1] := (Eng.on (H.dep 9 24 (by kernel_rfl) rfl) hG); have e1 : a.eval (.tmp 25) = .agg #[.int .i64 a0, .int .u64 a1] := (Eng.on (H.dep 10 25 (by kernel_rfl) rfl) hG); simp only [List.map_toArray, List.map_cons, List.map_nil, e0, e1]
      refine (lattice_Over.calls b0 b1 a0 a1 (Lat.ov b0 b1 a0 a1) _ (Lat.over b0 b1 a0 a1)).mono ?_
      rintro e w'' ⟨rfl, hb⟩
      exact ⟨_, rfl, (Eng.off' hG (by rw [Bq26])), hb⟩
    · refine Eng.guarded1 (j := 4) (d := 19) (b := q18) rfl rfl (by kernel_rfl) rfl (fun v w h => h) (fun hG w => Eng.off hG) fun hG a w' H => ?_
      exact Eng.val (w1 := w') (v := .bool (q22 && q26)) (Eng.run_and rfl rfl (G := true) (Eng.on (H.dep 8 23 (by kernel_rfl) rfl) hG) (fun hb => (Eng.on (H.dep 11 26 (by kernel_rfl) rfl) (Eng.mk2 (Eng.mk1 (Eng.one2 hG)) hb)))) (Below.refl _ _) (Eng.off' hG (by rw [Bq27]))
    · refine Eng.guarded1 (j := 4) (d := 19) (b := q18) rfl rfl (by kernel_rfl) rfl (fun v w h => h) (fun hG w => Eng.off hG) fun hG a w' H => ?_
      have kb := (H.below.block _ lg7_3_3).trans kg7_3_3
      have z0 : w'.cell? ⟨g7_3, 0, none⟩ = some (.int .i64 a0) := (Eng.cells kb 0).trans rfl
      have z1 : w'.cell? ⟨g7_3, 1, none⟩ = some (.int .u64 a1) := (Eng.cells kb 1).trans rfl
      refine Eng.val (w1 := w') (v := .agg #[.int .i64 a0, .int .u64 a1]) ?_ (Below.refl _ _) (Eng.off' hG rfl)
      have e0 : a.eval (.tmp 7) = .pointer (some ⟨g7_3, 0, none⟩) := ((H.kept 7 (by kernel_rfl)).trans h7_3)
      simp only [execOp, resolve, List.map_toArray, List.map_cons, List.map_nil, e0]
      go_simp
      all_goals first | rfl | (simp; done) | omega
    · refine Eng.guarded1 (j := 4) (d := 19) (b := q18) rfl rfl (by kernel_rfl) rfl (fun v w h => h) (fun hG w => Eng.off hG) fun hG a w' H => ?_
      have kb := (H.below.block _ lg8_3_3).trans kg8_3_3
      have z0 : w'.cell? ⟨g8_3, 0, none⟩ = some (.int .i64 b0) := (Eng.cells kb 0).trans rfl
      have z1 : w'.cell? ⟨g8_3, 1, none⟩ = some (.int .u64 b1) := (Eng.cells kb 1).trans rfl
      refine Eng.val (w1 := w') (v := .agg #[.int .i64 b0, .int .u64 b1]) ?_ (Below.refl _ _) (Eng.off' hG rfl)
      have e0 : a.eval (.tmp 8) = .pointer (some ⟨g8_3, 0, none⟩) := ((H.kept 8 (by kernel_rfl)).trans h8_3)
      simp only [execOp, resolve, List.map_toArray, List.map_cons, List.map_nil, e0]
      go_simp
      all_goals first | rfl | (simp; done) | omega
    · refine Eng.guarded1 (j := 4) (d := 19) (b := q18) rfl rfl (by kernel_rfl) rfl (fun v w h => h) (fun hG w => Eng.off hG) fun hG a w' H => ?_
      refine Eng.val (w1 := w') (v := .bool (a0 == b0 && (a1 == b1))) ?_ (Below.refl _ _) (Eng.off' hG (by rw [Bq30]))
      have e0 : a.eval (.tmp 28) = .agg #[.int .i64 a0, .int .u64 a1] := (Eng.on (H.dep 13 28 (by kernel_rfl) rfl) hG)
      have e1 : a.eval (.tmp 29) = .agg #[.int .i64 b0, .int .u64 b1] := (Eng.on (H.dep 14 29 (by kernel_rfl) rfl) hG)
      simp only [execOp, resolve, List.map_toArray, List.map_cons, List.map_nil, e0, e1]
      go_simp
      all_goals first | rfl | (simp; done) | omega
    · refine Eng.guarded1 (j := 4) (d := 19) (b := q18) rfl rfl (by kernel_rfl) rfl (fun v w h => h) (fun hG w => Eng.off hG) fun hG a w' H => ?_
      refine Eng.val (w1 := w') (v := .bool (!(q27 == q30))) ?_ (Below.refl _ _) (Eng.off' hG (by rw [Bq31]))
      have e0 : a.eval (.tmp 27) = .bool q27 := (Eng.on (H.dep 12 27 (by kernel_rfl) rfl) hG)
      have e1 : a.eval (.tmp 30) = .bool q30 := (Eng.on (H.dep 15 30 (by kernel_rfl) rfl) hG)
      simp only [execOp, resolve, List.map_toArray, List.map_cons, List.map_nil, e0, e1]
      go_simp
      all_goals first | rfl | (simp; done) | omega
    · refine Eng.plain rfl rfl fun a w' H => ?_
      exact Eng.val (w1 := w') (v := .bool (q18 || q31)) (Eng.run_or rfl rfl (G := true) (H.dep 4 19 (by kernel_rfl) rfl) (fun hb => (Eng.on (H.dep 16 31 (by kernel_rfl) rfl) (Eng.mk1 hb)))) (Below.refl _ _) (by show _ = Value.bool q32; rw [Bq32])
  intro act4 w4 T
  have h0_4 : act4.eval (.tmp 0) = .agg #[.int .i64 a0, .int .u64 a1] := (T.rest 0 (by kernel_rfl)).trans h0_3
  have h1_4 : act4.eval (.tmp 1) = .agg #[.int .i64 b0, .int .u64 b1] := (T.rest 1 (by kernel_rfl)).trans h1_3
  have h2_4 : act4.eval (.tmp 2) = .agg #[.int .i64 c0, .int .u64 c1] := (T.rest 2 (by kernel_rfl)).trans h2_3
  have h3_4 : act4.eval (.tmp 3) = .pointer (some ⟨g3_1, 0, none⟩) := (T.rest 3 (by kernel_rfl)).trans h3_3
  have h4_4 : act4.eval (.tmp 4) = .pointer (some ⟨g4_1, 0, none⟩) := (T.rest 4 (by kernel_rfl)).trans h4_3
  have h5_4 : act4.eval (.tmp 5) = .pointer (some ⟨g5_1, 0, none⟩) := (T.rest 5 (by kernel_rfl)).trans h5_3
  have h6_4 : act4.eval (.tmp 6) = .bool false := (T.rest 6 (by kernel_rfl)).trans h6_3
  have h7_4 : act4.eval (.tmp 7) = .pointer (some ⟨g7_3, 0, none⟩) := (T.rest 7 (by kernel_rfl)).trans h7_3
  have h8_4 : act4.eval (.tmp 8) = .pointer (some ⟨g8_3, 0, none⟩) := (T.rest 8 (by kernel_rfl)).trans h8_3
  have h9_4 : act4.eval (.tmp 9) = .pointer (some ⟨g9_3, 0, none⟩) := (T.rest 9 (by kernel_rfl)).trans h9_3
  have h11_4 : act4.eval (.tmp 11) = .bool q11 := (T.rest 11 (by kernel_rfl)).trans h11_3
  have kg3_1_4 := (T.below.block _ lg3_1_3).trans kg3_1_3
  have lg3_1_4 := Nat.lt_of_lt_of_le lg3_1_3 T.below.size
  have kg4_1_4 := (T.below.block _ lg4_1_3).trans kg4_1_3
  have lg4_1_4 := Nat.lt_of_lt_of_le lg4_1_3 T.below.size
  have kg5_1_4 := (T.below.block _ lg5_1_3).trans kg5_1_3
  have lg5_1_4 := Nat.lt_of_lt_of_le lg5_1_3 T.below.size
  have kg7_3_4 := (T.below.block _ lg7_3_3).trans kg7_3_3
  have lg7_3_4 := Nat.lt_of_lt_of_le lg7_3_3 T.below.size
  have kg8_3_4 := (T.below.block _ lg8_3_3).trans kg8_3_3
  have lg8_3_4 := Nat.lt_of_lt_of_le lg8_3_3 T.below.size
  have kg9_3_4 := (T.below.block _ lg9_3_3).trans kg9_3_3
  have lg9_3_4 := Nat.lt_of_lt_of_le lg9_3_3 T.below.size
  have h32_4 : act4.eval (.tmp 32) = .bool q32 := T.done 17 32 rfl rfl
  have d4 := T.defers.trans d3
  have s4 := T.size.trans s3
  have bl4 := bl3.trans (T.below.mono bl3.size)
  clear T
  refine Eng.tail_nil ?_
  show Code.wp Tryd.prog _ _ _ _
  have n32 : q32 = false := by
    simp only [Bq32, Bq31, Bq30, Bq27, Bq26, Bq22, Bq18, Bq17, Bq11, Bq10]
    exact Lat.order_no ha0 ha1 hb0 hb1
  refine wp_cond_false (h32_4.trans (by rw [n32])) ?_
  refine wp_skip ?_
  show Code.wp Tryd.prog _ _ _ _
  refine wp_seq ?_
  obtain ⟨q35, Bq35⟩ : ∃ b : Bool, b = (Lat.ov a0 a1 b0 b1) := ⟨_, rfl⟩
  obtain ⟨q36, Bq36⟩ : ∃ b : Bool, b = (!q35) := ⟨_, rfl⟩
  obtain ⟨q40, Bq40⟩ : ∃ b : Bool, b = (Lat.ov b0 b1 c0 c1) := ⟨_, rfl⟩
  obtain ⟨q41, Bq41⟩ : ∃ b : Bool, b = (!q40) := ⟨_, rfl⟩
  obtain ⟨q42, Bq42⟩ : ∃ b : Bool, b = (q36 || q41) := ⟨_, rfl⟩
  obtain ⟨q46, Bq46⟩ : ∃ b : Bool, b = (Lat.ov a0 a1 c0 c1) := ⟨_, rfl⟩
  obtain ⟨q47, Bq47⟩ : ∃ b : Bool, b = (q42 || q46) := ⟨_, rfl⟩
  refine Eng.regionS (Eng.still [fun v => v = .agg #[.int .i64 a0, .int .u64 a1], fun v => v = .agg #[.int .i64 b0, .int .u64 b1], fun v => v = .bool q35, fun v => v = .bool q36, fun v => v = .bool q36, fun v => v = bif (q36 == false) then (.agg #[.int .i64 b0, .int .u64 b1]) else undef, fun v => v = bif (q36 == false) then (.agg #[.int .i64 c0, .int .u64 c1]) else undef, fun v => v = bif (q36 == false) then (.bool q40) else undef, fun v => v = bif (q36 == false) then (.bool q41) else undef, fun v => v = .bool q42, fun v => v = .bool q42, fun v => v = bif (q42 == false) then (.agg #[.int .i64 a0, .int .u64 a1]) else undef, fun v => v = bif (q42 == false) then (.agg #[.int .i64 c0, .int .u64 c1]) else undef, fun v => v = bif (q42 == false) then (.bool q46) else undef, fun v => v = .bool q47, fun v => v = .bool q47]) (fun i => ([.plain, .plain, .plain, .plain, .plain, .plain, .plain, .plain, .plain, .plain, .plain, .plain, .plain, .plain, .plain, .plain] : List Eng.Kind).getD i .plain) 16 0 48 s4 rfl (by kernel_rfl) (Eng.still_stable _) (Or.inr (Eng.still_any _)) ?_ ?_
  · refine Eng.Steps.cons (fun _ => ?_) (Eng.Steps.cons (fun _ => ?_) (Eng.Steps.cons (fun _ => ?_) (Eng.Steps.cons (fun _ => ?_) (Eng.Steps.cons (fun _ => ?_) (Eng.Steps.cons (fun _ => ?_) (Eng.Steps.cons (fun _ => ?_) (Eng.Steps.cons (fun _ => ?_) (Eng.Steps.cons (fun _ => ?_) (Eng.Steps.cons (fun _ => ?_) (Eng.Steps.cons (fun _ => ?_) (Eng.Steps.cons (fun _ => ?_) (Eng.Steps.cons (fun _ => ?_) (Eng.Steps.cons (fun _ => ?_) (Eng.Steps.cons (fun _ => ?_) (Eng.Steps.cons (fun _ => ?_) (Eng.Steps.nil))))))))))))))))
    · refine Eng.plain rfl rfl fun a w' H => ?_
      have kb := (H.below.block _ lg7_3_4).trans kg7_3_4
      have z0 : w'.cell? ⟨g7_3, 0, none⟩ = some (.int .i64 a0) := (Eng.cells kb 0).trans rfl
      have z1 : w'.cell? ⟨g7_3, 1, none⟩ = some (.int .u64 a1) := (Eng.cells kb 1).trans rfl
      refine Eng.val (w1 := w') (v := .agg #[.int .i64 a0, .int .u64 a1]) ?_ (Below.refl _ _) rfl
      have e0 : a.eval (.tmp 7) = .pointer (some ⟨g7_3, 0, none⟩) := ((H.kept 7 (by kernel_rfl)).trans h7_4)
      simp only [execOp, resolve, List.map_toArray, List.map_cons, List.map_nil, e0]
      go_simp
      all_goals first | rfl | (simp; done) | omega
    · refine Eng.plain rfl rfl fun a w' H => ?_
      have kb := (H.below.block _ lg8_3_4).trans kg8_3_4
      have z0 : w'.cell? ⟨g8_3, 0, none⟩ = some (.int .i64 b0) := (Eng.cells kb 0).trans rfl
      have z1 : w'.cell? ⟨g8_3, 1, none⟩ = some (.int .u64 b1) := (Eng.cells kb 1).trans rfl
      refine Eng.val (w1 := w') (v := .agg #[.int .i64 b0, .int .u64 b1]) ?_ (Below.refl _ _) rfl
      have e0 : a.eval (.tmp 8) = .pointer (some ⟨g8_3, 0, none⟩) := ((H.kept 8 (by kernel_rfl)).trans h8_4)
      simp only [execOp, resolve, List.map_toArray, List.map_cons, List.map_nil, e0]
      go_simp
      all_goals first | rfl | (simp; done) | omega
    · refine Eng.plain rfl rfl fun a w' H => ?_
      refine Eng.call Tryd.func22 (by kernel_rfl) (by kernel_rfl) rfl #[.agg #[.int .i64 a0, .int .u64 a1], .agg #[.int .i64 b0, .int .u64 b1]] ?_ ?_
      · have e0 : a.eval (.tmp 33) = .agg #[.int .i64 a0, .int .u64 a1] := (H.dep 0 33 (by kernel_rfl) rfl); have e1 : a.eval (.tmp 34) = .agg #[.int .i64 b0, .int .u64 b1] := (H.dep 1 34 (by kernel_rfl) rfl); simp only [List.map_toArray, List.map_cons, List.map_nil, e0, e1]
      refine (lattice_Over.calls a0 a1 b0 b1 (Lat.ov a0 a1 b0 b1) _ (Lat.over a0 a1 b0 b1)).mono ?_
      rintro e w'' ⟨rfl, hb⟩
      exact ⟨_, rfl, (by show _ = Value.bool q35; rw [Bq35]), hb⟩
    · refine Eng.plain rfl rfl fun a w' H => ?_
      exact Eng.val (w1 := w') (v := .bool (!q35)) (Eng.run_not rfl (H.dep 2 35 (by kernel_rfl) rfl)) (Below.refl _ _) (by show _ = Value.bool q36; rw [Bq36])
    · refine Eng.plain rfl rfl fun a w' H => ?_
      exact Eng.val (w1 := w') (v := .bool q36) (Eng.run_move rfl (H.dep 3 36 (by kernel_rfl) rfl)) (Below.refl _ _) rfl
    · refine Eng.guarded1 (j := 4) (d := 37) (b := q36) rfl rfl (by kernel_rfl) rfl (fun v w h => h) (fun hG w => Eng.off hG) fun hG a w' H => ?_
      have kb := (H.below.block _ lg8_3_4).trans kg8_3_4
      have z0 : w'.cell? ⟨g8_3, 0, none⟩ = some (.int .i64 b0) := (Eng.cells kb 0).trans rfl
      have z1 : w'.cell? ⟨g8_3, 1, none⟩ = some (.int .u64 b1) := (Eng.cells kb 1).trans rfl
      refine Eng.val (w1 := w') (v := .agg #[.int .i64 b0, .int .u64 b1]) ?_ (Below.refl _ _) (Eng.off' hG rfl)
      have e0 : a.eval (.tmp 8) = .pointer (some ⟨g8_3, 0, none⟩) := ((H.kept 8 (by kernel_rfl)).trans h8_4)
      simp only [execOp, resolve, List.map_toArray, List.map_cons, List.map_nil, e0]
      go_simp
      all_goals first | rfl | (simp; done) | omega
    · refine Eng.guarded1 (j := 4) (d := 37) (b := q36) rfl rfl (by kernel_rfl) rfl (fun v w h => h) (fun hG w => Eng.off hG) fun hG a w' H => ?_
      have kb := (H.below.block _ lg9_3_4).trans kg9_3_4
      have z0 : w'.cell? ⟨g9_3, 0, none⟩ = some (.int .i64 c0) := (Eng.cells kb 0).trans rfl
      have z1 : w'.cell? ⟨g9_3, 1, none⟩ = some (.int .u64 c1) := (Eng.cells kb 1).trans rfl
      refine Eng.val (w1 := w') (v := .agg #[.int .i64 c0, .int .u64 c1]) ?_ (Below.refl _ _) (Eng.off' hG rfl)
      have e0 : a.eval (.tmp 9) = .pointer (some ⟨g9_3, 0, none⟩) := ((H.kept 9 (by kernel_rfl)).trans h9_4)
      simp only [execOp, resolve, List.map_toArray, List.map_cons, List.map_nil, e0]
      go_simp
      all_goals first | rfl | (simp; done) | omega
    · refine Eng.guarded1 (j := 4) (d := 37) (b := q36) rfl rfl (by kernel_rfl) rfl (fun v w h => h) (fun hG w => Eng.off hG) fun hG a w' H => ?_
      refine Eng.call Tryd.func22 (by kernel_rfl) (by kernel_rfl) rfl #[.agg #[.int .i64 b0, .int .u64 b1], .agg #[.int .i64 c0, .int .u64 c1]] ?_ ?_
      · have e0 : a.eval (.tmp 38) = .agg #[.int .i64 b0, .int .u64 b1] := (Eng.on (H.dep 5 38 (by kernel_rfl) rfl) hG); have e1 : a.eval (.tmp 39) = .agg #[.int .i64 c0, .int .u64 c1] := (Eng.on (H.dep 6 39 (by kernel_rfl) rfl) hG); simp only [List.map_toArray, List.map_cons, List.map_nil, e0, e1]
      refine (lattice_Over.calls b0 b1 c0 c1 (Lat.ov b0 b1 c0 c1) _ (Lat.over b0 b1 c0 c1)).mono ?_
      rintro e w'' ⟨rfl, hb⟩
      exact ⟨_, rfl, (Eng.off' hG (by rw [Bq40])), hb⟩
    · refine Eng.guarded1 (j := 4) (d := 37) (b := q36) rfl rfl (by kernel_rfl) rfl (fun v w h => h) (fun hG w => Eng.off hG) fun hG a w' H => ?_
      exact Eng.val (w1 := w') (v := .bool (!q40)) (Eng.run_not rfl (Eng.on (H.dep 7 40 (by kernel_rfl) rfl) hG)) (Below.refl _ _) (Eng.off' hG (by rw [Bq41]))
    · refine Eng.plain rfl rfl fun a w' H => ?_
      exact Eng.val (w1 := w') (v := .bool (q36 || q41)) (Eng.run_or rfl rfl (G := true) (H.dep 4 37 (by kernel_rfl) rfl) (fun hb => (Eng.on (H.dep 8 41 (by kernel_rfl) rfl) (Eng.mk1 hb)))) (Below.refl _ _) (by show _ = Value.bool q42; rw [Bq42])
    · refine Eng.plain rfl rfl fun a w' H => ?_
      exact Eng.val (w1 := w') (v := .bool q42) (Eng.run_move rfl (H.dep 9 42 (by kernel_rfl) rfl)) (Below.refl _ _) rfl
    · refine Eng.guarded1 (j := 10) (d := 43) (b := q42) rfl rfl (by kernel_rfl) rfl (fun v w h => h) (fun hG w => Eng.off hG) fun hG a w' H => ?_
      have kb := (H.below.block _ lg7_3_4).trans kg7_3_4
      have z0 : w'.cell? ⟨g7_3, 0, none⟩ = some (.int .i64 a0) := (Eng.cells kb 0).trans rfl
      have z1 : w'.cell? ⟨g7_3, 1, none⟩ = some (.int .u64 a1) := (Eng.cells kb 1).trans rfl
      refine Eng.val (w1 := w') (v := .agg #[.int .i64 a0, .int .u64 a1]) ?_ (Below.refl _ _) (Eng.off' hG rfl)
      have e0 : a.eval (.tmp 7) = .pointer (some ⟨g7_3, 0, none⟩) := ((H.kept 7 (by kernel_rfl)).trans h7_4)
      simp only [execOp, resolve, List.map_toArray, List.map_cons, List.map_nil, e0]
      go_simp
      all_goals first | rfl | (simp; done) | omega
    · refine Eng.guarded1 (j := 10) (d := 43) (b := q42) rfl rfl (by kernel_rfl) rfl (fun v w h => h) (fun hG w => Eng.off hG) fun hG a w' H => ?_
      have kb := (H.below.block _ lg9_3_4).trans kg9_3_4
      have z0 : w'.cell? ⟨g9_3, 0, none⟩ = some (.int .i64 c0) := (Eng.cells kb 0).trans rfl
      have z1 : w'.cell? ⟨g9_3, 1, none⟩ = some (.int .u64 c1) := (Eng.cells kb 1).trans rfl
      refine Eng.val (w1 := w') (v := .agg #[.int .i64 c0, .int .u64 c1]) ?_ (Below.refl _ _) (Eng.off' hG rfl)
      have e0 : a.eval (.tmp 9) = .pointer (some ⟨g9_3, 0, none⟩) := ((H.kept 9 (by kernel_rfl)).trans h9_4)
      simp only [execOp, resolve, List.map_toArray, List.map_cons, List.map_nil, e0]
      go_simp
      all_goals first | rfl | (simp; done) | omega
    · refine Eng.guarded1 (j := 10) (d := 43) (b := q42) rfl rfl (by kernel_rfl) rfl (fun v w h => h) (fun hG w => Eng.off hG) fun hG a w' H => ?_
      refine Eng.call Tryd.func22 (by kernel_rfl) (by kernel_rfl) rfl #[.agg #[.int .i64 a0, .int .u64 a1], .agg #[.int .i64 c0, .int .u64 c1]] ?_ ?_
      · have e0 : a.eval (.tmp 44) = .agg #[.int .i64 a0, .int .u64 a1] := (Eng.on (H.dep 11 44 (by kernel_rfl) rfl) hG); have e1 : a.eval (.tmp 45) = .agg #[.int .i64 c0, .int .u64 c1] := (Eng.on (H.dep 12 45 (by kernel_rfl) rfl) hG); simp only [List.map_toArray, List.map_cons, List.map_nil, e0, e1]
      refine (lattice_Over.calls a0 a1 c0 c1 (Lat.ov a0 a1 c0 c1) _ (Lat.over a0 a1 c0 c1)).mono ?_
      rintro e w'' ⟨rfl, hb⟩
      exact ⟨_, rfl, (Eng.off' hG (by rw [Bq46])), hb⟩
    · refine Eng.plain rfl rfl fun a w' H => ?_
      exact Eng.val (w1 := w') (v := .bool (q42 || q46)) (Eng.run_or rfl rfl (G := true) (H.dep 10 43 (by kernel_rfl) rfl) (fun hb => (Eng.on (H.dep 13 46 (by kernel_rfl) rfl) (Eng.mk1 hb)))) (Below.refl _ _) (by show _ = Value.bool q47; rw [Bq47])
    · refine Eng.plain rfl rfl fun a w' H => ?_
      exact Eng.val (w1 := w') (v := .bool q47) (Eng.run_assign rfl (H.dep 14 47 (by kernel_rfl) rfl)) (Below.refl _ _) rfl
  intro act5 w5 T
  have h0_5 : act5.eval (.tmp 0) = .agg #[.int .i64 a0, .int .u64 a1] := (T.rest 0 (by kernel_rfl)).trans h0_4
  have h1_5 : act5.eval (.tmp 1) = .agg #[.int .i64 b0, .int .u64 b1] := (T.rest 1 (by kernel_rfl)).trans h1_4
  have h2_5 : act5.eval (.tmp 2) = .agg #[.int .i64 c0, .int .u64 c1] := (T.rest 2 (by kernel_rfl)).trans h2_4
  have h3_5 : act5.eval (.tmp 3) = .pointer (some ⟨g3_1, 0, none⟩) := (T.rest 3 (by kernel_rfl)).trans h3_4
  have h4_5 : act5.eval (.tmp 4) = .pointer (some ⟨g4_1, 0, none⟩) := (T.rest 4 (by kernel_rfl)).trans h4_4
  have h5_5 : act5.eval (.tmp 5) = .pointer (some ⟨g5_1, 0, none⟩) := (T.rest 5 (by kernel_rfl)).trans h5_4
  have h7_5 : act5.eval (.tmp 7) = .pointer (some ⟨g7_3, 0, none⟩) := (T.rest 7 (by kernel_rfl)).trans h7_4
  have h8_5 : act5.eval (.tmp 8) = .pointer (some ⟨g8_3, 0, none⟩) := (T.rest 8 (by kernel_rfl)).trans h8_4
  have h9_5 : act5.eval (.tmp 9) = .pointer (some ⟨g9_3, 0, none⟩) := (T.rest 9 (by kernel_rfl)).trans h9_4
  have h11_5 : act5.eval (.tmp 11) = .bool q11 := (T.rest 11 (by kernel_rfl)).trans h11_4
  have h32_5 : act5.eval (.tmp 32) = .bool q32 := (T.rest 32 (by kernel_rfl)).trans h32_4
  have kg3_1_5 := (T.below.block _ lg3_1_4).trans kg3_1_4
  have lg3_1_5 := Nat.lt_of_lt_of_le lg3_1_4 T.below.size
  have kg4_1_5 := (T.below.block _ lg4_1_4).trans kg4_1_4
  have lg4_1_5 := Nat.lt_of_lt_of_le lg4_1_4 T.below.size
  have kg5_1_5 := (T.below.block _ lg5_1_4).trans kg5_1_4
  have lg5_1_5 := Nat.lt_of_lt_of_le lg5_1_4 T.below.size
  have kg7_3_5 := (T.below.block _ lg7_3_4).trans kg7_3_4
  have lg7_3_5 := Nat.lt_of_lt_of_le lg7_3_4 T.below.size
  have kg8_3_5 := (T.below.block _ lg8_3_4).trans kg8_3_4
  have lg8_3_5 := Nat.lt_of_lt_of_le lg8_3_4 T.below.size
  have kg9_3_5 := (T.below.block _ lg9_3_4).trans kg9_3_4
  have lg9_3_5 := Nat.lt_of_lt_of_le lg9_3_4 T.below.size
  have h6_5 : act5.eval (.tmp 6) = .bool q47 := T.done 15 6 rfl rfl
  have d5 := T.defers.trans d4
  have s5 := T.size.trans s4
  have bl5 := bl4.trans (T.below.mono bl4.size)
  clear T
  refine Eng.tail_nil ?_
  show Code.wp Tryd.prog _ _ _ _
  refine wp_ret ?_
  have fin : q47 = true := by
    simp only [Bq47, Bq46, Bq42, Bq41, Bq40, Bq36, Bq35, Bq32, Bq31, Bq30, Bq27, Bq26, Bq22, Bq18, Bq17, Bq11, Bq10]
    exact Lat.order_yes a0 a1 b0 b1 c0 c1
  exact Eng.ret1 rfl d5 (h6_5.trans (by rw [fin])) ⟨rfl, bl5⟩
end Go.Proofs.YthgafcaoibfchaaDoor.X
