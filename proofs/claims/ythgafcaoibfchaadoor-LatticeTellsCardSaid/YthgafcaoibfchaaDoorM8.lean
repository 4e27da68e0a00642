/- Words and walks that the row of LatticeTells needs: printed by programs, and plain laws. -/
import Derived.Test.YthgafcaoibfchaaDoorM4
import Derived.Test.YthgafcaoibfchaaDoorM5
import Derived.Deep.DrawnRows
import Derived.Test.YthgafcaoibfchaaDoorM6
import Derived.Test.YthgafcaoibfchaaDoorM7
namespace Go.Proofs.YthgafcaoibfchaaDoor.X
open Go.RowKit Go.Shelf Go.Proofs Go.Proofs.YthgafcaoibfchaaDoorW.PrintWords Go.Proofs.YthgafcaoibfchaaDoorW.PrintLast Go.Proofs.YthgafcaoibfchaaDoorW.PrintMore
set_option linter.unusedVariables false
set_option linter.unusedSimpArgs false
attribute [local go_sem] max2_int min2_int max_two min_two
attribute [local go_sem high] Lat.eqA30 Lat.eqA28
set_option maxHeartbeats 4000000 in
set_option maxRecDepth 100000 in
theorem Lte.walk (a0 a1 b0 b1 c0 c1 : Int) (w : World) (ha0 : 0 ≤ a1) (ha1 : a1 ≤ 18446744073709551615) (hb0 : 0 ≤ b1) (hb1 : b1 ≤ 18446744073709551615) : Calls Tryd.prog 4 #[.agg #[.int .i64 a0, .int .u64 a1], .agg #[.int .i64 b0, .int .u64 b1], .agg #[.int .i64 c0, .int .i64 c1]] w fun e w' => e = .returned (.bool true) ∧ Below w.heap.size w w' := by
  have hu30 := Tryd.underlying30
  have hu28 := Tryd.underlying28
  have hu29 := Tryd.underlying29
  refine Eng.enter Tryd.func4 rfl fun act0 d0 s0 v0 => ?_
  have s0 : act0.tmps.size = 53 := s0
  have h0_0 : act0.eval (.tmp 0) = .agg #[.int .i64 a0, .int .u64 a1] := v0 0 (by simp)
  have h1_0 : act0.eval (.tmp 1) = .agg #[.int .i64 b0, .int .u64 b1] := v0 1 (by simp)
  have h2_0 : act0.eval (.tmp 2) = .agg #[.int .i64 c0, .int .i64 c1] := v0 2 (by simp)
  clear v0
  have bl0 : Below w.heap.size w w := Below.refl _ _
  refine wp_seq ?_
  refine Eng.regionS (Eng.still [fun v => True, fun v => True, fun v => True, fun v => v = .bool false]) (fun i => ([.alloc 28 #[.int .i64 a0, .int .u64 a1], .alloc 28 #[.int .i64 b0, .int .u64 b1], .alloc 29 #[.int .i64 c0, .int .i64 c1], .plain] : List Eng.Kind).getD i .plain) 4 0 53 s0 rfl (by kernel_rfl) (Eng.still_stable _) (Or.inr (Eng.still_any _)) ?_ ?_
  · refine Eng.Steps.cons (fun _ => ?_) (Eng.Steps.cons (fun _ => ?_) (Eng.Steps.cons (fun _ => ?_) (Eng.Steps.cons (fun _ => ?_) (Eng.Steps.nil))))
    · refine Eng.made rfl (by simp) rfl (fun a w' hd ho => ?_) (fun _ _ => trivial)
      exact Eng.run_box rfl ((ho 0 (by kernel_rfl)).trans h0_0)
    · refine Eng.made rfl (by simp) rfl (fun a w' hd ho => ?_) (fun _ _ => trivial)
      exact Eng.run_box rfl ((ho 1 (by kernel_rfl)).trans h1_0)
    · refine Eng.made rfl (by simp) rfl (fun a w' hd ho => ?_) (fun _ _ => trivial)
      exact Eng.run_box rfl ((ho 2 (by kernel_rfl)).trans h2_0)
    · refine Eng.plain rfl rfl fun a w' H => ?_
      exact Eng.val (w1 := w') (v := .bool false) (Eng.run_assign rfl (rfl : a.eval (.const (.bool false)) = .bool false)) (Below.refl _ _) rfl
  intro act1 w1 T
  have h0_1 : act1.eval (.tmp 0) = .agg #[.int .i64 a0, .int .u64 a1] := (T.rest 0 (by kernel_rfl)).trans h0_0
  have h1_1 : act1.eval (.tmp 1) = .agg #[.int .i64 b0, .int .u64 b1] := (T.rest 1 (by kernel_rfl)).trans h1_0
  have h2_1 : act1.eval (.tmp 2) = .agg #[.int .i64 c0, .int .i64 c1] := (T.rest 2 (by kernel_rfl)).trans h2_0
  obtain ⟨g3_1, h3_1, rg3_1, lg3_1_1, kg3_1_1⟩ := T.al 0 3 _ _ rfl rfl rfl (by kernel_rfl)
  have og3_1 : w.heap.size ≤ g3_1 := Nat.le_trans bl0.size rg3_1
  obtain ⟨g4_1, h4_1, rg4_1, lg4_1_1, kg4_1_1⟩ := T.al 1 4 _ _ rfl rfl rfl (by kernel_rfl)
  have og4_1 : w.heap.size ≤ g4_1 := Nat.le_trans bl0.size rg4_1
  obtain ⟨g5_1, h5_1, rg5_1, lg5_1_1, kg5_1_1⟩ := T.al 2 5 _ _ rfl rfl rfl (by kernel_rfl)
  have og5_1 : w.heap.size ≤ g5_1 := Nat.le_trans bl0.size rg5_1
  have h6_1 : act1.eval (.tmp 6) = .bool false := T.done 3 6 rfl rfl
  have d1 := T.defers.trans d0
  have s1 := T.size.trans s0
  have bl1 := bl0.trans (T.below.mono bl0.size)
  clear T
  refine Eng.tail_nil ?_
  show Code.wp Tryd.prog _ _ _ _
  refine wp_seq ?_
  refine wp_seq ?_
  obtain ⟨q9, Bq9⟩ : ∃ b : Bool, b = (true) := ⟨_, rfl⟩
  obtain ⟨q10, Bq10⟩ : ∃ b : Bool, b = (!q9) := ⟨_, rfl⟩
  refine Eng.regionS (Eng.still [fun v => v = .bool q9, fun v => v = .bool q10]) (fun i => ([.plain, .plain] : List Eng.Kind).getD i .plain) 2 0 53 s1 rfl (by kernel_rfl) (Eng.still_stable _) (Or.inr (Eng.still_any _)) ?_ ?_
  · refine Eng.Steps.cons (fun _ => ?_) (Eng.Steps.cons (fun _ => ?_) (Eng.Steps.nil))
    · refine Eng.plain rfl rfl fun a w' H => ?_
      refine Eng.call Tryd.func17 (by kernel_rfl) (by kernel_rfl) rfl #[] ?_ ?_
      · simp
      refine (Alv.calls _).mono ?_
      rintro e w'' ⟨rfl, hb⟩
      exact ⟨_, rfl, (by show _ = Value.bool q9; rw [Bq9]), hb⟩
    · refine Eng.plain rfl rfl fun a w' H => ?_
      exact Eng.val (w1 := w') (v := .bool (!q9)) (Eng.run_not rfl (H.dep 0 9 (by kernel_rfl) rfl)) (Below.refl _ _) (by show _ = Value.bool q10; rw [Bq10])
  intro act2 w2 T
  have h0_2 : act2.eval (.tmp 0) = .agg #[.int .i64 a0, .int .u64 a1] := (T.rest 0 (by kernel_rfl)).trans h0_1
  have h1_2 : act2.eval (.tmp 1) = .agg #[.int .i64 b0, .int .u64 b1] := (T.rest 1 (by kernel_rfl)).trans h1_1
  have h2_2 : act2.eval (.tmp 2) = .agg #[.int .i64 c0, .int .i64 c1] := (T.rest 2 (by kernel_rfl)).trans h2_1
  have h3_2 : act2.eval (.tmp 3) = .pointer (some ⟨g3_1, 0, none⟩) := (T.rest 3 (by kernel_rfl)).trans h3_1
  have h4_2 : act2.eval (.tmp 4) = .pointer (some ⟨g4_1, 0, none⟩) := (T.rest 4 (by kernel_rfl)).trans h4_1
  have h5_2 : act2.eval (.tmp 5) = .pointer (some ⟨g5_1, 0, none⟩) := (T.rest 5 (by kernel_rfl)).trans h5_1
  have h6_2 : act2.eval (.tmp 6) = .bool false := (T.rest 6 (by kernel_rfl)).trans h6_1
  have kg3_1_2 := (T.below.block _ lg3_1_1).trans kg3_1_1
  have lg3_1_2 := Nat.lt_of_lt_of_le lg3_1_1 T.below.size
  have kg4_1_2 := (T.below.block _ lg4_1_1).trans kg4_1_1
  have lg4_1_2 := Nat.lt_of_lt_of_le lg4_1_1 T.below.size
  have kg5_1_2 := (T.below.block _ lg5_1_1).trans kg5_1_1
  have lg5_1_2 := Nat.lt_of_lt_of_le lg5_1_1 T.below.size
  have h10_2 : act2.eval (.tmp 10) = .bool q10 := T.done 1 10 rfl rfl
  have d2 := T.defers.trans d1
  have s2 := T.size.trans s1
  have bl2 := bl1.trans (T.below.mono bl1.size)
  clear T
  refine Eng.tail_nil ?_
  show Code.wp Tryd.prog _ _ _ _
  have n10 : q10 = false := by
    simp only [Bq10, Bq9]
    rfl
  refine wp_cond_false (h10_2.trans (by rw [n10])) ?_
  refine wp_skip ?_
  show Code.wp Tryd.prog _ _ _ _
  refine wp_seq ?_
  refine Eng.regionD (Eng.still [fun v => v = .agg #[.int .i64 a0, .int .u64 a1], fun v => v = .agg #[.int .i64 b0, .int .u64 b1], fun v => True, fun v => True, fun v => True, fun v => True]) (fun i => ([.plain, .plain, .alloc 30 #[.int .i64 0, .int .u64 0], .alloc 30 #[.int .i64 0, .int .u64 0], .store 2 #[.int .i64 a0, .int .u64 a1], .store 3 #[.int .i64 b0, .int .u64 b1]] : List Eng.Kind).getD i .plain) 6 0 53 (by kernel_rfl) s2 rfl (by kernel_rfl) (Eng.still_stable _) (Or.inr (Eng.still_any _)) ?_ ?_
  · refine Eng.Steps.cons (fun _ => ?_) (Eng.Steps.cons (fun _ => ?_) (Eng.Steps.cons (fun _ => ?_) (Eng.Steps.cons (fun _ => ?_) (Eng.Steps.cons (fun _ => ?_) (Eng.Steps.cons (fun _ => ?_) (Eng.Steps.nil))))))
    · refine Eng.plain rfl rfl fun a w' H => ?_
      have kb := (H.below.block _ lg3_1_2).trans kg3_1_2
      have z0 : w'.cell? ⟨g3_1, 0, none⟩ = some (.int .i64 a0) := (Eng.cells kb 0).trans rfl
      have z1 : w'.cell? ⟨g3_1, 1, none⟩ = some (.int .u64 a1) := (Eng.cells kb 1).trans rfl
      refine Eng.val (w1 := w') (v := .agg #[.int .i64 a0, .int .u64 a1]) ?_ (Below.refl _ _) rfl
      have e0 : a.eval (.tmp 3) = .pointer (some ⟨g3_1, 0, none⟩) := ((H.kept 3 (by kernel_rfl)).trans h3_2)
      simp only [execOp, resolve, List.map_toArray, List.map_cons, List.map_nil, e0]
      go_simp
      all_goals first | rfl | (simp; done) | omega
    · refine Eng.plain rfl rfl fun a w' H => ?_
      have kb := (H.below.block _ lg4_1_2).trans kg4_1_2
      have z0 : w'.cell? ⟨g4_1, 0, none⟩ = some (.int .i64 b0) := (Eng.cells kb 0).trans rfl
      have z1 : w'.cell? ⟨g4_1, 1, none⟩ = some (.int .u64 b1) := (Eng.cells kb 1).trans rfl
      refine Eng.val (w1 := w') (v := .agg #[.int .i64 b0, .int .u64 b1]) ?_ (Below.refl _ _) rfl
      have e0 : a.eval (.tmp 4) = .pointer (some ⟨g4_1, 0, none⟩) := ((H.kept 4 (by kernel_rfl)).trans h4_2)
      simp only [execOp, resolve, List.map_toArray, List.map_cons, List.map_nil, e0]
      go_simp
      all_goals first | rfl | (simp; done) | omega
    · refine Eng.made rfl (by simp) rfl (fun a w' hd ho => ?_) (fun _ _ => trivial)
      simp only [execOp]
      go_simp
    · refine Eng.made rfl (by simp) rfl (fun a w' hd ho => ?_) (fun _ _ => trivial)
      simp only [execOp]
      go_simp
    · refine Eng.stored [.int .i64 a0, .int .u64 a1] rfl rfl rfl (j := 2) (d := 7) (by kernel_rfl) rfl rfl (Eng.store_uniq (by kernel_rfl)) rfl rfl fun a w' g e hc hd ho => ?_
      have e0 : a.eval _ = .agg #[.int .i64 a0, .int .u64 a1] := (hd 0 11 (by kernel_rfl) rfl)
      have z0 := (Eng.cells hc 0).trans rfl
      have z1 := (Eng.cells hc 1).trans rfl
      have f0 := Eng.unfrozen hc 0
      have f1 := Eng.unfrozen hc 1
      simp only [execOp, e, e0]
      go_simp
      rfl
    · refine Eng.stored [.int .i64 b0, .int .u64 b1] rfl rfl rfl (j := 3) (d := 8) (by kernel_rfl) rfl rfl (Eng.store_uniq (by kernel_rfl)) rfl rfl fun a w' g e hc hd ho => ?_
      have e0 : a.eval _ = .agg #[.int .i64 b0, .int .u64 b1] := (hd 1 12 (by kernel_rfl) rfl)
      have z0 := (Eng.cells hc 0).trans rfl
      have z1 := (Eng.cells hc 1).trans rfl
      have f0 := Eng.unfrozen hc 0
      have f1 := Eng.unfrozen hc 1
      simp only [execOp, e, e0]
      go_simp
      rfl
  intro act3 w3 T
  have h0_3 : act3.eval (.tmp 0) = .agg #[.int .i64 a0, .int .u64 a1] := (T.rest 0 (by kernel_rfl)).trans h0_2
  have h1_3 : act3.eval (.tmp 1) = .agg #[.int .i64 b0, .int .u64 b1] := (T.rest 1 (by kernel_rfl)).trans h1_2
  have h2_3 : act3.eval (.tmp 2) = .agg #[.int .i64 c0, .int .i64 c1] := (T.rest 2 (by kernel_rfl)).trans h2_2
  have h3_3 : act3.eval (.tmp 3) = .pointer (some ⟨g3_1, 0, none⟩) := (T.rest 3 (by kernel_rfl)).trans h3_2
  have h4_3 : act3.eval (.tmp 4) = .pointer (some ⟨g4_1, 0, none⟩) := (T.rest 4 (by kernel_rfl)).trans h4_2
  have h5_3 : act3.eval (.tmp 5) = .pointer (some ⟨g5_1, 0, none⟩) := (T.rest 5 (by kernel_rfl)).trans h5_2
  have h6_3 : act3.eval (.tmp 6) = .bool false := (T.rest 6 (by kernel_rfl)).trans h6_2
  have h10_3 : act3.eval (.tmp 10) = .bool q10 := (T.rest 10 (by kernel_rfl)).trans h10_2
  have kg3_1_3 := (T.below.block _ lg3_1_2).trans kg3_1_2
  have lg3_1_3 := Nat.lt_of_lt_of_le lg3_1_2 T.below.size
  have kg4_1_3 := (T.below.block _ lg4_1_2).trans kg4_1_2
  have lg4_1_3 := Nat.lt_of_lt_of_le lg4_1_2 T.below.size
  have kg5_1_3 := (T.below.block _ lg5_1_2).trans kg5_1_2
  have lg5_1_3 := Nat.lt_of_lt_of_le lg5_1_2 T.below.size
  obtain ⟨g7_3, h7_3, rg7_3, lg7_3_3, kg7_3_3⟩ := T.st 2 7 4 _ _ _ rfl rfl rfl rfl rfl
  have og7_3 : w.heap.size ≤ g7_3 := Nat.le_trans bl2.size rg7_3
  obtain ⟨g8_3, h8_3, rg8_3, lg8_3_3, kg8_3_3⟩ := T.st 3 8 5 _ _ _ rfl rfl rfl rfl rfl
  have og8_3 : w.heap.size ≤ g8_3 := Nat.le_trans bl2.size rg8_3
  have d3 := T.defers.trans d2
  have s3 := T.size.trans s2
  have bl3 := bl2.trans (T.below.mono bl2.size)
  clear T
  refine Eng.tail_nil ?_
  show Code.wp Tryd.prog _ _ _ _
  refine wp_seq ?_
  obtain ⟨q19, Bq19⟩ : ∃ b : Bool, b = ((mx a0 b0) == (mx a0 b0) && ((Go.bits .or .u64 a1 b1) == (Go.bits .or .u64 a1 b1))) := ⟨_, rfl⟩
  obtain ⟨q27, Bq27⟩ : ∃ b : Bool, b = ((mn a0 b0) == (mn a0 b0) && ((Go.bits .and .u64 a1 b1) == (Go.bits .and .u64 a1 b1))) := ⟨_, rfl⟩
  obtain ⟨q28, Bq28⟩ : ∃ b : Bool, b = (q19 && q27) := ⟨_, rfl⟩
  obtain ⟨q32, Bq32⟩ : ∃ b : Bool, b = (Lat.ov a0 a1 b0 b1) := ⟨_, rfl⟩
  obtain ⟨q35, Bq35⟩ : ∃ b : Bool, b = (Lat.ov a0 a1 b0 b1) := ⟨_, rfl⟩
  obtain ⟨q36, Bq36⟩ : ∃ b : Bool, b = (q32 == q35) := ⟨_, rfl⟩
  obtain ⟨q37, Bq37⟩ : ∃ b : Bool, b = (q28 && q36) := ⟨_, rfl⟩
  obtain ⟨q44, Bq44⟩ : ∃ b : Bool, b = (Lat.rt a0 a1 c0 c1) := ⟨_, rfl⟩
  obtain ⟨q50, Bq50⟩ : ∃ b : Bool, b = (Lat.rt a0 a1 c0 c1) := ⟨_, rfl⟩
  obtain ⟨q51, Bq51⟩ : ∃ b : Bool, b = (q44 == q50) := ⟨_, rfl⟩
  obtain ⟨q52, Bq52⟩ : ∃ b : Bool, b = (q37 && q51) := ⟨_, rfl⟩
  refine Eng.regionD (Eng.still [fun v => v = .agg #[.int .i64 a0, .int .u64 a1], fun v => v = .agg #[.int .i64 b0, .int .u64 b1], fun v => v = .agg #[.int .i64 (mx a0 b0), .int .u64 (Go.bits .or .u64 a1 b1)], fun v => v = .agg #[.int .i64 a0, .int .u64 a1], fun v => v = .agg #[.int .i64 b0, .int .u64 b1], fun v => v = .agg #[.int .i64 (mx a0 b0), .int .u64 (Go.bits .or .u64 a1 b1)], fun v => v = .bool q19, fun v => v = .bool q19, fun v => v = bif (q19 == true) then (.agg #[.int .i64 a0, .int .u64 a1]) else undef, fun v => v = bif (q19 == true) then (.agg #[.int .i64 b0, .int .u64 b1]) else undef, fun v => v = bif (q19 == true) then (.agg #[.int .i64 (mn a0 b0), .int .u64 (Go.bits .and .u64 a1 b1)]) else undef, fun v => v = bif (q19 == true) then (.agg #[.int .i64 a0, .int .u64 a1]) else undef, fun v => v = bif (q19 == true) then (.agg #[.int .i64 b0, .int .u64 b1]) else undef, fun v => v = bif (q19 == true) then (.agg #[.int .i64 (mn a0 b0), .int .u64 (Go.bits .and .u64 a1 b1)]) else undef, fun v => v = bif (q19 == true) then (.bool q27) else undef, fun v => v = .bool q28, fun v => v = .bool q28, fun v => v = bif (q28 == true) then (.agg #[.int .i64 a0, .int .u64 a1]) else undef, fun v => v = bif (q28 == true) then (.agg #[.int .i64 b0, .int .u64 b1]) else undef, fun v => v = bif (q28 == true) then (.bool q32) else undef, fun v => v = bif (q28 == true) then (.agg #[.int .i64 a0, .int .u64 a1]) else undef, fun v => v = bif (q28 == true) then (.agg #[.int .i64 b0, .int .u64 b1]) else undef, fun v => v = bif (q28 == true) then (.bool q35) else undef, fun v => v = bif (q28 == true) then (.bool q36) else undef, fun v => v = .bool q37, fun v => v = .bool q37, fun v => v = bif (q37 == true) then (.agg #[.int .i64 a0, .int .u64 a1]) else undef, fun v => v = bif (q37 == true) then (.pointer (some ⟨g5_1, 0, none⟩)) else undef, fun v => v = bif (q37 == true) then (.int .i64 c0) else undef, fun v => v = bif (q37 == true) then (.pointer (some ⟨g5_1, 1, none⟩)) else undef, fun v => v = bif (q37 == true) then (.int .i64 c1) else undef, fun v => v = bif (q37 == true) then (.bool q44) else undef, fun v => v = bif (q37 == true) then (.agg #[.int .i64 a0, .int .u64 a1]) else undef, fun v => v = bif (q37 == true) then (.pointer (some ⟨g5_1, 0, none⟩)) else undef, fun v => v = bif (q37 == true) then (.int .i64 c0) else undef, fun v => v = bif (q37 == true) then (.pointer (some ⟨g5_1, 1, none⟩)) else undef, fun v => v = bif (q37 == true) then (.int .i64 c1) else undef, fun v => v = bif (q37 == true) then (.bool q50) else undef, fun v => v = bif (q37 == true) then (.bool q51) else undef, fun v => v = .bool q52, fun v => v = .bool q52]) (fun i => ([.plain, .plain, .plain, .plain, .plain, .plain, .plain, .plain, .plain, .plain, .plain, .plain, .plain, .plain, .plain, .plain, .plain, .plain, .plain, .plain, .plain, .plain, .plain, .plain, .plain, .plain, .plain, .plain, .plain, .plain, .plain, .plain, .plain, .plain, .plain, .plain, .plain, .plain, .plain, .plain, .plain] : List Eng.Kind).getD i .plain) 41 0 53 (by kernel_rfl) s3 rfl (by kernel_rfl) (Eng.still_stable _) (Or.inr (Eng.still_any _)) ?_ ?_
  · refine Eng.Steps.cons (fun _ => ?_) (Eng.Steps.cons (fun _ => ?_) (Eng.Steps.cons (fun _ => ?_) (Eng.Steps.cons (fun _ => ?_) (Eng.Steps.cons (fun _ => ?_) (Eng.Steps.cons (fun _ => ?_) (Eng.Steps.cons (fun _ => ?_) (Eng.Steps.cons (fun _ => ?_) (Eng.Steps.cons (fun _ => ?_) (Eng.Steps.cons (fun _ => ?_) (Eng.Steps.cons (fun _ => ?_) (Eng.Steps.cons (fun _ => ?_) (Eng.Steps.cons (fun _ => ?_) (Eng.Steps.cons (fun _ => ?_) (Eng.Steps.cons (fun _ => ?_) (Eng.Steps.cons (fun _ => ?_) (Eng.Steps.cons (fun _ => ?_) (Eng.Steps.cons (fun _ => ?_) (Eng.Steps.cons (fun _ => ?_) (Eng.Steps.cons (fun _ => ?_) (Eng.Steps.cons (fun _ => ?_) (Eng.Steps.cons (fun _ => ?_) (Eng.Steps.cons (fun _ => ?_) (Eng.Steps.cons (fun _ => ?_) (Eng.Steps.cons (fun _ => ?_) (Eng.Steps.cons (fun _ => ?_) (Eng.Steps.cons (fun _ => ?_) (Eng.Steps.cons (fun _ => ?_) (Eng.Steps.cons (fun _ => ?_) (Eng.Steps.cons (fun _ => ?_) (Eng.Steps.cons (fun _ => ?_) (Eng.Steps.cons (fun _ => ?_) (Eng.Steps.cons (fun _ => ?_) (Eng.Steps.cons (fun _ => ?_) (Eng.Steps.cons (fun _ => ?_) (Eng.Steps.cons (fun _ => ?_) (Eng.Steps.cons (fun _ => ?_) (Eng.Steps.cons (fun _ => ?_) (Eng.Steps.cons (fun _ => ?_) (Eng.Steps.cons (fun _ => ?_) (Eng.Steps.cons (fun _ => ?_) (Eng.Steps.nil)))))))))))))))))))))))))))))))))))))))))
    · refine Eng.plain rfl rfl fun a w' H => ?_
      have kb := (H.below.block _ lg7_3_3).trans kg7_3_3
      have z0 : w'.cell? ⟨g7_3, 0, none⟩ = some (.int .i64 a0) := (Eng.cells kb 0).trans rfl
      have z1 : w'.cell? ⟨g7_3, 1, none⟩ = some (.int .u64 a1) := (Eng.cells kb 1).trans rfl
      refine Eng.val (w1 := w') (v := .agg #[.int .i64 a0, .int .u64 a1]) ?_ (Below.refl _ _) rfl
      have e0 : a.eval (.tmp 7) = .pointer (some ⟨g7_3, 0, none⟩) := ((H.kept 7 (by kernel_rfl)).trans h7_3)
      simp only [execOp, resolve, List.map_toArray, List.map_cons, List.map_nil, e0]
      go_simp
      all_goals first | rfl | (simp; done) | omega
    · refine Eng.plain rfl rfl fun a w' H => ?_
      have kb := (H.below.block _ lg8_3_3).trans kg8_3_3
      have z0 : w'.cell? ⟨g8_3, 0, none⟩ = some (.int .i64 b0) := (Eng.cells kb 0).trans rfl
      have z1 : w'.cell? ⟨g8_3, 1, none⟩ = some (.int .u64 b1) := (Eng.cells kb 1).trans rfl
      refine Eng.val (w1 := w') (v := .agg #[.int .i64 b0, .int .u64 b1]) ?_ (Below.refl _ _) rfl
      have e0 : a.eval (.tmp 8) = .pointer (some ⟨g8_3, 0, none⟩) := ((H.kept 8 (by kernel_rfl)).trans h8_3)
      simp only [execOp, resolve, List.map_toArray, List.map_cons, List.map_nil, e0]
      go_simp
      all_goals first | rfl | (simp; done) | omega
    · refine Eng.plain rfl rfl fun a w' H => ?_
      refine Eng.call Tryd.func18 (by kernel_rfl) (by kernel_rfl) rfl #[.agg #[.int .i64 a0, .int .u64 a1], .agg #[.int .i64 b0, .int .u64 b1]] ?_ ?_
      · have e0 : a.eval (.tmp 13) = .agg #[.int .i64 a0, .int .u64 a1] := (H.dep 0 13 (by kernel_rfl) rfl); have e1 : a.eval (.tmp 14) = .agg #[.int .i64 b0, .int .u64 b1] := (H.dep 1 14 (by kernel_rfl) rfl); simp only [List.map_toArray, List.map_cons, List.map_nil, e0, e1]
      refine (lattice_Join.calls a0 a1 b0 b1 _ _ _ (Lat.join a0 a1 b0 b1)).mono ?_
      rintro e w'' ⟨rfl, hb⟩
      exact ⟨_, rfl, rfl, hb⟩
    · refine Eng.plain rfl rfl fun a w' H => ?_
      have kb := (H.below.block _ lg3_1_3).trans kg3_1_3
      have z0 : w'.cell? ⟨g3_1, 0, none⟩ = some (.int .i64 a0) := (Eng.cells kb 0).trans rfl
      have z1 : w'.cell? ⟨g3_1, 1, none⟩ = some (.int .u64 a1) := (Eng.cells kb 1).trans rfl
      refine Eng.val (w1 := w') (v := .agg #[.int .i64 a0, .int .u64 a1]) ?_ (Below.refl _ _) rfl
      have e0 : a.eval (.tmp 3) = .pointer (some ⟨g3_1, 0, none⟩) := ((H.kept 3 (by kernel_rfl)).trans h3_3)
      simp only [execOp, resolve, List.map_toArray, List.map_cons, List.map_nil, e0]
      go_simp
      all_goals first | rfl | (simp; done) | omega
    · refine Eng.plain rfl rfl fun a w' H => ?_
      have kb := (H.below.block _ lg4_1_3).trans kg4_1_3
      have z0 : w'.cell? ⟨g4_1, 0, none⟩ = some (.int .i64 b0) := (Eng.cells kb 0).trans rfl
      have z1 : w'.cell? ⟨g4_1, 1, none⟩ = some (.int .u64 b1) := (Eng.cells kb 1).trans rfl
      refine Eng.val (w1 := w') (v := .agg #[.int .i64 b0, .int .u64 b1]) ?_ (Below.refl _ _) rfl
      have e0 : a.eval (.tmp 4) = .pointer (some ⟨g4_1, 0, none⟩) := ((H.kept 4 (by kernel_rfl)).trans h4_3)
      simp only [execOp, resolve, List.map_toArray, List.map_cons, List.map_nil, e0]
      go_simp
      all_goals first | rfl | (simp; done) | omega
    · refine Eng.plain rfl rfl fun a w' H => ?_
      refine Eng.call Tryd.func19 (by kernel_rfl) (by kernel_rfl) rfl #[.agg #[.int .i64 a0, .int .u64 a1], .agg #[.int .i64 b0, .int .u64 b1]] ?_ ?_
      · have e0 : a.eval (.tmp 16) = .agg #[.int .i64 a0, .int .u64 a1] := (H.dep 3 16 (by kernel_rfl) rfl); have e1 : a.eval (.tmp 17) = .agg #[.int .i64 b0, .int .u64 b1] := (H.dep 4 17 (by kernel_rfl) rfl); simp only [List.map_toArray, List.map_cons, List.map_nil, e0, e1]
      refine (Lat.rjoin_calls a0 a1 b0 b1 _ (by omega) (by omega) (by omega) (by omega)).mono ?_
      rintro e w'' ⟨rfl, hb⟩
      exact ⟨_, rfl, rfl, hb⟩
    · refine Eng.plain rfl rfl fun a w' H => ?_
      refine Eng.val (w1 := w') (v := .bool ((mx a0 b0) == (mx a0 b0) && ((Go.bits .or .u64 a1 b1) == (Go.bits .or .u64 a1 b1)))) ?_ (Below.refl _ _) (by show _ = Value.bool q19; rw [Bq19])
      have e0 : a.eval (.tmp 15) = .agg #[.int .i64 (mx a0 b0), .int .u64 (Go.bits .or .u64 a1 b1)] := (H.dep 2 15 (by kernel_rfl) rfl)
      have e1 : a.eval (.tmp 18) = .agg #[.int .i64 (mx a0 b0), .int .u64 (Go.bits .or .u64 a1 b1)] := (H.dep 5 18 (by kernel_rfl) rfl)
      simp only [execOp, resolve, List.map_toArray, List.map_cons, List.map_nil, e0, e1]
      go_simp
      all_goals first | rfl | (simp; done) | omega
    · refine Eng.plain rfl rfl fun a w' H => ?_
      exact Eng.val (w1 := w') (v := .bool q19) (Eng.run_move rfl (H.dep 6 19 (by kernel_rfl) rfl)) (Below.refl _ _) rfl
    · refine Eng.guarded1 (j := 7) (d := 20) (b := q19) rfl rfl (by kernel_rfl) rfl (fun v w h => h) (fun hG w => Eng.off hG) fun hG a w' H => ?_
      have kb := (H.below.block _ lg7_3_3).trans kg7_3_3
      have z0 : w'.cell? ⟨g7_3, 0, none⟩ = some (.int .i64 a0) := (Eng.cells kb 0).trans rfl
      have z1 : w'.cell? ⟨g7_3, 1, none⟩ = some (.int .u64 a1) := (Eng.cells kb 1).trans rfl
      refine Eng.val (w1 := w') (v := .agg #[.int .i64 a0, .int .u64 a1]) ?_ (Below.refl _ _) (Eng.off' hG rfl)
      have e0 : a.eval (.tmp 7) = .pointer (some ⟨g7_3, 0, none⟩) := ((H.kept 7 (by kernel_rfl)).trans h7_3)
      simp only [execOp, resolve, List.map_toArray, List.map_cons, List.map_nil, e0]
      go_simp
      all_goals first | rfl | (simp; done) | omega
    · refine Eng.guarded1 (j := 7) (d := 20) (b := q19) rfl rfl (by kernel_rfl) rfl (fun v w h => h) (fun hG w => Eng.off hG) fun hG a w' H => ?_
      have kb := (H.below.block _ lg8_3_3).trans kg8_3_3
      have z0 : w'.cell? ⟨g8_3, 0, none⟩ = some (.int .i64 b0) := (Eng.cells kb 0).trans rfl
      have z1 : w'.cell? ⟨g8_3, 1, none⟩ = some (.int .u64 b1) := (Eng.cells kb 1).trans rfl
      refine Eng.val (w1 := w') (v := .agg #[.int .i64 b0, .int .u64 b1]) ?_ (Below.refl _ _) (Eng.off' hG rfl)
      have e0 : a.eval (.tmp 8) = .pointer (some ⟨g8_3, 0, none⟩) := ((H.kept 8 (by kernel_rfl)).trans h8_3)
      simp only [execOp, resolve, List.map_toArray, List.map_cons, List.map_nil, e0]
      go_simp
      all_goals first | rfl | (simp; done) | omega
    · refine Eng.guarded1 (j := 7) (d := 20) (b := q19) rfl rfl (by kernel_rfl) rfl (fun v w h => h) (fun hG w => Eng.off hG) fun hG a w' H => ?_
      refine Eng.call Tryd.func20 (by kernel_rfl) (by kernel_rfl) rfl #[.agg #[.int .i64 a0, .int .u64 a1], .agg #[.int .i64 b0, .int .u64 b1]] ?_ ?_
      · have e0 : a.eval (.tmp 21) = .agg #[.int .i64 a0, .int .u64 a1] := (Eng.on (H.dep 8 21 (by kernel_rfl) rfl) hG); have e1 : a.eval (.tmp 22) = .agg #[.int .i64 b0, .int .u64 b1] := (Eng.on (H.dep 9 22 (by kernel_rfl) rfl) hG); simp only [List.map_toArray, List.map_cons, List.map_nil, e0, e1]
      refine (lattice_Meet.calls a0 a1 b0 b1 _ _ _ (Lat.meet a0 a1 b0 b1)).mono ?_
      rintro e w'' ⟨rfl, hb⟩
      exact ⟨_, rfl, (Eng.off' hG rfl), hb⟩
    · refine Eng.guarded1 (j := 7) (d := 20) (b := q19) rfl rfl (by kernel_rfl) rfl (fun v w h => h) (fun hG w => Eng.off hG) fun hG a w' H => ?_
      have kb := (H.below.block _ lg3_1_3).trans kg3_1_3
      have z0 : w'.cell? ⟨g3_1, 0, none⟩ = some (.int .i64 a0) := (Eng.cells kb 0).trans rfl
      have z1 : w'.cell? ⟨g3_1, 1, none⟩ = some (.int .u64 a1) := (Eng.cells kb 1).trans rfl
      refine Eng.val (w1 := w') (v := .agg #[.int .i64 a0, .int .u64 a1]) ?_ (Below.refl _ _) (Eng.off' hG rfl)
      have e0 : a.eval (.tmp 3) = .pointer (some ⟨g3_1, 0, none⟩) := ((H.kept 3 (by kernel_rfl)).trans h3_3)
      simp only [execOp, resolve, List.map_toArray, List.map_cons, List.map_nil, e0]
      go_simp
      all_goals first | rfl | (simp; done) | omega
    · refine Eng.guarded1 (j := 7) (d := 20) (b := q19) rfl rfl (by kernel_rfl) rfl (fun v w h => h) (fun hG w => Eng.off hG) fun hG a w' H => ?_
      have kb := (H.below.block _ lg4_1_3).trans kg4_1_3
      have z0 : w'.cell? ⟨g4_1, 0, none⟩ = some (.int .i64 b0) := (Eng.cells kb 0).trans rfl
      have z1 : w'.cell? ⟨g4_1, 1, none⟩ = some (.int .u64 b1) := (Eng.cells kb 1).trans rfl
      refine Eng.val (w1 := w') (v := .agg #[.int .i64 b0, .int .u64 b1]) ?_ (Below.refl _ _) (Eng.off' hG rfl)
      have e0 : a.eval (.tmp 4) = .pointer (some ⟨g4_1, 0, none⟩) := ((H.kept 4 (by kernel_rfl)).trans h4_3)
      simp only [execOp, resolve, List.map_toArray, List.map_cons, List.map_nil, e0]
      go_simp
      all_goals first | rfl | (simp; done) | omega
    · refine Eng.guarded1 (j := 7) (d := 20) (b := q19) rfl rfl (by kernel_rfl) rfl (fun v w h => h) (fun hG w => Eng.off hG) fun hG a w' H => ?_
      refine Eng.call Tryd.func21 (by kernel_rfl) (by kernel_rfl) rfl #[.agg #[.int .i64 a0, .int .u64 a1], .agg #[.int .i64 b0, .int .u64 b1]] ?_ ?_
      · have e0 : a.eval (.tmp 24) = .agg #[.int .i64 a0, .int .u64 a1] := (Eng.on (H.dep 11 24 (by kernel_rfl) rfl) hG); have e1 : a.eval (.tmp 25) = .agg #[.int .i64 b0, .int .u64 b1] := (Eng.on (H.dep 12 25 (by kernel_rfl) rfl) hG); simp only [List.map_toArray, List.map_cons, List.map_nil, e0, e1]
      refine (Lat.rmeet_calls a0 a1 b0 b1 _ (by omega) (by omega) (by omega) (by omega)).mono ?_
      rintro e w'' ⟨rfl, hb⟩
      exact ⟨_, rfl, (Eng.off' hG rfl), hb⟩
    · refine Eng.guarded1 (j := 7) (d := 20) (b := q19) rfl rfl (by kernel_rfl) rfl (fun v w h => h) (fun hG w => Eng.off hG) fun hG a w' H => ?_
      refine Eng.val (w1 := w') (v := .bool ((mn a0 b0) == (mn a0 b0) && ((Go.bits .and .u64 a1 b1) == (Go.bits .and .u64 a1 b1)))) ?_ (Below.refl _ _) (Eng.off' hG (by rw [Bq27]))
      have e0 : a.eval (.tmp 23) = .agg #[.int .i64 (mn a0 b0), .int .u64 (Go.bits .and .u64 a1 b1)] := (Eng.on (H.dep 10 23 (by kernel_rfl) rfl) hG)
      have e1 : a.eval (.tmp 26) = .agg #[.int .i64 (mn a0 b0), .int .u64 (Go.bits .and .u64 a1 b1)] := (Eng.on (H.dep 13 26 (by kernel_rfl) rfl) hG)
      simp only [execOp, resolve, List.map_toArray, List.map_cons, List.map_nil, e0, e1]
      go_simp
      all_goals first | rfl | (simp; done) | omega
    · refine Eng.plain rfl rfl fun a w' H => ?_
      exact Eng.val (w1 := w') (v := .bool (q19 && q27)) (Eng.run_and rfl rfl (G := true) (H.dep 7 20 (by kernel_rfl) rfl) (fun hb => (Eng.on (H.dep 14 27 (by kernel_rfl) rfl) (Eng.mk1 hb)))) (Below.refl _ _) (by show _ = Value.bool q28; rw [Bq28])
    · refine Eng.plain rfl rfl fun a w' H => ?_
      exact Eng.val (w1 := w') (v := .bool q28) (Eng.run_move rfl (H.dep 15 28 (by kernel_rfl) rfl)) (Below.refl _ _) rfl
    · refine Eng.guarded1 (j := 16) (d := 29) (b := q28) rfl rfl (by kernel_rfl) rfl (fun v w h => h) (fun hG w => Eng.off hG) fun hG a w' H => ?_
      have kb := (H.below.block _ lg7_3_3).trans kg7_3_3
      have z0 : w'.cell? ⟨g7_3, 0, none⟩ = some (.int .i64 a0) := (Eng.cells kb 0).trans rfl
      have z1 : w'.cell? ⟨g7_3, 1, none⟩ = some (.int .u64 a1) := (Eng.cells kb 1).trans rfl
      refine Eng.val (w1 := w') (v := .agg #[.int .i64 a0, .int .u64 a1]) ?_ (Below.refl _ _) (Eng.off' hG rfl)
      have e0 : a.eval (.tmp 7) = .pointer (some ⟨g7_3, 0, none⟩) := ((H.kept 7 (by kernel_rfl)).trans h7_3)
      simp only [execOp, resolve, List.map_toArray, List.map_cons, List.map_nil, e0]
      go_simp
      all_goals first | rfl | (simp; done) | omega
    · refine Eng.guarded1 (j := 16) (d := 29) (b := q28) rfl rfl (by kernel_rfl) rfl (fun v w h => h) (fun hG w => Eng.off hG) fun hG a w' H => ?_
      have kb := (H.below.block _ lg8_3_3).trans kg8_3_3
      have z0 : w'.cell? ⟨g8_3, 0, none⟩ = some (.int .i64 b0) := (Eng.cells kb 0).trans rfl
      have z1 : w'.cell? ⟨g8_3, 1, none⟩ = some (.int .u64 b1) := (Eng.cells kb 1).trans rfl
      refine Eng.val (w1 := w') (v := .agg #[.int .i64 b0, .int .u64 b1]) ?_ (Below.refl _ _) (Eng.off' hG rfl)
      have e0 : a.eval (.tmp 8) = .pointer (some ⟨g8_3, 0, none⟩) := ((H.kept 8 (by kernel_rfl)).trans h8_3)
      simp only [execOp, resolve, List.map_toArray, List.map_cons, List.map_nil, e0]
      go_simp
      all_goals first | rfl | (simp; done) | omega
    · refine Eng.guarded1 (j := 16) (d := 29) (b := q28) rfl rfl (by kernel_rfl) rfl (fun v w h => h) (fun hG w => Eng.off hG) fun hG a w' H => ?_
      refine Eng.call Tryd.func22 (by kernel_rfl) (by kernel_rfl) rfl #[.agg #[.int .i64 a0, .int .u64 a1], .agg #[.int .i64 b0, .int .u64 b1]] ?_ ?_
      · have e0 : a.eval (.tmp 30) = .agg #[.int .i64 a0, .int .u64 a1] := (Eng.on (H.dep 17 30 (by kernel_rfl) rfl) hG); have e1 : a.eval (.tmp 31) = .agg #[.int .i64 b0, .int .u64 b1] := (Eng.on (H.dep 18 31 (by kernel_rfl) rfl) hG); simp only [List.map_toArray, List.map_cons, List.map_nil, e0, e1]
      refine (lattice_Over.calls a0 a1 b0 b1 (Lat.ov a0 a1 b0 b1) _ (Lat.over a0 a1 b0 b1)).mono ?_
      rintro e w'' ⟨rfl, hb⟩
      exact ⟨_, rfl, (Eng.off' hG (by rw [Bq32])), hb⟩
    · refine Eng.guarded1 (j := 16) (d := 29) (b := q28) rfl rfl (by kernel_rfl) rfl (fun v w h => h) (fun hG w => Eng.off hG) fun hG a w' H => ?_
      have kb := (H.below.block _ lg3_1_3).trans kg3_1_3
      have z0 : w'.cell? ⟨g3_1, 0, none⟩ = some (.int .i64 a0) := (Eng.cells kb 0).trans rfl
      have z1 : w'.cell? ⟨g3_1, 1, none⟩ = some (.int .u64 a1) := (Eng.cells kb 1).trans rfl
      refine Eng.val (w1 := w') (v := .agg #[.int .i64 a0, .int .u64 a1]) ?_ (Below.refl _ _) (Eng.off' hG rfl)
      have e0 : a.eval (.tmp 3) = .pointer (some ⟨g3_1, 0, none⟩) := ((H.kept 3 (by kernel_rfl)).trans h3_3)
      simp only [execOp, resolve, List.map_toArray, List.map_cons, List.map_nil, e0]
      go_simp
      all_goals first | rfl | (simp; done) | omega
    · refine Eng.guarded1 (j := 16) (d := 29) (b := q28) rfl rfl (by kernel_rfl) rfl (fun v w h => h) (fun hG w => Eng.off hG) fun hG a w' H => ?_
      have kb := (H.below.block _ lg4_1_3).trans kg4_1_3
      have z0 : w'.cell? ⟨g4_1, 0, none⟩ = some (.int .i64 b0) := (Eng.cells kb 0).trans rfl
      have z1 : w'.cell? ⟨g4_1, 1, none⟩ = some (.int .u64 b1) := (Eng.cells kb 1).trans rfl
      refine Eng.val (w1 := w') (v := .agg #[.int .i64 b0, .int .u64 b1]) ?_ (Below.refl _ _) (Eng.off' hG rfl)
      have e0 : a.eval (.tmp 4) = .pointer (some ⟨g4_1, 0, none⟩) := ((H.kept 4 (by kernel_rfl)).trans h4_3)
      simp only [execOp, resolve, List.map_toArray, List.map_cons, List.map_nil, e0]
      go_simp
      all_goals first | rfl | (simp; done) | omega
    · refine Eng.guarded1 (j := 16) (d := 29) (b := q28) rfl rfl (by kernel_rfl) rfl (fun v w h => h) (fun hG w => Eng.off hG) fun hG a w' H => ?_
      refine Eng.call Tryd.func23 (by kernel_rfl) (by kernel_rfl) rfl #[.agg #[.int .i64 a0, .int .u64 a1], .agg #[.int .i64 b0, .int .u64 b1]] ?_ ?_
      · have e0 : a.eval (.tmp 33) = .agg #[.int .i64 a0, .int .u64 a1] := (Eng.on (H.dep 20 33 (by kernel_rfl) rfl) hG); have e1 : a.eval (.tmp 34) = .agg #[.int .i64 b0, .int .u64 b1] := (Eng.on (H.dep 21 34 (by kernel_rfl) rfl) hG); simp only [List.map_toArray, List.map_cons, List.map_nil, e0, e1]
      refine (Lat.rover_calls a0 a1 b0 b1 _ (by omega) (by omega) (by omega) (by omega)).mono ?_
      rintro e w'' ⟨rfl, hb⟩
      exact ⟨_, rfl, (Eng.off' hG (by rw [Bq35])), hb⟩
    · refine Eng.guarded1 (j := 16) (d := 29) (b := q28) rfl rfl (by kernel_rfl) rfl (fun v w h => h) (fun hG w => Eng.off hG) fun hG a w' H => ?_
      refine Eng.val (w1 := w') (v := .bool (q32 == q35)) ?_ (Below.refl _ _) (Eng.off' hG (by rw [Bq36]))
      have e0 : a.eval (.tmp 32) = .bool q32 := (Eng.on (H.dep 19 32 (by kernel_rfl) rfl) hG)
      have e1 : a.eval (.tmp 35) = .bool q35 := (Eng.on (H.dep 22 35 (by kernel_rfl) rfl) hG)
      simp only [execOp, resolve, List.map_toArray, List.map_cons, List.map_nil, e0, e1]
      go_simp
      all_goals first | rfl | (simp; done) | omega
    · refine Eng.plain rfl rfl fun a w' H => ?_
      exact Eng.val (w1 := w') (v := .bool (q28 && q36)) (Eng.run_and rfl rfl (G := true) (H.dep 16 29 (by kernel_rfl) rfl) (fun hb => (Eng.on (H.dep 23 36 (by kernel_rfl) rfl) (Eng.mk1 hb)))) (Below.refl _ _) (by show _ = Value.bool q37; rw [Bq37])
    · refine Eng.plain rfl rfl fun a w' H => ?_
      exact Eng.val (w1 := w') (v := .bool q37) (Eng.run_move rfl (H.dep 24 37 (by kernel_rfl) rfl)) (Below.refl _ _) rfl
    · refine Eng.guarded1 (j := 25) (d := 38) (b := q37) rfl rfl (by kernel_rfl) rfl (fun v w h => h) (fun hG w => Eng.off hG) fun hG a w' H => ?_
      have kb := (H.below.block _ lg7_3_3).trans kg7_3_3
      have z0 : w'.cell? ⟨g7_3, 0, none⟩ = some (.int .i64 a0) := (Eng.cells kb 0).trans rfl
      have z1 : w'.cell? ⟨g7_3, 1, none⟩ = some (.int .u64 a1) := (Eng.cells kb 1).trans rfl
      refine Eng.val (w1 := w') (v := .agg #[.int .i64 a0, .int .u64 a1]) ?_ (Below.refl _ _) (Eng.off' hG rfl)
      have e0 : a.eval (.tmp 7) = .pointer (some ⟨g7_3, 0, none⟩) := ((H.kept 7 (by kernel_rfl)).trans h7_3)
      simp only [execOp, resolve, List.map_toArray, List.map_cons, List.map_nil, e0]
      go_simp
      all_goals first | rfl | (simp; done) | omega
    · refine Eng.guarded1 (j := 25) (d := 38) (b := q37) rfl rfl (by kernel_rfl) rfl (fun v w h => h) (fun hG w => Eng.off hG) fun hG a w' H => ?_
      refine Eng.val (w1 := w') (v := .pointer (some ⟨g5_1, 0, none⟩)) ?_ (Below.refl _ _) (Eng.off' hG rfl)
      have e0 : a.eval (.tmp 5) = .pointer (some ⟨g5_1, 0, none⟩) := ((H.kept 5 (by kernel_rfl)).trans h5_3)
      simp only [execOp, resolve, List.map_toArray, List.map_cons, List.map_nil, e0]
      go_simp
      all_goals first | rfl | (simp; done) | omega
    · refine Eng.guarded1 (j := 25) (d := 38) (b := q37) rfl rfl (by kernel_rfl) rfl (fun v w h => h) (fun hG w => Eng.off hG) fun hG a w' H => ?_
      have kb := (H.below.block _ lg5_1_3).trans kg5_1_3
      have z0 : w'.cell? ⟨g5_1, 0, none⟩ = some (.int .i64 c0) := (Eng.cells kb 0).trans rfl
      refine Eng.val (w1 := w') (v := .int .i64 c0) ?_ (Below.refl _ _) (Eng.off' hG rfl)
      have e0 : a.eval (.tmp 40) = .pointer (some ⟨g5_1, 0, none⟩) := (Eng.on (H.dep 27 40 (by kernel_rfl) rfl) hG)
      simp only [execOp, resolve, List.map_toArray, List.map_cons, List.map_nil, e0]
      go_simp
      all_goals first | rfl | (simp; done) | omega
    · refine Eng.guarded1 (j := 25) (d := 38) (b := q37) rfl rfl (by kernel_rfl) rfl (fun v w h => h) (fun hG w => Eng.off hG) fun hG a w' H => ?_
      refine Eng.val (w1 := w') (v := .pointer (some ⟨g5_1, 1, none⟩)) ?_ (Below.refl _ _) (Eng.off' hG rfl)
      have e0 : a.eval (.tmp 5) = .pointer (some ⟨g5_1, 0, none⟩) := ((H.kept 5 (by kernel_rfl)).trans h5_3)
      simp only [execOp, resolve, List.map_toArray, List.map_cons, List.map_nil, e0]
      go_simp
      all_goals first | rfl | (simp; done) | omega
    · refine Eng.guarded1 (j := 25) (d := 38) (b := q37) rfl rfl (by kernel_rfl) rfl (fun v w h => h) (fun hG w => Eng.off hG) fun hG a w' H => ?_
      have kb := (H.below.block _ lg5_1_3).trans kg5_1_3
      have z0 : w'.cell? ⟨g5_1, 1, none⟩ = some (.int .i64 c1) := (Eng.cells kb 1).trans rfl
      refine Eng.val (w1 := w') (v := .int .i64 c1) ?_ (Below.refl _ _) (Eng.off' hG rfl)
      have e0 : a.eval (.tmp 42) = .pointer (some ⟨g5_1, 1, none⟩) := (Eng.on (H.dep 29 42 (by kernel_rfl) rfl) hG)
      simp only [execOp, resolve, List.map_toArray, List.map_cons, List.map_nil, e0]
      go_simp
      all_goals first | rfl | (simp; done) | omega
    · refine Eng.guarded1 (j := 25) (d := 38) (b := q37) rfl rfl (by kernel_rfl) rfl (fun v w h => h) (fun hG w => Eng.off hG) fun hG a w' H => ?_
      refine Eng.call Tryd.func24 (by kernel_rfl) (by kernel_rfl) rfl #[.agg #[.int .i64 a0, .int .u64 a1], .int .i64 c0, .int .i64 c1] ?_ ?_
      · have e0 : a.eval (.tmp 39) = .agg #[.int .i64 a0, .int .u64 a1] := (Eng.on (H.dep 26 39 (by kernel_rfl) rfl) hG); have e1 : a.eval (.tmp 41) = .int .i64 c0 := (Eng.on (H.dep 28 41 (by kernel_rfl) rfl) hG); have e2 : a.eval (.tmp 43) = .int .i64 c1 := (Eng.on (H.dep 30 43 (by kernel_rfl) rfl) hG); simp only [List.map_toArray, List.map_cons, List.map_nil, e0, e1, e2]
      refine (Lat.right_calls a0 a1 c0 c1 _ (by omega) (by omega)).mono ?_
      rintro e w'' ⟨rfl, hb⟩
      exact ⟨_, rfl, (Eng.off' hG (by rw [Bq44])), hb⟩
    · refine Eng.guarded1 (j := 25) (d := 38) (b := q37) rfl rfl (by kernel_rfl) rfl (fun v w h => h) (fun hG w => Eng.off hG) fun hG a w' H => ?_
      have kb := (H.below.block _ lg3_1_3).trans kg3_1_3
      have z0 : w'.cell? ⟨g3_1, 0, none⟩ = some (.int .i64 a0) := (Eng.cells kb 0).trans rfl
      have z1 : w'.cell? ⟨g3_1, 1, none⟩ = some (.int .u64 a1) := (Eng.cells kb 1).trans rfl
      refine Eng.val (w1 := w') (v := .agg #[.int .i64 a0, .int .u64 a1]) ?_ (Below.refl _ _) (Eng.off' hG rfl)
      have e0 : a.eval (.tmp 3) = .pointer (some ⟨g3_1, 0, none⟩) := ((H.kept 3 (by kernel_rfl)).trans h3_3)
      simp only [execOp, resolve, List.map_toArray, List.map_cons, List.map_nil, e0]
      go_simp
      all_goals first | rfl | (simp; done) | omega
    · refine Eng.guarded1 (j := 25) (d := 38) (b := q37) rfl rfl (by kernel_rfl) rfl (fun v w h => h) (fun hG w => Eng.off hG) fun hG a w' H => ?_
      refine Eng.val (w1 := w') (v := .pointer (some ⟨g5_1, 0, none⟩)) ?_ (Below.refl _ _) (Eng.off' hG rfl)
      have e0 : a.eval (.tmp 5) = .pointer (some ⟨g5_1, 0, none⟩) := ((H.kept 5 (by kernel_rfl)).trans h5_3)
      simp only [execOp, resolve, List.map_toArray, List.map_cons, List.map_nil, e0]
      go_simp
      all_goals first | rfl | (simp; done) | omega
    · refine Eng.guarded1 (j := 25) (d := 38) (b := q37) rfl rfl (by kernel_rfl) rfl (fun v w h => h) (fun hG w => Eng.off hG) fun hG a w' H => ?_
      have kb := (H.below.block _ lg5_1_3).trans kg5_1_3
      have z0 : w'.cell? ⟨g5_1, 0, none⟩ = some (.int .i64 c0) := (Eng.cells kb 0).trans rfl
      refine Eng.val (w1 := w') (v := .int .i64 c0) ?_ (Below.refl _ _) (Eng.off' hG rfl)
      have e0 : a.eval (.tmp 46) = .pointer (some ⟨g5_1, 0, none⟩) := (Eng.on (H.dep 33 46 (by kernel_rfl) rfl) hG)
      simp only [execOp, resolve, List.map_toArray, List.map_cons, List.map_nil, e0]
      go_simp
      all_goals first | rfl | (simp; done) | omega
    · refine Eng.guarded1 (j := 25) (d := 38) (b := q37) rfl rfl (by kernel_rfl) rfl (fun v w h => h) (fun hG w => Eng.off hG) fun hG a w' H => ?_
      refine Eng.val (w1 := w') (v := .pointer (some ⟨g5_1, 1, none⟩)) ?_ (Below.refl _ _) (Eng.off' hG rfl)
      have e0 : a.eval (.tmp 5) = .pointer (some ⟨g5_1, 0, none⟩) := ((H.kept 5 (by kernel_rfl)).trans h5_3)
      simp only [execOp, resolve, List.map_toArray, List.map_cons, List.map_nil, e0]
      go_simp
      all_goals first | rfl | (simp; done) | omega
    · refine Eng.guarded1 (j := 25) (d := 38) (b := q37) rfl rfl (by kernel_rfl) rfl (fun v w h => h) (fun hG w => Eng.off hG) fun hG a w' H => ?_
      have kb := (H.below.block _ lg5_1_3).trans kg5_1_3
      have z0 : w'.cell? ⟨g5_1, 1, none⟩ = some (.int .i64 c1) := (Eng.cells kb 1).trans rfl
      refine Eng.val (w1 := w') (v := .int .i64 c1) ?_ (Below.refl _ _) (Eng.off' hG rfl)
      have e0 : a.eval (.tmp 48) = .pointer (some ⟨g5_1, 1, none⟩) := (Eng.on (H.dep 35 48 (by kernel_rfl) rfl) hG)
      simp only [execOp, resolve, List.map_toArray, List.map_cons, List.map_nil, e0]
      go_simp
      all_goals first | rfl | (simp; done) | omega
    · refine Eng.guarded1 (j := 25) (d := 38) (b := q37) rfl rfl (by kernel_rfl) rfl (fun v w h => h) (fun hG w => Eng.off hG) fun hG a w' H => ?_
      refine Eng.call Tryd.func25 (by kernel_rfl) (by kernel_rfl) rfl #[.agg #[.int .i64 a0, .int .u64 a1], .int .i64 c0, .int .i64 c1] ?_ ?_
      · have e0 : a.eval (.tmp 45) = .agg #[.int .i64 a0, .int .u64 a1] := (Eng.on (H.dep 32 45 (by kernel_rfl) rfl) hG); have e1 : a.eval (.tmp 47) = .int .i64 c0 := (Eng.on (H.dep 34 47 (by kernel_rfl) rfl) hG); have e2 : a.eval (.tmp 49) = .int .i64 c1 := (Eng.on (H.dep 36 49 (by kernel_rfl) rfl) hG); simp only [List.map_toArray, List.map_cons, List.map_nil, e0, e1, e2]
      refine (Lat.rright_calls a0 a1 c0 c1 _ (by omega) (by omega)).mono ?_
      rintro e w'' ⟨rfl, hb⟩
      exact ⟨_, rfl, (Eng.off' hG (by rw [Bq50])), hb⟩
    · refine Eng.guarded1 (j := 25) (d := 38) (b := q37) rfl rfl (by kernel_rfl) rfl (fun v w h => h) (fun hG w => Eng.off hG) fun hG a w' H => ?_
      refine Eng.val (w1 := w') (v := .bool (q44 == q50)) ?_ (Below.refl _ _) (Eng.off' hG (by rw [Bq51]))
      have e0 : a.eval (.tmp 44) = .bool q44 := (Eng.on (H.dep 31 44 (by kernel_rfl) rfl) hG)
      have e1 : a.eval (.tmp 50) = .bool q50 := (Eng.on (H.dep 37 50 (by kernel_rfl) rfl) hG)
      simp only [execOp, resolve, List.map_toArray, List.map_cons, List.map_nil, e0, e1]
      go_simp
      all_goals first | rfl | (simp; done) | omega
    · refine Eng.plain rfl rfl fun a w' H => ?_
      exact Eng.val (w1 := w') (v := .bool (q37 && q51)) (Eng.run_and rfl rfl (G := true) (H.dep 25 38 (by kernel_rfl) rfl) (fun hb => (Eng.on (H.dep 38 51 (by kernel_rfl) rfl) (Eng.mk1 hb)))) (Below.refl _ _) (by show _ = Value.bool q52; rw [Bq52])
    · refine Eng.plain rfl rfl fun a w' H => ?_
      exact Eng.val (w1 := w') (v := .bool q52) (Eng.run_assign rfl (H.dep 39 52 (by kernel_rfl) rfl)) (Below.refl _ _) rfl
  intro act4 w4 T
  have h0_4 : act4.eval (.tmp 0) = .agg #[.int .i64 a0, .int .u64 a1] := (T.rest 0 (by kernel_rfl)).trans h0_3
  have h1_4 : act4.eval (.tmp 1) = .agg #[.int .i64 b0, .int .u64 b1] := (T.rest 1 (by kernel_rfl)).trans h1_3
  have h2_4 : act4.eval (.tmp 2) = .agg #[.int .i64 c0, .int .i64 c1] := (T.rest 2 (by kernel_rfl)).trans h2_3
  have h3_4 : act4.eval (.tmp 3) = .pointer (some ⟨g3_1, 0, none⟩) := (T.rest 3 (by kernel_rfl)).trans h3_3
  have h4_4 : act4.eval (.tmp 4) = .pointer (some ⟨g4_1, 0, none⟩) := (T.rest 4 (by kernel_rfl)).trans h4_3
  have h5_4 : act4.eval (.tmp 5) = .pointer (some ⟨g5_1, 0, none⟩) := (T.rest 5 (by kernel_rfl)).trans h5_3
  have h7_4 : act4.eval (.tmp 7) = .pointer (some ⟨g7_3, 0, none⟩) := (T.rest 7 (by kernel_rfl)).trans h7_3
  have h8_4 : act4.eval (.tmp 8) = .pointer (some ⟨g8_3, 0, none⟩) := (T.rest 8 (by kernel_rfl)).trans h8_3
  have h10_4 : act4.eval (.tmp 10) = .bool q10 := (T.rest 10 (by kernel_rfl)).trans h10_3
  have kg3_1_4 := (T.below.block _ lg3_1_3).trans kg3_1_3
  have lg3_1_4 := Nat.lt_of_lt_of_le lg3_1_3 T.below.size
  have kg4_1_4 := (T.below.block _ lg4_1_3).trans kg4_1_3
  have lg4_1_4 := Nat.lt_of_lt_of_le lg4_1_3 T.below.size
  have kg5_1_4 := (T.below.block _ lg5_1_3).trans kg5_1_3
  have lg5_1_4 := Nat.lt_of_lt_of_le lg5_1_3 T.below.size
  have kg7_3_4 := (T.below.block _ lg7_3_3).trans kg7_3_3
  have lg7_3_4 := Nat.lt_of_lt_of_le lg7_3_3 T.below.size
  have kg8_3_4 := (T.below.block _ lg8_3_3).trans kg8_3_3
  have lg8_3_4 := Nat.lt_of_lt_of_le lg8_3_3 T.below.size
  have h6_4 : act4.eval (.tmp 6) = .bool q52 := T.done 40 6 rfl rfl
  have d4 := T.defers.trans d3
  have s4 := T.size.trans s3
  have bl4 := bl3.trans (T.below.mono bl3.size)
  clear T
  refine Eng.tail_nil ?_
  show Code.wp Tryd.prog _ _ _ _
  refine wp_ret ?_
  have fin : q52 = true := by
    simp only [Bq52, Bq51, Bq50, Bq44, Bq37, Bq36, Bq35, Bq32, Bq28, Bq27, Bq19, Bq10, Bq9]
    simp
  exact Eng.ret1 rfl d4 (h6_4.trans (by rw [fin])) ⟨rfl, bl4⟩
end Go.Proofs.YthgafcaoibfchaaDoor.X
