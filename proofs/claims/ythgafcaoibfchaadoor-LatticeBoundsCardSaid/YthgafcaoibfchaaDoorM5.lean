/- Words and walks that the row of LatticeBounds needs: printed by programs, and plain laws. -/
import Derived.Test.YthgafcaoibfchaaDoorM4
import Derived.Deep.DrawnRows
namespace Go.Proofs.YthgafcaoibfchaaDoor.X
open Go.RowKit Go.Shelf Go.Proofs Go.Proofs.YthgafcaoibfchaaDoorW.PrintWords Go.Proofs.YthgafcaoibfchaaDoorW.PrintLast Go.Proofs.YthgafcaoibfchaaDoorW.PrintMore
set_option linter.unusedVariables false
set_option linter.unusedSimpArgs false
attribute [local go_sem] max2_int min2_int max_two min_two
attribute [local go_sem high] Lat.eqA30 Lat.eqA28
set_option maxHeartbeats 4000000 in
set_option maxRecDepth 100000 in
theorem Lbo.walk (a0 a1 b0 b1 c0 c1 : Int) (w : World) : Calls Tryd.prog 6 #[.agg #[.int .i64 a0, .int .u64 a1], .agg #[.int .i64 b0, .int .u64 b1], .agg #[.int .i64 c0, .int .u64 c1]] w fun e w' => e = .returned (.bool true) ∧ Below w.heap.size w w' := by
  have hu30 := Tryd.underlying30
  have hu28 := Tryd.underlying28
  refine Eng.enter Tryd.func6 rfl fun act0 d0 s0 v0 => ?_
  have s0 : act0.tmps.size = 71 := s0
  have h0_0 : act0.eval (.tmp 0) = .agg #[.int .i64 a0, .int .u64 a1] := v0 0 (by simp)
  have h1_0 : act0.eval (.tmp 1) = .agg #[.int .i64 b0, .int .u64 b1] := v0 1 (by simp)
  have h2_0 : act0.eval (.tmp 2) = .agg #[.int .i64 c0, .int .u64 c1] := v0 2 (by simp)
  clear v0
  have bl0 : Below w.heap.size w w := Below.refl _ _
  refine wp_seq ?_
  refine Eng.regionS (Eng.still [fun v => True, fun v => True, fun v => True, fun v => v = .bool false]) (fun i => ([.alloc 28 #[.int .i64 a0, .int .u64 a1], .alloc 28 #[.int .i64 b0, .int .u64 b1], .alloc 28 #[.int .i64 c0, .int .u64 c1], .plain] : List Eng.Kind).getD i .plain) 4 0 71 s0 rfl (by kernel_rfl) (Eng.still_stable _) (Or.inr (Eng.still_any _)) ?_ ?_
  · refine Eng.Steps.cons (fun _ => ?_) (Eng.Steps.cons (fun _ => ?_) (Eng.Steps.cons (fun _ => ?_) (Eng.Steps.cons (fun _ => ?_) (Eng.Steps.nil))))
    · refine Eng.made rfl (by simp) rfl (fun a w' hd ho => ?_) (fun _ _ => trivial)
      exact Eng.run_box rfl ((ho 0 (by kernel_rfl)).trans h0_0)
    · refine Eng.made rfl (by simp) rfl (fun a w' hd ho => ?_) (fun _ _ => trivial)
      exact Eng.run_box rfl ((ho 1 (by kernel_rfl)).trans h1_0)
    · refine Eng.made rfl (by simp) rfl (fun a w' hd ho => ?_) (fun _ _ => trivial)
      exact Eng.run_box rfl ((ho 2 (by kernel_rfl)).trans h2_0)
    · refine Eng.plain rfl rfl fun a w' H => ?_
      exact Eng.val (w1 := w') (v := .bool false) (Eng.run_assign rfl (rfl : a.eval (.const (.bool false)) = .bool false)) (Below.refl _ _) rfl
  intro act1 w1 T
  have h0_1 : act1.eval (.tmp 0) = .agg #[.int .i64 a0, .int .u64 a1] := (T.rest 0 (by kernel_rfl)).trans h0_0
  have h1_1 : act1.eval (.tmp 1) = .agg #[.int .i64 b0, .int .u64 b1] := (T.rest 1 (by kernel_rfl)).trans h1_0
  have h2_1 : act1.eval (.tmp 2) = .agg #[.int .i64 c0, .int .u64 c1] := (T.rest 2 (by kernel_rfl)).trans h2_0
  obtain ⟨g3_1, h3_1, rg3_1, lg3_1_1, kg3_1_1⟩ := T.al 0 3 _ _ rfl rfl rfl (by kernel_rfl)
  have og3_1 : w.heap.size ≤ g3_1 := Nat.le_trans bl0.size rg3_1
  obtain ⟨g4_1, h4_1, rg4_1, lg4_1_1, kg4_1_1⟩ := T.al 1 4 _ _ rfl rfl rfl (by kernel_rfl)
  have og4_1 : w.heap.size ≤ g4_1 := Nat.le_trans bl0.size rg4_1
  obtain ⟨g5_1, h5_1, rg5_1, lg5_1_1, kg5_1_1⟩ := T.al 2 5 _ _ rfl rfl rfl (by kernel_rfl)
  have og5_1 : w.heap.size ≤ g5_1 := Nat.le_trans bl0.size rg5_1
  have h6_1 : act1.eval (.tmp 6) = .bool false := T.done 3 6 rfl rfl
  have d1 := T.defers.trans d0
  have s1 := T.size.trans s0
  have bl1 := bl0.trans (T.below.mono bl0.size)
  clear T
  refine Eng.tail_nil ?_
  show Code.wp Tryd.prog _ _ _ _
  refine wp_seq ?_
  refine wp_seq ?_
  obtain ⟨q12, Bq12⟩ : ∃ b : Bool, b = (true) := ⟨_, rfl⟩
  obtain ⟨q13, Bq13⟩ : ∃ b : Bool, b = (!q12) := ⟨_, rfl⟩
  refine Eng.regionS (Eng.still [fun v => v = .bool q12, fun v => v = .bool q13]) (fun i => ([.plain, .plain] : List Eng.Kind).getD i .plain) 2 0 71 s1 rfl (by kernel_rfl) (Eng.still_stable _) (Or.inr (Eng.still_any _)) ?_ ?_
  · refine Eng.Steps.cons (fun _ => ?_) (Eng.Steps.cons (fun _ => ?_) (Eng.Steps.nil))
    · refine Eng.plain rfl rfl fun a w' H => ?_
      refine Eng.call Tryd.func17 (by kernel_rfl) (by kernel_rfl) rfl #[] ?_ ?_
      · simp
      refine (Alv.calls _).mono ?_
      rintro e w'' ⟨rfl, hb⟩
      exact ⟨_, rfl, (by show _ = Value.bool q12; rw [Bq12]), hb⟩
    · refine Eng.plain rfl rfl fun a w' H => ?_
      exact Eng.val (w1 := w') (v := .bool (!q12)) (Eng.run_not rfl (H.dep 0 12 (by kernel_rfl) rfl)) (Below.refl _ _) (by show _ = Value.bool q13; rw [Bq13])
  intro act2 w2 T
  have h0_2 : act2.eval (.tmp 0) = .agg #[.int .i64 a0, .int .u64 a1] := (T.rest 0 (by kernel_rfl)).trans h0_1
  have h1_2 : act2.eval (.tmp 1) = .agg #[.int .i64 b0, .int .u64 b1] := (T.rest 1 (by kernel_rfl)).trans h1_1
  have h2_2 : act2.eval (.tmp 2) = .agg #[.int .i64 c0, .int .u64 c1] := (T.rest 2 (by kernel_rfl)).trans h2_1
  have h3_2 : act2.eval (.tmp 3) = .pointer (some ⟨g3_1, 0, none⟩) := (T.rest 3 (by kernel_rfl)).trans h3_1
  have h4_2 : act2.eval (.tmp 4) = .pointer (some ⟨g4_1, 0, none⟩) := (T.rest 4 (by kernel_rfl)).trans h4_1
  have h5_2 : act2.eval (.tmp 5) = .pointer (some ⟨g5_1, 0, none⟩) := (T.rest 5 (by kernel_rfl)).trans h5_1
  have h6_2 : act2.eval (.tmp 6) = .bool false := (T.rest 6 (by kernel_rfl)).trans h6_1
  have kg3_1_2 := (T.below.block _ lg3_1_1).trans kg3_1_1
  have lg3_1_2 := Nat.lt_of_lt_of_le lg3_1_1 T.below.size
  have kg4_1_2 := (T.below.block _ lg4_1_1).trans kg4_1_1
  have lg4_1_2 := Nat.lt_of_lt_of_le lg4_1_1 T.below.size
  have kg5_1_2 := (T.below.block _ lg5_1_1).trans kg5_1_1
  have lg5_1_2 := Nat.lt_of_lt_of_le lg5_1_1 T.below.size
  have h13_2 : act2.eval (.tmp 13) = .bool q13 := T.done 1 13 rfl rfl
  have d2 := T.defers.trans d1
  have s2 := T.size.trans s1
  have bl2 := bl1.trans (T.below.mono bl1.size)
  clear T
  refine Eng.tail_nil ?_
  show Code.wp Tryd.prog _ _ _ _
  have n13 : q13 = false := by
    simp only [Bq13, Bq12]
    rfl
  refine wp_cond_false (h13_2.trans (by rw [n13])) ?_
  refine wp_skip ?_
  show Code.wp Tryd.prog _ _ _ _
  refine wp_seq ?_
  refine Eng.regionD (Eng.still [fun v => v = .agg #[.int .i64 a0, .int .u64 a1], fun v => v = .agg #[.int .i64 b0, .int .u64 b1], fun v => v = .agg #[.int .i64 c0, .int .u64 c1], fun v => True, fun v => True, fun v => True, fun v => True, fun v => True, fun v => True]) (fun i => ([.plain, .plain, .plain, .alloc 30 #[.int .i64 0, .int .u64 0], .alloc 30 #[.int .i64 0, .int .u64 0], .alloc 30 #[.int .i64 0, .int .u64 0], .store 3 #[.int .i64 a0, .int .u64 a1], .store 4 #[.int .i64 b0, .int .u64 b1], .store 5 #[.int .i64 c0, .int .u64 c1]] : List Eng.Kind).getD i .plain) 9 0 71 (by kernel_rfl) s2 rfl (by kernel_rfl) (Eng.still_stable _) (Or.inr (Eng.still_any _)) ?_ ?_
  · refine Eng.Steps.cons (fun _ => ?_) (Eng.Steps.cons (fun _ => ?_) (Eng.Steps.cons (fun _ => ?_) (Eng.Steps.cons (fun _ => ?_) (Eng.Steps.cons (fun _ => ?_) (Eng.Steps.cons (fun _ => ?_) (Eng.Steps.cons (fun _ => ?_) (Eng.Steps.cons (fun _ => ?_) (Eng.Steps.cons (fun _ => ?_) (Eng.Steps.nil)))))))))
    · refine Eng.plain rfl rfl fun a w' H => ?_
      have kb := (H.below.block _ lg3_1_2).trans kg3_1_2
      have z0 : w'.cell? ⟨g3_1, 0, none⟩ = some (.int .i64 a0) := (Eng.cells kb 0).trans rfl
      have z1 : w'.cell? ⟨g3_1, 1, none⟩ = some (.int .u64 a1) := (Eng.cells kb 1).trans rfl
      refine Eng.val (w1 := w') (v := .agg #[.int .i64 a0, .int .u64 a1]) ?_ (Below.refl _ _) rfl
      have e0 : a.eval (.tmp 3) = .pointer (some ⟨g3_1, 0, none⟩) := ((H.kept 3 (by kernel_rfl)).trans h3_2)
      simp only [execOp, resolve, List.map_toArray, List.map_cons, List.map_nil, e0]
      go_simp
      all_goals first | rfl | (simp; done) | omega
    · refine Eng.plain rfl rfl fun a w' H => ?_
      have kb := (H.below.block _ lg4_1_2).trans kg4_1_2
      have z0 : w'.cell? ⟨g4_1, 0, none⟩ = some (.int .i64 b0) := (Eng.cells kb 0).trans rfl
      have z1 : w'.cell? ⟨g4_1, 1, none⟩ = some (.int .u64 b1) := (Eng.cells kb 1).trans rfl
      refine Eng.val (w1 := w') (v := .agg #[.int .i64 b0, .int .u64 b1]) ?_ (Below.refl _ _) rfl
      have e0 : a.eval (.tmp 4) = .pointer (some ⟨g4_1, 0, none⟩) := ((H.kept 4 (by kernel_rfl)).trans h4_2)
      simp only [execOp, resolve, List.map_toArray, List.map_cons, List.map_nil, e0]
      go_simp
      all_goals first | rfl | (simp; done) | omega
    · refine Eng.plain rfl rfl fun a w' H => ?_
      have kb := (H.below.block _ lg5_1_2).trans kg5_1_2
      have z0 : w'.cell? ⟨g5_1, 0, none⟩ = some (.int .i64 c0) := (Eng.cells kb 0).trans rfl
      have z1 : w'.cell? ⟨g5_1, 1, none⟩ = some (.int .u64 c1) := (Eng.cells kb 1).trans rfl
      refine Eng.val (w1 := w') (v := .agg #[.int .i64 c0, .int .u64 c1]) ?_ (Below.refl _ _) rfl
      have e0 : a.eval (.tmp 5) = .pointer (some ⟨g5_1, 0, none⟩) := ((H.kept 5 (by kernel_rfl)).trans h5_2)
      simp only [execOp, resolve, List.map_toArray, List.map_cons, List.map_nil, e0]
      go_simp
      all_goals first | rfl | (simp; done) | omega
    · refine Eng.made rfl (by simp) rfl (fun a w' hd ho => ?_) (fun _ _ => trivial)
      simp only [execOp]
      go_simp
    · refine Eng.made rfl (by simp) rfl (fun a w' hd ho => ?_) (fun _ _ => trivial)
      simp only [execOp]
      go_simp
    · refine Eng.made rfl (by simp) rfl (fun a w' hd ho => ?_) (fun _ _ => trivial)
      simp only [execOp]
      go_simp
    · refine Eng.stored [.int .i64 a0, .int .u64 a1] rfl rfl rfl (j := 3) (d := 7) (by kernel_rfl) rfl rfl (Eng.store_uniq (by kernel_rfl)) rfl rfl fun a w' g e hc hd ho => ?_
      have e0 : a.eval _ = .agg #[.int .i64 a0, .int .u64 a1] := (hd 0 14 (by kernel_rfl) rfl)
      have z0 := (Eng.cells hc 0).trans rfl
      have z1 := (Eng.cells hc 1).trans rfl
      have f0 := Eng.unfrozen hc 0
      have f1 := Eng.unfrozen hc 1
      simp only [execOp, e, e0]
      go_simp
      rfl
    · refine Eng.stored [.int .i64 b0, .int .u64 b1] rfl rfl rfl (j := 4) (d := 8) (by kernel_rfl) rfl rfl (Eng.store_uniq (by kernel_rfl)) rfl rfl fun a w' g e hc hd ho => ?_
      have e0 : a.eval _ = .agg #[.int .i64 b0, .int .u64 b1] := (hd 1 15 (by kernel_rfl) rfl)
      have z0 := (Eng.cells hc 0).trans rfl
      have z1 := (Eng.cells hc 1).trans rfl
      have f0 := Eng.unfrozen hc 0
      have f1 := Eng.unfrozen hc 1
      simp only [execOp, e, e0]
      go_simp
      rfl
    · refine Eng.stored [.int .i64 c0, .int .u64 c1] rfl rfl rfl (j := 5) (d := 9) (by kernel_rfl) rfl rfl (Eng.store_uniq (by kernel_rfl)) rfl rfl fun a w' g e hc hd ho => ?_
      have e0 : a.eval _ = .agg #[.int .i64 c0, .int .u64 c1] := (hd 2 16 (by kernel_rfl) rfl)
      have z0 := (Eng.cells hc 0).trans rfl
      have z1 := (Eng.cells hc 1).trans rfl
      have f0 := Eng.unfrozen hc 0
      have f1 := Eng.unfrozen hc 1
      simp only [execOp, e, e0]
      go_simp
      rfl
  intro act3 w3 T
  have h0_3 : act3.eval (.tmp 0) = .agg #[.int .i64 a0, .int .u64 a1] := (T.rest 0 (by kernel_rfl)).trans h0_2
  have h1_3 : act3.eval (.tmp 1) = .agg #[.int .i64 b0, .int .u64 b1] := (T.rest 1 (by kernel_rfl)).trans h1_2
  have h2_3 : act3.eval (.tmp 2) = .agg #[.int .i64 c0, .int .u64 c1] := (T.rest 2 (by kernel_rfl)).trans h2_2
  have h3_3 : act3.eval (.tmp 3) = .pointer (some ⟨g3_1, 0, none⟩) := (T.rest 3 (by kernel_rfl)).trans h3_2
  have h4_3 : act3.eval (.tmp 4) = .pointer (some ⟨g4_1, 0, none⟩) := (T.rest 4 (by kernel_rfl)).trans h4_2
  have h5_3 : act3.eval (.tmp 5) = .pointer (some ⟨g5_1, 0, none⟩) := (T.rest 5 (by kernel_rfl)).trans h5_2
  have h6_3 : act3.eval (.tmp 6) = .bool false := (T.rest 6 (by kernel_rfl)).trans h6_2
  have h13_3 : act3.eval (.tmp 13) = .bool q13 := (T.rest 13 (by kernel_rfl)).trans h13_2
  have kg3_1_3 := (T.below.block _ lg3_1_2).trans kg3_1_2
  have lg3_1_3 := Nat.lt_of_lt_of_le lg3_1_2 T.below.size
  have kg4_1_3 := (T.below.block _ lg4_1_2).trans kg4_1_2
  have lg4_1_3 := Nat.lt_of_lt_of_le lg4_1_2 T.below.size
  have kg5_1_3 := (T.below.block _ lg5_1_2).trans kg5_1_2
  have lg5_1_3 := Nat.lt_of_lt_of_le lg5_1_2 T.below.size
  obtain ⟨g7_3, h7_3, rg7_3, lg7_3_3, kg7_3_3⟩ := T.st 3 7 6 _ _ _ rfl rfl rfl rfl rfl
  have og7_3 : w.heap.size ≤ g7_3 := Nat.le_trans bl2.size rg7_3
  obtain ⟨g8_3, h8_3, rg8_3, lg8_3_3, kg8_3_3⟩ := T.st 4 8 7 _ _ _ rfl rfl rfl rfl rfl
  have og8_3 : w.heap.size ≤ g8_3 := Nat.le_trans bl2.size rg8_3
  obtain ⟨g9_3, h9_3, rg9_3, lg9_3_3, kg9_3_3⟩ := T.st 5 9 8 _ _ _ rfl rfl rfl rfl rfl
  have og9_3 : w.heap.size ≤ g9_3 := Nat.le_trans bl2.size rg9_3
  have d3 := T.defers.trans d2
  have s3 := T.size.trans s2
  have bl3 := bl2.trans (T.below.mono bl2.size)
  clear T
  refine Eng.tail_nil ?_
  show Code.wp Tryd.prog _ _ _ _
  refine wp_seq ?_
  refine Eng.regionD (Eng.still [fun v => v = .agg #[.int .i64 a0, .int .u64 a1], fun v => v = .agg #[.int .i64 b0, .int .u64 b1], fun v => v = .agg #[.int .i64 (mx a0 b0), .int .u64 (Go.bits .or .u64 a1 b1)], fun v => v = .agg #[.int .i64 a0, .int .u64 a1], fun v => v = .agg #[.int .i64 b0, .int .u64 b1], fun v => v = .agg #[.int .i64 (mn a0 b0), .int .u64 (Go.bits .and .u64 a1 b1)], fun v => True, fun v => True, fun v => True, fun v => True]) (fun i => ([.plain, .plain, .plain, .plain, .plain, .plain, .alloc 30 #[.int .i64 0, .int .u64 0], .alloc 30 #[.int .i64 0, .int .u64 0], .store 6 #[.int .i64 (mx a0 b0), .int .u64 (Go.bits .or .u64 a1 b1)], .store 7 #[.int .i64 (mn a0 b0), .int .u64 (Go.bits .and .u64 a1 b1)]] : List Eng.Kind).getD i .plain) 10 0 71 (by kernel_rfl) s3 rfl (by kernel_rfl) (Eng.still_stable _) (Or.inr (Eng.still_any _)) ?_ ?_
  · refine Eng.Steps.cons (fun _ => ?_) (Eng.Steps.cons (fun _ => ?_) (Eng.Steps.cons (fun _ => ?_) (Eng.Steps.cons (fun _ => ?_) (Eng.Steps.cons (fun _ => ?_) (Eng.Steps.cons (fun _ => ?_) (Eng.Steps.cons (fun _ => ?_) (Eng.Steps.cons (fun _ => ?_) (Eng.Steps.cons (fun _ => ?_) (Eng.Steps.cons (fun _ => ?_) (Eng.Steps.nil))))))))))
    · refine Eng.plain rfl rfl fun a w' H => ?_
      have kb := (H.below.block _ lg7_3_3).trans kg7_3_3
      have z0 : w'.cell? ⟨g7_3, 0, none⟩ = some (.int .i64 a0) := (Eng.cells kb 0).trans rfl
      have z1 : w'.cell? ⟨g7_3, 1, none⟩ = some (.int .u64 a1) := (Eng.cells kb 1).trans rfl
      refine Eng.val (w1 := w') (v := .agg #[.int .i64 a0, .int .u64 a1]) ?_ (Below.refl _ _) rfl
      have e0 : a.eval (.tmp 7) = .pointer (some ⟨g7_3, 0, none⟩) := ((H.kept 7 (by kernel_rfl)).trans h7_3)
      simp only [execOp, resolve, List.map_toArray, List.map_cons, List.map_nil, e0]
      go_simp
      all_goals first | rfl | (simp; done) | omega
    · refine Eng.plain rfl rfl fun a w' H => ?_
      have kb := (H.below.block _ lg8_3_3).trans kg8_3_3
      have z0 : w'.cell? ⟨g8_3, 0, none⟩ = some (.int .i64 b0) := (Eng.cells kb 0).trans rfl
      have z1 : w'.cell? ⟨g8_3, 1, none⟩ = some (.int .u64 b1) := (Eng.cells kb 1).trans rfl
      refine Eng.val (w1 := w') (v := .agg #[.int .i64 b0, .int .u64 b1]) ?_ (Below.refl _ _) rfl
      have e0 : a.eval (.tmp 8) = .pointer (some ⟨g8_3, 0, none⟩) := ((H.kept 8 (by kernel_rfl)).trans h8_3)
      simp only [execOp, resolve, List.map_toArray, List.map_cons, List.map_nil, e0]
      go_simp
      all_goals first | rfl | (simp; done) | omega
    · refine Eng.plain rfl rfl fun a w' H => ?_
      refine Eng.call Tryd.func18 (by kernel_rfl) (by kernel_rfl) rfl #[.agg #[.int .i64 a0, .int .u64 a1], .agg #[.int .i64 b0, .int .u64 b1]] ?_ ?_
      · have e0 : a.eval (.tmp 17) = .agg #[.int .i64 a0, .int .u64 a1] := (H.dep 0 17 (by kernel_rfl) rfl); have e1 : a.eval (.tmp 18) = .agg #[.int .i64 b0, .int .u64 b1] := (H.dep 1 18 (by kernel_rfl) rfl); simp only [List.map_toArray, List.map_cons, List.map_nil, e0, e1]
      refine (lattice_Join.calls a0 a1 b0 b1 _ _ _ (Lat.join a0 a1 b0 b1)).mono ?_
      rintro e w'' ⟨rfl, hb⟩
      exact ⟨_, rfl, rfl, hb⟩
    · refine Eng.plain rfl rfl fun a w' H => ?_
      have kb := (H.below.block _ lg7_3_3).trans kg7_3_3
      have z0 : w'.cell? ⟨g7_3, 0, none⟩ = some (.int .i64 a0) := (Eng.cells kb 0).trans rfl
      have z1 : w'.cell? ⟨g7_3, 1, none⟩ = some (.int .u64 a1) := (Eng.cells kb 1).trans rfl
      refine Eng.val (w1 := w') (v := .agg #[.int .i64 a0, .int .u64 a1]) ?_ (Below.refl _ _) rfl
      have e0 : a.eval (.tmp 7) = .pointer (some ⟨g7_3, 0, none⟩) := ((H.kept 7 (by kernel_rfl)).trans h7_3)
      simp only [execOp, resolve, List.map_toArray, List.map_cons, List.map_nil, e0]
      go_simp
      all_goals first | rfl | (simp; done) | omega
    · refine Eng.plain rfl rfl fun a w' H => ?_
      have kb := (H.below.block _ lg8_3_3).trans kg8_3_3
      have z0 : w'.cell? ⟨g8_3, 0, none⟩ = some (.int .i64 b0) := (Eng.cells kb 0).trans rfl
      have z1 : w'.cell? ⟨g8_3, 1, none⟩ = some (.int .u64 b1) := (Eng.cells kb 1).trans rfl
      refine Eng.val (w1 := w') (v := .agg #[.int .i64 b0, .int .u64 b1]) ?_ (Below.refl _ _) rfl
      have e0 : a.eval (.tmp 8) = .pointer (some ⟨g8_3, 0, none⟩) := ((H.kept 8 (by kernel_rfl)).trans h8_3)
      simp only [execOp, resolve, List.map_toArray, List.map_cons, List.map_nil, e0]
      go_simp
      all_goals first | rfl | (simp; done) | omega
    · refine Eng.plain rfl rfl fun a w' H => ?_
      refine Eng.call Tryd.func20 (by kernel_rfl) (by kernel_rfl) rfl #[.agg #[.int .i64 a0, .int .u64 a1], .agg #[.int .i64 b0, .int .u64 b1]] ?_ ?_
      · have e0 : a.eval (.tmp 20) = .agg #[.int .i64 a0, .int .u64 a1] := (H.dep 3 20 (by kernel_rfl) rfl); have e1 : a.eval (.tmp 21) = .agg #[.int .i64 b0, .int .u64 b1] := (H.dep 4 21 (by kernel_rfl) rfl); simp only [List.map_toArray, List.map_cons, List.map_nil, e0, e1]
      refine (lattice_Meet.calls a0 a1 b0 b1 _ _ _ (Lat.meet a0 a1 b0 b1)).mono ?_
      rintro e w'' ⟨rfl, hb⟩
      exact ⟨_, rfl, rfl, hb⟩
    · refine Eng.made rfl (by simp) rfl (fun a w' hd ho => ?_) (fun _ _ => trivial)
      simp only [execOp]
      go_simp
    · refine Eng.made rfl (by simp) rfl (fun a w' hd ho => ?_) (fun _ _ => trivial)
      simp only [execOp]
      go_simp
    · refine Eng.stored [.int .i64 (mx a0 b0), .int .u64 (Go.bits .or .u64 a1 b1)] rfl rfl rfl (j := 6) (d := 10) (by kernel_rfl) rfl rfl (Eng.store_uniq (by kernel_rfl)) rfl rfl fun a w' g e hc hd ho => ?_
      have e0 : a.eval _ = .agg #[.int .i64 (mx a0 b0), .int .u64 (Go.bits .or .u64 a1 b1)] := (hd 2 19 (by kernel_rfl) rfl)
      have z0 := (Eng.cells hc 0).trans rfl
      have z1 := (Eng.cells hc 1).trans rfl
      have f0 := Eng.unfrozen hc 0
      have f1 := Eng.unfrozen hc 1
      simp only [execOp, e, e0]
      go_simp
      rfl
    · refine Eng.stored [.int .i64 (mn a0 b0), .int .u64 (Go.bits .and .u64 a1 b1)] rfl rfl rfl (j := 7) (d := 11) (by kernel_rfl) rfl rfl (Eng.store_uniq (by kernel_rfl)) rfl rfl fun a w' g e hc hd ho => ?_
      have e0 : a.eval _ = .agg #[.int .i64 (mn a0 b0), .int .u64 (Go.bits .and .u64 a1 b1)] := (hd 5 22 (by kernel_rfl) rfl)
      have z0 := (Eng.cells hc 0).trans rfl
      have z1 := (Eng.cells hc 1).trans rfl
      have f0 := Eng.unfrozen hc 0
      have f1 := Eng.unfrozen hc 1
      simp only [execOp, e, e0]
      go_simp
      rfl
  intro act4 w4 T
  have h0_4 : act4.eval (.tmp 0) = .agg #[.int .i64 a0, .int .u64 a1] := (T.rest 0 (by kernel_rfl)).trans h0_3
  have h1_4 : act4.eval (.tmp 1) = .agg #[.int .i64 b0, .int .u64 b1] := (T.rest 1 (by kernel_rfl)).trans h1_3
  have h2_4 : act4.eval (.tmp 2) = .agg #[.int .i64 c0, .int .u64 c1] := (T.rest 2 (by kernel_rfl)).trans h2_3
  have h3_4 : act4.eval (.tmp 3) = .pointer (some ⟨g3_1, 0, none⟩) := (T.rest 3 (by kernel_rfl)).trans h3_3
  have h4_4 : act4.eval (.tmp 4) = .pointer (some ⟨g4_1, 0, none⟩) := (T.rest 4 (by kernel_rfl)).trans h4_3
  have h5_4 : act4.eval (.tmp 5) = .pointer (some ⟨g5_1, 0, none⟩) := (T.rest 5 (by kernel_rfl)).trans h5_3
  have h6_4 : act4.eval (.tmp 6) = .bool false := (T.rest 6 (by kernel_rfl)).trans h6_3
  have h7_4 : act4.eval (.tmp 7) = .pointer (some ⟨g7_3, 0, none⟩) := (T.rest 7 (by kernel_rfl)).trans h7_3
  have h8_4 : act4.eval (.tmp 8) = .pointer (some ⟨g8_3, 0, none⟩) := (T.rest 8 (by kernel_rfl)).trans h8_3
  have h9_4 : act4.eval (.tmp 9) = .pointer (some ⟨g9_3, 0, none⟩) := (T.rest 9 (by kernel_rfl)).trans h9_3
  have h13_4 : act4.eval (.tmp 13) = .bool q13 := (T.rest 13 (by kernel_rfl)).trans h13_3
  have kg3_1_4 := (T.below.block _ lg3_1_3).trans kg3_1_3
  have lg3_1_4 := Nat.lt_of_lt_of_le lg3_1_3 T.below.size
  have kg4_1_4 := (T.below.block _ lg4_1_3).trans kg4_1_3
  have lg4_1_4 := Nat.lt_of_lt_of_le lg4_1_3 T.below.size
  have kg5_1_4 := (T.below.block _ lg5_1_3).trans kg5_1_3
  have lg5_1_4 := Nat.lt_of_lt_of_le lg5_1_3 T.below.size
  have kg7_3_4 := (T.below.block _ lg7_3_3).trans kg7_3_3
  have lg7_3_4 := Nat.lt_of_lt_of_le lg7_3_3 T.below.size
  have kg8_3_4 := (T.below.block _ lg8_3_3).trans kg8_3_3
  have lg8_3_4 := Nat.lt_of_lt_of_le lg8_3_3 T.below.size
  have kg9_3_4 := (T.below.block _ lg9_3_3).trans kg9_3_3
  have lg9_3_4 := Nat.lt_of_lt_of_le lg9_3_3 T.below.size
  obtain ⟨g10_4, h10_4, rg10_4, lg10_4_4, kg10_4_4⟩ := T.st 6 10 8 _ _ _ rfl rfl rfl rfl rfl
  have og10_4 : w.heap.size ≤ g10_4 := Nat.le_trans bl3.size rg10_4
  obtain ⟨g11_4, h11_4, rg11_4, lg11_4_4, kg11_4_4⟩ := T.st 7 11 9 _ _ _ rfl rfl rfl rfl rfl
  have og11_4 : w.heap.size ≤ g11_4 := Nat.le_trans bl3.size rg11_4
  have d4 := T.defers.trans d3
  have s4 := T.size.trans s3
  have bl4 := bl3.trans (T.below.mono bl3.size)
  clear T
  refine Eng.tail_nil ?_
  show Code.wp Tryd.prog _ _ _ _
  refine wp_seq ?_
  refine wp_seq ?_
  obtain ⟨q25, Bq25⟩ : ∃ b : Bool, b = (Lat.ov (mx a0 b0) (Go.bits .or .u64 a1 b1) a0 a1) := ⟨_, rfl⟩
  obtain ⟨q26, Bq26⟩ : ∃ b : Bool, b = (!q25) := ⟨_, rfl⟩
  obtain ⟨q30, Bq30⟩ : ∃ b : Bool, b = (Lat.ov (mx a0 b0) (Go.bits .or .u64 a1 b1) b0 b1) := ⟨_, rfl⟩
  obtain ⟨q31, Bq31⟩ : ∃ b : Bool, b = (!q30) := ⟨_, rfl⟩
  obtain ⟨q32, Bq32⟩ : ∃ b : Bool, b = (q26 || q31) := ⟨_, rfl⟩
  obtain ⟨q36, Bq36⟩ : ∃ b : Bool, b = (Lat.ov a0 a1 (mn a0 b0) (Go.bits .and .u64 a1 b1)) := ⟨_, rfl⟩
  obtain ⟨q37, Bq37⟩ : ∃ b : Bool, b = (!q36) := ⟨_, rfl⟩
  obtain ⟨q38, Bq38⟩ : ∃ b : Bool, b = (q32 || q37) := ⟨_, rfl⟩
  obtain ⟨q42, Bq42⟩ : ∃ b : Bool, b = (Lat.ov b0 b1 (mn a0 b0) (Go.bits .and .u64 a1 b1)) := ⟨_, rfl⟩
  obtain ⟨q43, Bq43⟩ : ∃ b : Bool, b = (!q42) := ⟨_, rfl⟩
  obtain ⟨q44, Bq44⟩ : ∃ b : Bool, b = (q38 || q43) := ⟨_, rfl⟩
  refine Eng.regionS (Eng.still [fun v => v = .agg #[.int .i64 (mx a0 b0), .int .u64 (Go.bits .or .u64 a1 b1)], fun v => v = .agg #[.int .i64 a0, .int .u64 a1], fun v => v = .bool q25, fun v => v = .bool q26, fun v => v = .bool q26, fun v => v = bif (q26 == false) then (.agg #[.int .i64 (mx a0 b0), .int .u64 (Go.bits .or .u64 a1 b1)]) else undef, fun v => v = bif (q26 == false) then (.agg #[.int .i64 b0, .int .u64 b1]) else undef, fun v => v = bif (q26 == false) then (.bool q30) else undef, fun v => v = bif (q26 == false) then (.bool q31) else undef, fun v => v = .bool q32, fun v => v = .bool q32, fun v => v = bif (q32 == false) then (.agg #[.int .i64 a0, .int .u64 a1]) else undef, fun v => v = bif (q32 == false) then (.agg #[.int .i64 (mn a0 b0), .int .u64 (Go.bits .and .u64 a1 b1)]) else undef, fun v => v = bif (q32 == false) then (.bool q36) else undef, fun v => v = bif (q32 == false) then (.bool q37) else undef, fun v => v = .bool q38, fun v => v = .bool q38, fun v => v = bif (q38 == false) then (.agg #[.int .i64 b0, .int .u64 b1]) else undef, fun v => v = bif (q38 == false) then (.agg #[.int .i64 (mn a0 b0), .int .u64 (Go.bits .and .u64 a1 b1)]) else undef, fun v => v = bif (q38 == false) then (.bool q42) else undef, fun v => v = bif (q38 == false) then (.bool q43) else undef, fun v => v = .bool q44]) (fun i => ([.plain, .plain, .plain, .plain, .plain, .plain, .plain, .plain, .plain, .plain, .plain, .plain, .plain, .plain, .plain, .plain, .plain, .plain, .plain, .plain, .plain, .plain] : List Eng.Kind).getD i .plain) 22 0 71 s4 rfl (by kernel_rfl) (Eng.still_stable _) (Or.inr (Eng.still_any _)) ?_ ?_
  · refine Eng.Steps.cons (fun _ => ?_) (Eng.Steps.cons (fun _ => ?_) (Eng.Steps.cons (fun _ => ?_) (Eng.Steps.cons (fun _ => ?_) (Eng.Steps.cons (fun _ => ?_) (Eng.Steps.cons (fun _ => ?_) (Eng.Steps.cons (fun _ => ?_) (Eng.Steps.cons (fun _ => ?_) (Eng.Steps.cons (fun _ => ?_) (Eng.Steps.cons (fun _ => ?_) (Eng.Steps.cons (fun _ => ?_) (Eng.Steps.cons (fun _ => ?_) (Eng.Steps.cons (fun _ => ?_) (Eng.Steps.cons (fun _ => ?_) (Eng.Steps.cons (fun _ => ?_) (Eng.Steps.cons (fun _ => ?_) (Eng.Steps.cons (fun _ => ?_) (Eng.Steps.cons (fun _ => ?_) (Eng.Steps.cons (fun _ => ?_) (Eng.Steps.cons (fun _ => ?_) (Eng.Steps.cons (fun _ => ?_) (Eng.Steps.cons (fun _ => ?_) (Eng.Steps.nil))))))))))))))))))))))
    · refine Eng.plain rfl rfl fun a w' H => ?_
      have kb := (H.below.block _ lg10_4_4).trans kg10_4_4
      have z0 : w'.cell? ⟨g10_4, 0, none⟩ = some (.int .i64 (mx a0 b0)) := (Eng.cells kb 0).trans rfl
      have z1 : w'.cell? ⟨g10_4, 1, none⟩ = some (.int .u64 (Go.bits .or .u64 a1 b1)) := (Eng.cells kb 1).trans rfl
      refine Eng.val (w1 := w') (v := .agg #[.int .i64 (mx a0 b0), .int .u64 (Go.bits .or .u64 a1 b1)]) ?_ (Below.refl _ _) rfl
      have e0 : a.eval (.tmp 10) = .pointer (some ⟨g10_4, 0, none⟩) := ((H.kept 10 (by kernel_rfl)).trans h10_4)
      simp only [execOp, resolve, List.map_toArray, List.map_cons, List.map_nil, e0]
      go_simp
      all_goals first | rfl | (simp; done) | omega
    · refine Eng.plain rfl rfl fun a w' H => ?_
      have kb := (H.below.block _ lg7_3_4).trans kg7_3_4
      have z0 : w'.cell? ⟨g7_3, 0, none⟩ = some (.int .i64 a0) := (Eng.cells kb 0).trans rfl
      have z1 : w'.cell? ⟨g7_3, 1, none⟩ = some (.int .u64 a1) := (Eng.cells kb 1).trans rfl
      refine Eng.val (w1 := w') (v := .agg #[.int .i64 a0, .int .u64 a1]) ?_ (Below.refl _ _) rfl
      have e0 : a.eval (.tmp 7) = .pointer (some ⟨g7_3, 0, none⟩) := ((H.kept 7 (by kernel_rfl)).trans h7_4)
      simp only [execOp, resolve, List.map_toArray, List.map_cons, List.map_nil, e0]
      go_simp
      all_goals first | rfl | (simp; done) | omega
    · refine Eng.plain rfl rfl fun a w' H => ?_
      refine Eng.call Tryd.func22 (by kernel_rfl) (by kernel_rfl) rfl #[.agg #[.int .i64 (mx a0 b0), .int .u64 (Go.bits .or .u64 a1 b1)], .agg #[.int .i64 a0, .int .u64 a1]] ?_ ?_
      · have e0 : a.eval (.tmp 23) = .agg #[.int .i64 (mx a0 b0), .int .u64 (Go.bits .or .u64 a1 b1)] := (H.dep 0 23 (by kernel_rfl) rfl); have e1 : a.eval (.tmp 24) = .agg #[.int .i64 a0, .int .u64 a1] := (H.dep 1 24 (by kernel_rfl) rfl); simp only [List.map_toArray, List.map_cons, List.map_nil, e0, e1]
      refine (lattice_Over.calls (mx a0 b0) (Go.bits .or .u64 a1 b1) a0 a1 (Lat.ov (mx a0 b0) (Go.bits .or .u64 a1 b1) a0 a1) _ (Lat.over (mx a0 b0) (Go.bits .or .u64 a1 b1) a0 a1)).mono ?_
      rintro e w'' ⟨rfl, hb⟩
      exact ⟨_, rfl, (by show _ = Value.bool q25; rw [Bq25]), hb⟩
    · refine Eng.plain rfl rfl fun a w' H => ?_
      exact Eng.val (w1 := w') (v := .bool (!q25)) (Eng.run_not rfl (H.dep 2 25 (by kernel_rfl) rfl)) (Below.refl _ _) (by show _ = Value.bool q26; rw [Bq26])
    · refine Eng.plain rfl rfl fun a w' H => ?_
      exact Eng.val (w1 := w') (v := .bool q26) (Eng.run_move rfl (H.dep 3 26 (by kernel_rfl) rfl)) (Below.refl _ _) rfl
    · refine Eng.guarded1 (j := 4) (d := 27) (b := q26) rfl rfl (by kernel_rfl) rfl (fun v w h => h) (fun hG w => Eng.off hG) fun hG a w' H => ?_
      have kb := (H.below.block _ lg10_4_4).trans kg10_4_4
      have z0 : w'.cell? ⟨g10_4, 0, none⟩ = some (.int .i64 (mx a0 b0)) := (Eng.cells kb 0).trans rfl
      have z1 : w'.cell? ⟨g10_4, 1, none⟩ = some (.int .u64 (Go.bits .or .u64 a1 b1)) := (Eng.cells kb 1).trans rfl
      refine Eng.val (w1 := w') (v := .agg #[.int .i64 (mx a0 b0), .int .u64 (Go.bits .or .u64 a1 b1)]) ?_ (Below.refl _ _) (Eng.off' hG rfl)
      have e0 : a.eval (.tmp 10) = .pointer (some ⟨g10_4, 0, none⟩) := ((H.kept 10 (by kernel_rfl)).trans h10_4)
      simp only [execOp, resolve, List.map_toArray, List.map_cons, List.map_nil, e0]
      go_simp
      all_goals first | rfl | (simp; done) | omega
    · refine Eng.guarded1 (j := 4) (d := 27) (b := q26) rfl rfl (by kernel_rfl) rfl (fun v w h => h) (fun hG w => Eng.off hG) fun hG a w' H => ?_
      have kb := (H.below.block _ lg8_3_4).trans kg8_3_4
      have z0 : w'.cell? ⟨g8_3, 0, none⟩ = some (.int .i64 b0) := (Eng.cells kb 0).trans rfl
      have z1 : w'.cell? ⟨g8_3, 1, none⟩ = some (.int .u64 b1) := (Eng.cells kb 1).trans rfl
      refine Eng.val (w1 := w') (v := .agg #[.int .i64 b0, .int .u64 b1]) ?_ (Below.refl _ _) (Eng.off' hG rfl)
      have e0 : a.eval (.tmp 8) = .pointer (some ⟨g8_3, 0, none⟩) := ((H.kept 8 (by kernel_rfl)).trans h8_4)
      simp only [execOp, resolve, List.map_toArray, List.map_cons, List.map_nil, e0]
      go_simp
      all_goals first | rfl | (simp; done) | omega
    · refine Eng.guarded1 (j := 4) (d := 27) (b := q26) rfl rfl (by kernel_rfl) rfl (fun v w h => h) (fun hG w => Eng.off hG) fun hG a w' H => ?_
      refine Eng.call Tryd.func22 (by kernel_rfl) (by kernel_rfl) rfl #[.agg #[.int .i64 (mx a0 b0), .int .u64 (Go.bits .or .u64 a1 b1)], .agg #[.int .i64 b0, .int .u64 b1]] ?_ ?_
      · have e0 : a.eval (.tmp 28) = .agg #[.int .i64 (mx a0 b0), .int .u64 (Go.bits .or .u64 a1 b1)] := (Eng.on (H.dep 5 28 (by kernel_rfl) rfl) hG); have e1 : a.eval (.tmp 29) = .agg #[.int .i64 b0, .int .u64 b1] := (Eng.on (H.dep 6 29 (by kernel_rfl) rfl) hG); simp only [List.map_toArray, List.map_cons, List.map_nil, e0, e1]
      refine (lattice_Over.calls (mx a0 b0) (Go.bits .or .u64 a1 b1) b0 b1 (Lat.ov (mx a0 b0) (Go.bits .or .u64 a1 b1) b0 b1) _ (Lat.over (mx a0 b0) (Go.bits .or .u64 a1 b1) b0 b1)).mono ?_
      rintro e w'' ⟨rfl, hb⟩
      exact ⟨_, rfl, (Eng.off' hG (by rw [Bq30])), hb⟩
    · refine Eng.guarded1 (j := 4) (d := 27) (b := q26) rfl rfl (by kernel_rfl) rfl (fun v w h => h) (fun hG w => Eng.off hG) fun hG a w' H => ?_
      exact Eng.val (w1 := w') (v := .bool (!q30)) (Eng.run_not rfl (Eng.on (H.dep 7 30 (by kernel_rfl) rfl) hG)) (Below.refl _ _) (Eng.off' hG (by rw [Bq31]))
    · refine Eng.plain rfl rfl fun a w' H => ?_
      exact Eng.val (w1 := w') (v := .bool (q26 || q31)) (Eng.run_or rfl rfl (G := true) (H.dep 4 27 (by kernel_rfl) rfl) (fun hb => (Eng.on (H.dep 8 31 (by kernel_rfl) rfl) (Eng.mk1 hb)))) (Below.refl _ _) (by show _ = Value.bool q32; rw [Bq32])
    · refine Eng.plain rfl rfl fun a w' H => ?_
      exact Eng.val (w1 := w') (v := .bool q32) (Eng.run_move rfl (H.dep 9 32 (by kernel_rfl) rfl)) (Below.refl _ _) rfl
    · refine Eng.guarded1 (j := 10) (d := 33) (b := q32) rfl rfl (by kernel_rfl) rfl (fun v w h => h) (fun hG w => Eng.off hG) fun hG a w' H => ?_
      have kb := (H.below.block _ lg7_3_4).trans kg7_3_4
      have z0 : w'.cell? ⟨g7_3, 0, none⟩ = some (.int .i64 a0) := (Eng.cells kb 0).trans rfl
      have z1 : w'.cell? ⟨g7_3, 1, none⟩ = some (.int .u64 a1) := (Eng.cells kb 1).trans rfl
      refine Eng.val (w1 := w') (v := .agg #[.int .i64 a0, .int .u64 a1]) ?_ (Below.refl _ _) (Eng.off' hG rfl)
      have e0 : a.eval (.tmp 7) = .pointer (some ⟨g7_3, 0, none⟩) := ((H.kept 7 (by kernel_rfl)).trans h7_4)
      simp only [execOp, resolve, List.map_toArray, List.map_cons, List.map_nil, e0]
      go_simp
      all_goals first | rfl | (simp; done) | omega
    · refine Eng.guarded1 (j := 10) (d := 33) (b := q32) rfl rfl (by kernel_rfl) rfl (fun v w h => h) (fun hG w => Eng.off hG) fun hG a w' H => ?_
      have kb := (H.below.block _ lg11_4_4).trans kg11_4_4
      have z0 : w'.cell? ⟨g11_4, 0, none⟩ = some (.int .i64 (mn a0 b0)) := (Eng.cells kb 0).trans rfl
      have z1 : w'.cell? ⟨g11_4, 1, none⟩ = some (.int .u64 (Go.bits .and .u64 a1 b1)) := (Eng.cells kb 1).trans rfl
      refine Eng.val (w1 := w') (v := .agg #[.int .i64 (mn a0 b0), .int .u64 (Go.bits .and .u64 a1 b1)]) ?_ (Below.refl _ _) (Eng.off' hG rfl)
      have e0 : a.eval (.tmp 11) = .pointer (some ⟨g11_4, 0, none⟩) := ((H.kept 11 (by kernel_rfl)).trans h11_4)
      simp only [execOp, resolve, List.map_toArray, List.map_cons, List.map_nil, e0]
      go_simp
      all_goals first | rfl | (simp; done) | omega
    · refine Eng.guarded1 (j := 10) (d := 33) (b := q32) rfl rfl (by kernel_rfl) rfl (fun v w h => h) (fun hG w => Eng.off hG) fun hG a w' H => ?_
      refine Eng.call Tryd.func22 (by kernel_rfl) (by kernel_rfl) rfl #[.agg #[.int .i64 a0, .int .u64 a1], .agg #[.int .i64 (mn a0 b0), .int .u64 (Go.bits .and .u64 a1 b1)]] ?_ ?_
      · have e0 : a.eval (.tmp 34) = .agg #[.int .i64 a0, .int .u64 a1] := (Eng.on (H.dep 11 34 (by kernel_rfl) rfl) hG); have e1 : a.eval (.tmp 35) = .agg #[.int .i64 (mn a0 b0), .int .u64 (Go.bits .and .u64 a1 b1)] := (Eng.on (H.dep 12 35 (by kernel_rfl) rfl) hG); simp only [List.map_toArray, List.map_cons, List.map_nil, e0, e1]
      refine (lattice_Over.calls a0 a1 (mn a0 b0) (Go.bits .and .u64 a1 b1) (Lat.ov a0 a1 (mn a0 b0) (Go.bits .and .u64 a1 b1)) _ (Lat.over a0 a1 (mn a0 b0) (Go.bits .and .u64 a1 b1))).mono ?_
      rintro e w'' ⟨rfl, hb⟩
      exact ⟨_, rfl, (Eng.off' hG (by rw [Bq36])), hb⟩
    · refine Eng.guarded1 (j := 10) (d := 33) (b := q32) rfl rfl (by kernel_rfl) rfl (fun v w h => h) (fun hG w => Eng.off hG) fun hG a w' H => ?_
      exact Eng.val (w1 := w') (v := .bool (!q36)) (Eng.run_not rfl (Eng.on (H.dep 13 36 (by kernel_rfl) rfl) hG)) (Below.refl _ _) (Eng.off' hG (by rw [Bq37]))
    · refine Eng.plain rfl rfl fun a w' H => ?_
      exact Eng.val (w1 := w') (v := .bool (q32 || q37)) (Eng.run_or rfl rfl (G := true) (H.dep 10 33 (by kernel_rfl) rfl) (fun hb => (Eng.on (H.dep 14 37 (by kernel_rfl) rfl) (Eng.mk1 hb)))) (Below.refl _ _) (by show _ = Value.bool q38; rw [Bq38])
    · refine Eng.plain rfl rfl fun a w' H => ?_
      exact Eng.val (w1 := w') (v := .bool q38) (Eng.run_move rfl (H.dep 15 38 (by kernel_rfl) rfl)) (Below.refl _ _) rfl
    · refine Eng.guarded1 (j := 16) (d := 39) (b := q38) rfl rfl (by kernel_rfl) rfl (fun v w h => h) (fun hG w => Eng.off hG) fun hG a w' H => ?_
      have kb := (H.below.block _ lg8_3_4).trans kg8_3_4
      have z0 : w'.cell? ⟨g8_3, 0, none⟩ = some (.int .i64 b0) := (Eng.cells kb 0).trans rfl
      have z1 : w'.cell? ⟨g8_3, 1, none⟩ = some (.int .u64 b1) := (Eng.cells kb 1).trans rfl
      refine Eng.val (w1 := w') (v := .agg #[.int .i64 b0, .int .u64 b1]) ?_ (Below.refl _ _) (Eng.off' hG rfl)
      have e0 : a.eval (.tmp 8) = .pointer (some ⟨g8_3, 0, none⟩) := ((H.kept 8 (by kernel_rfl)).trans h8_4)
      simp only [execOp, resolve, List.map_toArray, List.map_cons, List.map_nil, e0]
      go_simp
      all_goals first | rfl | (simp; done) | omega
    · refine Eng.guarded1 (j := 16) (d := 39) (b := q38) rfl rfl (by kernel_rfl) rfl (fun v w h => h) (fun hG w => Eng.off hG) fun hG a w' H => ?_
      have kb := (H.below.block _ lg11_4_4).trans kg11_4_4
      have z0 : w'.cell? ⟨g11_4, 0, none⟩ = some (.int .i64 (mn a0 b0)) := (Eng.cells kb 0).trans rfl
      have z1 : w'.cell? ⟨g11_4, 1, none⟩ = some (.int .u64 (Go.bits .and .u64 a1 b1)) := (Eng.cells kb 1).trans rfl
      refine Eng.val (w1 := w') (v := .agg #[.int .i64 (mn a0 b0), .int .u64 (Go.bits .and .u64 a1 b1)]) ?_ (Below.refl _ _) (Eng.off' hG rfl)
      have e0 : a.eval (.tmp 11) = .pointer (some ⟨g11_4, 0, none⟩) := ((H.kept 11 (by kernel_rfl)).trans h11_4)
      simp only [execOp, resolve, List.map_toArray, List.map_cons, List.map_nil, e0]
      go_simp
      all_goals first | rfl | (simp; done) | omega
    · refine Eng.guarded1 (j := 16) (d := 39) (b := q38) rfl rfl (by kernel_rfl) rfl (fun v w h => h) (fun hG w => Eng.off hG) fun hG a w' H => ?_
      refine Eng.call Tryd.func22 (by kernel_rfl) (by kernel_rfl) rfl #[.agg #[.int .i64 b0, .int .u64 b1], .agg #[.int .i64 (mn a0 b0), .int .u64 (Go.bits .and .u64 a1 b1)]] ?_ ?_
      · have e0 : a.eval (.tmp 40) = .agg #[.int .i64 b0, .int .u64 b1] := (Eng.on (H.dep 17 40 (by kernel_rfl) rfl) hG); have e1 : a.eval (.tmp 41) = .agg #[.int .i64 (mn a0 b0), .int .u64 (Go.bits .and .u64 a1 b1)] := (Eng.on (H.dep 18 41 (by kernel_rfl) rfl) hG); simp only [List.map_toArray, List.map_cons, List.map_nil, e0, e1]
      refine (lattice_Over.calls b0 b1 (mn a0 b0) (Go.bits .and .u64 a1 b1) (Lat.ov b0 b1 (mn a0 b0) (Go.bits .and .u64 a1 b1)) _ (Lat.over b0 b1 (mn a0 b0) (Go.bits .and .u64 a1 b1))).mono ?_
      rintro e w'' ⟨rfl, hb⟩
      exact ⟨_, rfl, (Eng.off' hG (by rw [Bq42])), hb⟩
    · refine Eng.guarded1 (j := 16) (d := 39) (b := q38) rfl rfl (by kernel_rfl) rfl (fun v w h => h) (fun hG w => Eng.off hG) fun hG a w' H => ?_
      exact Eng.val (w1 := w') (v := .bool (!q42)) (Eng.run_not rfl (Eng.on (H.dep 19 42 (by kernel_rfl) rfl) hG)) (Below.refl _ _) (Eng.off' hG (by rw [Bq43]))
    · refine Eng.plain rfl rfl fun a w' H => ?_
      exact Eng.val (w1 := w') (v := .bool (q38 || q43)) (Eng.run_or rfl rfl (G := true) (H.dep 16 39 (by kernel_rfl) rfl) (fun hb => (Eng.on (H.dep 20 43 (by kernel_rfl) rfl) (Eng.mk1 hb)))) (Below.refl _ _) (by show _ = Value.bool q44; rw [Bq44])
  intro act5 w5 T
  have h0_5 : act5.eval (.tmp 0) = .agg #[.int .i64 a0, .int .u64 a1] := (T.rest 0 (by kernel_rfl)).trans h0_4
  have h1_5 : act5.eval (.tmp 1) = .agg #[.int .i64 b0, .int .u64 b1] := (T.rest 1 (by kernel_rfl)).trans h1_4
  have h2_5 : act5.eval (.tmp 2) = .agg #[.int .i64 c0, .int .u64 c1] := (T.rest 2 (by kernel_rfl)).trans h2_4
  have h3_5 : act5.eval (.tmp 3) = .pointer (some ⟨g3_1, 0, none⟩) := (T.rest 3 (by kernel_rfl)).trans h3_4
  have h4_5 : act5.eval (.tmp 4) = .pointer (some ⟨g4_1, 0, none⟩) := (T.rest 4 (by kernel_rfl)).trans h4_4
  have h5_5 : act5.eval (.tmp 5) = .pointer (some ⟨g5_1, 0, none⟩) := (T.rest 5 (by kernel_rfl)).trans h5_4
  have h6_5 : act5.eval (.tmp 6) = .bool false := (T.rest 6 (by kernel_rfl)).trans h6_4
  have h7_5 : act5.eval (.tmp 7) = .pointer (some ⟨g7_3, 0, none⟩) := (T.rest 7 (by kernel_rfl)).trans h7_4
  have h8_5 : act5.eval (.tmp 8) = .pointer (some ⟨g8_3, 0, none⟩) := (T.rest 8 (by kernel_rfl)).trans h8_4
  have h9_5 : act5.eval (.tmp 9) = .pointer (some ⟨g9_3, 0, none⟩) := (T.rest 9 (by kernel_rfl)).trans h9_4
  have h10_5 : act5.eval (.tmp 10) = .pointer (some ⟨g10_4, 0, none⟩) := (T.rest 10 (by kernel_rfl)).trans h10_4
  have h11_5 : act5.eval (.tmp 11) = .pointer (some ⟨g11_4, 0, none⟩) := (T.rest 11 (by kernel_rfl)).trans h11_4
  have h13_5 : act5.eval (.tmp 13) = .bool q13 := (T.rest 13 (by kernel_rfl)).trans h13_4
  have kg3_1_5 := (T.below.block _ lg3_1_4).trans kg3_1_4
  have lg3_1_5 := Nat.lt_of_lt_of_le lg3_1_4 T.below.size
  have kg4_1_5 := (T.below.block _ lg4_1_4).trans kg4_1_4
  have lg4_1_5 := Nat.lt_of_lt_of_le lg4_1_4 T.below.size
  have kg5_1_5 := (T.below.block _ lg5_1_4).trans kg5_1_4
  have lg5_1_5 := Nat.lt_of_lt_of_le lg5_1_4 T.below.size
  have kg7_3_5 := (T.below.block _ lg7_3_4).trans kg7_3_4
  have lg7_3_5 := Nat.lt_of_lt_of_le lg7_3_4 T.below.size
  have kg8_3_5 := (T.below.block _ lg8_3_4).trans kg8_3_4
  have lg8_3_5 := Nat.lt_of_lt_of_le lg8_3_4 T.below.size
  have kg9_3_5 := (T.below.block _ lg9_3_4).trans kg9_3_4
  have lg9_3_5 := Nat.lt_of_lt_of_le lg9_3_4 T.below.size
  have kg10_4_5 := (T.below.block _ lg10_4_4).trans kg10_4_4
  have lg10_4_5 := Nat.lt_of_lt_of_le lg10_4_4 T.below.size
  have kg11_4_5 := (T.below.block _ lg11_4_4).trans kg11_4_4
  have lg11_4_5 := Nat.lt_of_lt_of_le lg11_4_4 T.below.size
  have h44_5 : act5.eval (.tmp 44) = .bool q44 := T.done 21 44 rfl rfl
  have d5 := T.defers.trans d4
  have s5 := T.size.trans s4
  have bl5 := bl4.trans (T.below.mono bl4.size)
  clear T
  refine Eng.tail_nil ?_
  show Code.wp Tryd.prog _ _ _ _
  have n44 : q44 = false := by
    simp only [Bq44, Bq43, Bq42, Bq38, Bq37, Bq36, Bq32, Bq31, Bq30, Bq26, Bq25, Bq13, Bq12]
    exact Lat.bounds_no a0 a1 b0 b1
  refine wp_cond_false (h44_5.trans (by rw [n44])) ?_
  refine wp_skip ?_
  show Code.wp Tryd.prog _ _ _ _
  refine wp_seq ?_
  obtain ⟨q47, Bq47⟩ : ∃ b : Bool, b = (Lat.ov c0 c1 (mx a0 b0) (Go.bits .or .u64 a1 b1)) := ⟨_, rfl⟩
  obtain ⟨q50, Bq50⟩ : ∃ b : Bool, b = (Lat.ov c0 c1 a0 a1) := ⟨_, rfl⟩
  obtain ⟨q54, Bq54⟩ : ∃ b : Bool, b = (Lat.ov c0 c1 b0 b1) := ⟨_, rfl⟩
  obtain ⟨q55, Bq55⟩ : ∃ b : Bool, b = (q50 && q54) := ⟨_, rfl⟩
  obtain ⟨q56, Bq56⟩ : ∃ b : Bool, b = (q47 == q55) := ⟨_, rfl⟩
  obtain ⟨q60, Bq60⟩ : ∃ b : Bool, b = (Lat.ov (mn a0 b0) (Go.bits .and .u64 a1 b1) c0 c1) := ⟨_, rfl⟩
  obtain ⟨q63, Bq63⟩ : ∃ b : Bool, b = (Lat.ov a0 a1 c0 c1) := ⟨_, rfl⟩
  obtain ⟨q67, Bq67⟩ : ∃ b : Bool, b = (Lat.ov b0 b1 c0 c1) := ⟨_, rfl⟩
  obtain ⟨q68, Bq68⟩ : ∃ b : Bool, b = (q63 && q67) := ⟨_, rfl⟩
  obtain ⟨q69, Bq69⟩ : ∃ b : Bool, b = (q60 == q68) := ⟨_, rfl⟩
  obtain ⟨q70, Bq70⟩ : ∃ b : Bool, b = (q56 && q69) := ⟨_, rfl⟩
  refine Eng.regionD (Eng.still [fun v => v = .agg #[.int .i64 c0, .int .u64 c1], fun v => v = .agg #[.int .i64 (mx a0 b0), .int .u64 (Go.bits .or .u64 a1 b1)], fun v => v = .bool q47, fun v => v = .agg #[.int .i64 c0, .int .u64 c1], fun v => v = .agg #[.int .i64 a0, .int .u64 a1], fun v => v = .bool q50, fun v => v = .bool q50, fun v => v = bif (q50 == true) then (.agg #[.int .i64 c0, .int .u64 c1]) else undef, fun v => v = bif (q50 == true) then (.agg #[.int .i64 b0, .int .u64 b1]) else undef, fun v => v = bif (q50 == true) then (.bool q54) else undef, fun v => v = .bool q55, fun v => v = .bool q56, fun v => v = .bool q56, fun v => v = bif (q56 == true) then (.agg #[.int .i64 (mn a0 b0), .int .u64 (Go.bits .and .u64 a1 b1)]) else undef, fun v => v = bif (q56 == true) then (.agg #[.int .i64 c0, .int .u64 c1]) else undef, fun v => v = bif (q56 == true) then (.bool q60) else undef, fun v => v = bif (q56 == true) then (.agg #[.int .i64 a0, .int .u64 a1]) else undef, fun v => v = bif (q56 == true) then (.agg #[.int .i64 c0, .int .u64 c1]) else undef, fun v => v = bif (q56 == true) then (.bool q63) else undef, fun v => v = bif (q56 == true) then (.bool q63) else undef, fun v => v = bif ((q56 == true) && (q63 == true)) then (.agg #[.int .i64 b0, .int .u64 b1]) else undef, fun v => v = bif ((q56 == true) && (q63 == true)) then (.agg #[.int .i64 c0, .int .u64 c1]) else undef, fun v => v = bif ((q56 == true) && (q63 == true)) then (.bool q67) else undef, fun v => v = bif (q56 == true) then (.bool q68) else undef, fun v => v = bif (q56 == true) then (.bool q69) else undef, fun v => v = .bool q70, fun v => v = .bool q70]) (fun i => ([.plain, .plain, .plain, .plain, .plain, .plain, .plain, .plain, .plain, .plain, .plain, .plain, .plain, .plain, .plain, .plain, .plain, .plain, .plain, .plain, .plain, .plain, .plain, .plain, .plain, .plain, .plain] : List Eng.Kind).getD i .plain) 27 0 71 (by kernel_rfl) s5 rfl (by kernel_rfl) (Eng.still_stable _) (Or.inr (Eng.still_any _)) ?_ ?_
  · refine Eng.Steps.cons (fun _ => ?_) (Eng.Steps.cons (fun _ => ?_) (Eng.Steps.cons (fun _ => ?_) (Eng.Steps.cons (fun _ => ?_) (Eng.Steps.cons (fun _ => ?_) (Eng.Steps.cons (fun _ => ?_) (Eng.Steps.cons (fun _ => ?_) (Eng.Steps.cons (fun _ => ?_) (Eng.Steps.cons (fun _ => ?_) (Eng.Steps.cons (fun _ => ?_) (Eng.Steps.cons (fun _ => ?_) (Eng.Steps.cons (fun _ => ?_) (Eng.Steps.cons (fun _ => ?_) (Eng.Steps.cons (fun _ => ?_) (Eng.Steps.cons (fun _ => ?_) (Eng.Steps.cons (fun _ => ?_) (Eng.Steps.cons (fun _ => ?_) (Eng.Steps.cons (fun _ => ?_) (Eng.Steps.cons (fun _ => ?_) (Eng.Steps.cons (fun _ => ?_) (Eng.Steps.cons (fun _ => ?_) (Eng.Steps.cons (fun _ => ?_) (Eng.Steps.cons (fun _ => ?_) (Eng.Steps.cons (fun _ => ?_) (Eng.Steps.cons (fun _ => ?_) (Eng.Steps.cons (fun _ => ?_) (Eng.Steps.cons (fun _ => ?_) (Eng.Steps.nil)))))))))))))))))))))))))))
    · refine Eng.plain rfl rfl fun a w' H => ?_
      have kb := (H.below.block _ lg9_3_5).trans kg9_3_5
      have z0 : w'.cell? ⟨g9_3, 0, none⟩ = some (.int .i64 c0) := (Eng.cells kb 0).trans rfl
      have z1 : w'.cell? ⟨g9_3, 1, none⟩ = some (.int .u64 c1) := (Eng.cells kb 1).trans rfl
      refine Eng.val (w1 := w') (v := .agg #[.int .i64 c0, .int .u64 c1]) ?_ (Below.refl _ _) rfl
      have e0 : a.eval (.tmp 9) = .pointer (some ⟨g9_3, 0, none⟩) := ((H.kept 9 (by kernel_rfl)).trans h9_5)
      simp only [execOp, resolve, List.map_toArray, List.map_cons, List.map_nil, e0]
      go_simp
      all_goals first | rfl | (simp; done) | omega
    · refine Eng.plain rfl rfl fun a w' H => ?_
      have kb := (H.below.block _ lg10_4_5).trans kg10_4_5
      have z0 : w'.cell? ⟨g10_4, 0, none⟩ = some (.int .i64 (mx a0 b0)) := (Eng.cells kb 0).trans rfl
      have z1 : w'.cell? ⟨g10_4, 1, none⟩ = some (.int .u64 (Go.bits .or .u64 a1 b1)) := (Eng.cells kb 1).trans rfl
      refine Eng.val (w1 := w') (v := .agg #[.int .i64 (mx a0 b0), .int .u64 (Go.bits .or .u64 a1 b1)]) ?_ (Below.refl _ _) rfl
      have e0 : a.eval (.tmp 10) = .pointer (some ⟨g10_4, 0, none⟩) := ((H.kept 10 (by kernel_rfl)).trans h10_5)
      simp only [execOp, resolve, List.map_toArray, List.map_cons, List.map_nil, e0]
      go_simp
      all_goals first | rfl | (simp; done) | omega
    · refine Eng.plain rfl rfl fun a w' H => ?_
      refine Eng.call Tryd.func22 (by kernel_rfl) (by kernel_rfl) rfl #[.agg #[.int .i64 c0, .int .u64 c1], .agg #[.int .i64 (mx a0 b0), .int .u64 (Go.bits .or .u64 a1 b1)]] ?_ ?_
      · have e0 : a.eval (.tmp 45) = .agg #[.int .i64 c0, .int .u64 c1] := (H.dep 0 45 (by kernel_rfl) rfl); have e1 : a.eval (.tmp 46) = .agg #[.int .i64 (mx a0 b0), .int .u64 (Go.bits .or .u64 a1 b1)] := (H.dep 1 46 (by kernel_rfl) rfl); simp only [List.map_toArray, List.map_cons, List.map_nil, e0, e1]
      refine (lattice_Over.calls c0 c1 (mx a0 b0) (Go.bits .or .u64 a1 b1) (Lat.ov c0 c1 (mx a0 b0) (Go.bits .or .u64 a1 b1)) _ (Lat.over c0 c1 (mx a0 b0) (Go.bits .or .u64 a1 b1))).mono ?_
      rintro e w'' ⟨rfl, hb⟩
      exact ⟨_, rfl, (by show _ = Value.bool q47; rw [Bq47]), hb⟩
    · refine Eng.plain rfl rfl fun a w' H => ?_
      have kb := (H.below.block _ lg9_3_5).trans kg9_3_5
      have z0 : w'.cell? ⟨g9_3, 0, none⟩ = some (.int .i64 c0) := (Eng.cells kb 0).trans rfl
      have z1 : w'.cell? ⟨g9_3, 1, none⟩ = some (.int .u64 c1) := (Eng.cells kb 1).trans rfl
      refine Eng.val (w1 := w') (v := .agg #[.int .i64 c0, .int .u64 c1]) ?_ (Below.refl _ _) rfl
      have e0 : a.eval (.tmp 9) = .pointer (some ⟨g9_3, 0, none⟩) := ((H.kept 9 (by kernel_rfl)).trans h9_5)
      simp only [execOp, resolve, List.map_toArray, List.map_cons, List.map_nil, e0]
      go_simp
      all_goals first | rfl | (simp; done) | omega
    · refine Eng.plain rfl rfl fun a w' H => ?_
      have kb := (H.below.block _ lg7_3_5).trans kg7_3_5
      have z0 : w'.cell? ⟨g7_3, 0, none⟩ = some (.int .i64 a0) := (Eng.cells kb 0).trans rfl
      have z1 : w'.cell? ⟨g7_3, 1, none⟩ = some (.int .u64 a1) := (Eng.cells kb 1).trans rfl
      refine Eng.val (w1 := w') (v := .agg #[.int .i64 a0, .int .u64 a1]) ?_ (Below.refl _ _) rfl
      have e0 : a.eval (.tmp 7) = .pointer (some ⟨g7_3, 0, none⟩) := ((H.kept 7 (by kernel_rfl)).trans h7_5)
      simp only [execOp, resolve, List.map_toArray, List.map_cons, List.map_nil, e0]
      go_simp
      all_goals first | rfl | (simp; done) | omega
    · refine Eng.plain rfl rfl fun a w' H => ?_
      refine Eng.call Tryd.func22 (by kernel_rfl) (by kernel_rfl) rfl #[.agg #[.int .i64 c0, .int .u64 c1], .agg #[.int .i64 a0, .int .u64 a1]] ?_ ?_
      · have e0 : a.eval (.tmp 48) = .agg #[.int .i64 c0, .int .u64 c1] := (H.dep 3 48 (by kernel_rfl) rfl); have e1 : a.eval (.tmp 49) = .agg #[.int .i64 a0, .int .u64 a1] := (H.dep 4 49 (by kernel_rfl) rfl); simp only [List.map_toArray, List.map_cons, List.map_nil, e0, e1]
      refine (lattice_Over.calls c0 c1 a0 a1 (Lat.ov c0 c1 a0 a1) _ (Lat.over c0 c1 a0 a1)).mono ?_
      rintro e w'' ⟨rfl, hb⟩
      exact ⟨_, rfl, (by show _ = Value.bool q50; rw [Bq50]), hb⟩
    · refine Eng.plain rfl rfl fun a w' H => ?_
      exact Eng.val (w1 := w') (v := .bool q50) (Eng.run_move rfl (H.dep 5 50 (by kernel_rfl) rfl)) (Below.refl _ _) rfl
    · refine Eng.guarded1 (j := 6) (d := 51) (b := q50) rfl rfl (by kernel_rfl) rfl (fun v w h => h) (fun hG w => Eng.off hG) fun hG a w' H => ?_
      have kb := (H.below.block _ lg9_3_5).trans kg9_3_5
      have z0 : w'.cell? ⟨g9_3, 0, none⟩ = some (.int .i64 c0) := (Eng.cells kb 0).trans rfl
      have z1 : w'.cell? ⟨g9_3, 1, none⟩ = some (.int .u64 c1) := (Eng.cells kb 1).trans rfl
      refine Eng.val (w1 := w') (v := .agg #[.int .i64 c0, .int .u64 c1]) ?_ (Below.refl _ _) (Eng.off' hG rfl)
      have e0 : a.eval (.tmp 9) = .pointer (some ⟨g9_3, 0, none⟩) := ((H.kept 9 (by kernel_rfl)).trans h9_5)
      simp only [execOp, resolve, List.map_toArray, List.map_cons, List.map_nil, e0]
      go_simp
      all_goals first | rfl | (simp; done) | omega
    · refine Eng.guarded1 (j := 6) (d := 51) (b := q50) rfl rfl (by kernel_rfl) rfl (fun v w h => h) (fun hG w => Eng.off hG) fun hG a w' H => ?_
      have kb := (H.below.block _ lg8_3_5).trans kg8_3_5
      have z0 : w'.cell? ⟨g8_3, 0, none⟩ = some (.int .i64 b0) := (Eng.cells kb 0).trans rfl
      have z1 : w'.cell? ⟨g8_3, 1, none⟩ = some (.int .u64 b1) := (Eng.cells kb 1).trans rfl
      refine Eng.val (w1 := w') (v := .agg #[.int .i64 b0, .int .u64 b1]) ?_ (Below.refl _ _) (Eng.off' hG rfl)
      have e0 : a.eval (.tmp 8) = .pointer (some ⟨g8_3, 0, none⟩) := ((H.kept 8 (by kernel_rfl)).trans h8_5)
      simp only [execOp, resolve, List.map_toArray, List.map_cons, List.map_nil, e0]
      go_simp
      all_goals first | rfl | (simp; done) | omega
    · refine Eng.guarded1 (j := 6) (d := 51) (b := q50) rfl rfl (by kernel_rfl) rfl (fun v w h => h) (fun hG w => Eng.off hG) fun hG a w' H => ?_
      refine Eng.call Tryd.func22 (by kernel_rfl) (by kernel_rfl) rfl #[.agg #[.int .i64 c0, .int .u64 c1], .agg #[.int .i64 b0, .int .u64 b1]] ?_ ?_
      · have e0 : a.eval (.tmp 52) = .agg #[.int .i64 c0, .int .u64 c1] := (Eng.on (H.dep 7 52 (by kernel_rfl) rfl) hG); have e1 : a.eval (.tmp 53) = .agg #[.int .i64 b0, .int .u64 b1] := (Eng.on (H.dep 8 53 (by kernel_rfl) rfl) hG); simp only [List.map_toArray, List.map_cons, List.map_nil, e0, e1]
      refine (lattice_Over.calls c0 c1 b0 b1 (Lat.ov c0 c1 b0 b1) _ (Lat.over c0 c1 b0 b1)).mono ?_
      rintro e w'' ⟨rfl, hb⟩
      exact ⟨_, rfl, (Eng.off' hG (by rw [Bq54])), hb⟩
    · refine Eng.plain rfl rfl fun a w' H => ?_
      exact Eng.val (w1 := w') (v := .bool (q50 && q54)) (Eng.run_and rfl rfl (G := true) (H.dep 6 51 (by kernel_rfl) rfl) (fun hb => (Eng.on (H.dep 9 54 (by kernel_rfl) rfl) (Eng.mk1 hb)))) (Below.refl _ _) (by show _ = Value.bool q55; rw [Bq55])
    · refine Eng.plain rfl rfl fun a w' H => ?_
      refine Eng.val (w1 := w') (v := .bool (q47 == q55)) ?_ (Below.refl _ _) (by show _ = Value.bool q56; rw [Bq56])
      have e0 : a.eval (.tmp 47) = .bool q47 := (H.dep 2 47 (by kernel_rfl) rfl)
      have e1 : a.eval (.tmp 55) = .bool q55 := (H.dep 10 55 (by kernel_rfl) rfl)
      simp only [execOp, resolve, List.map_toArray, List.map_cons, List.map_nil, e0, e1]
      go_simp
      all_goals first | rfl | (simp; done) | omega
    · refine Eng.plain rfl rfl fun a w' H => ?_
      exact Eng.val (w1 := w') (v := .bool q56) (Eng.run_move rfl (H.dep 11 56 (by kernel_rfl) rfl)) (Below.refl _ _) rfl
    · refine Eng.guarded1 (j := 12) (d := 57) (b := q56) rfl rfl (by kernel_rfl) rfl (fun v w h => h) (fun hG w => Eng.off hG) fun hG a w' H => ?_
      have kb := (H.below.block _ lg11_4_5).trans kg11_4_5
      have z0 : w'.cell? ⟨g11_4, 0, none⟩ = some (.int .i64 (mn a0 b0)) := (Eng.cells kb 0).trans rfl
      have z1 : w'.cell? ⟨g11_4, 1, none⟩ = some (.int .u64 (Go.bits .and .u64 a1 b1)) := (Eng.cells kb 1).trans rfl
      refine Eng.val (w1 := w') (v := .agg #[.int .i64 (mn a0 b0), .int .u64 (Go.bits .and .u64 a1 b1)]) ?_ (Below.refl _ _) (Eng.off' hG rfl)
      have e0 : a.eval (.tmp 11) = .pointer (some ⟨g11_4, 0, none⟩) := ((H.kept 11 (by kernel_rfl)).trans h11_5)
      simp only [execOp, resolve, List.map_toArray, List.map_cons, List.map_nil, e0]
      go_simp
      all_goals first | rfl | (simp; done) | omega
    · refine Eng.guarded1 (j := 12) (d := 57) (b := q56) rfl rfl (by kernel_rfl) rfl (fun v w h => h) (fun hG w => Eng.off hG) fun hG a w' H => ?_
      have kb := (H.below.block _ lg9_3_5).trans kg9_3_5
      have z0 : w'.cell? ⟨g9_3, 0, none⟩ = some (.int .i64 c0) := (Eng.cells kb 0).trans rfl
      have z1 : w'.cell? ⟨g9_3, 1, none⟩ = some (.int .u64 c1) := (Eng.cells kb 1).trans rfl
      refine Eng.val (w1 := w') (v := .agg #[.int .i64 c0, .int .u64 c1]) ?_ (Below.refl _ _) (Eng.off' hG rfl)
      have e0 : a.eval (.tmp 9) = .pointer (some ⟨g9_3, 0, none⟩) := ((H.kept 9 (by kernel_rfl)).trans h9_5)
      simp only [execOp, resolve, List.map_toArray, List.map_cons, List.map_nil, e0]
      go_simp
      all_goals first | rfl | (simp; done) | omega
    · refine Eng.guarded1 (j := 12) (d := 57) (b := q56) rfl rfl (by kernel_rfl) rfl (fun v w h => h) (fun hG w => Eng.off hG) fun hG a w' H => ?_
      refine Eng.call Tryd.func22 (by kernel_rfl) (by kernel_rfl) rfl #[.agg #[.int .i64 (mn a0 b0), .int .u64 (Go.bits .and .u64 a1 b1)], .agg #[.int .i64 c0, .int .u64 c1]] ?_ ?_
      · have e0 : a.eval (.tmp 58) = .agg #[.int .i64 (mn a0 b0), .int .u64 (Go.bits .and .u64 a1 b1)] := (Eng.on (H.dep 13 58 (by kernel_rfl) rfl) hG); have e1 : a.eval (.tmp 59) = .agg #[.int .i64 c0, .int .u64 c1] := (Eng.on (H.dep 14 59 (by kernel_rfl) rfl) hG); simp only [List.map_toArray, List.map_cons, List.map_nil, e0, e1]
      refine (lattice_Over.calls (mn a0 b0) (Go.bits .and .u64 a1 b1) c0 c1 (Lat.ov (mn a0 b0) (Go.bits .and .u64 a1 b1) c0 c1) _ (Lat.over (mn a0 b0) (Go.bits .and .u64 a1 b1) c0 c1)).mono ?_
      rintro e w'' ⟨rfl, hb⟩
      exact ⟨_, rfl, (Eng.off' hG (by rw [Bq60])), hb⟩
    · refine Eng.guarded1 (j := 12) (d := 57) (b := q56) rfl rfl (by kernel_rfl) rfl (fun v w h => h) (fun hG w => Eng.off hG) fun hG a w' H => ?_
      have kb := (H.below.block _ lg7_3_5).trans kg7_3_5
      have z0 : w'.cell? ⟨g7_3, 0, none⟩ = some (.int .i64 a0) := (Eng.cells kb 0).trans rfl
      have z1 : w'.cell? ⟨g7_3, 1, none⟩ = some (.int .u64 a1) := (Eng.cells kb 1).trans rfl
      refine Eng.val (w1 := w') (v := .agg #[.int .i64 a0, .int .u64 a1]) ?_ (Below.refl _ _) (Eng.off' hG rfl)
      have e0 : a.eval (.tmp 7) = .pointer (some ⟨g7_3, 0, none⟩) := ((H.kept 7 (by kernel_rfl)).trans h7_5)
      simp only [execOp, resolve, List.map_toArray, List.map_cons, List.map_nil, e0]
      go_simp
      all_goals first | rfl | (simp; done) | omega
    · refine Eng.guarded1 (j := 12) (d := 57) (b := q56) rfl rfl (by kernel_rfl) rfl (fun v w h => h) (fun hG w => Eng.off hG) fun hG a w' H => ?_
      have kb := (H.below.block _ lg9_3_5).trans kg9_3_5
      have z0 : w'.cell? ⟨g9_3, 0, none⟩ = some (.int .i64 c0) := (Eng.cells kb 0).trans rfl
      have z1 : w'.cell? ⟨g9_3, 1, none⟩ = some (.int .u64 c1) := (Eng.cells kb 1).trans rfl
      refine Eng.val (w1 := w') (v := .agg #[.int .i64 c0, .int .u64 c1]) ?_ (Below.refl _ _) (Eng.off' hG rfl)
      have e0 : a.eval (.tmp 9) = .pointer (some ⟨g9_3, 0, none⟩) := ((H.kept 9 (by kernel_rfl)).trans h9_5)
      simp only [execOp, resolve, List.map_toArray, List.map_cons, List.map_nil, e0]
      go_simp
      all_goals first | rfl | (simp; done) | omega
    · refine Eng.guarded1 (j := 12) (d := 57) (b := q56) rfl rfl (by kernel_rfl) rfl (fun v w h => h) (fun hG w => Eng.off hG) fun hG a w' H => ?_
      refine Eng.call Tryd.func22 (by kernel_rfl) (by kernel_rfl) rfl #[.agg #[.int .i64 a0, .int .u64 a1], .agg #[.int .i64 c0, .int .u64 c1]] ?_ ?_
      · have e0 : a.eval (.tmp 61) = .agg #[.int .i64 a0, .int .u64 a1] := (Eng.on (H.dep 16 61 (by kernel_rfl) rfl) hG); have e1 : a.eval (.tmp 62) = .agg #[.int .i64 c0, .int .u64 c1] := (Eng.on (H.dep 17 62 (by kernel_rfl) rfl) hG); simp only [List.map_toArray, List.map_cons, List.map_nil, e0, e1]
      refine (lattice_Over.calls a0 a1 c0 c1 (Lat.ov a0 a1 c0 c1) _ (Lat.over a0 a1 c0 c1)).mono ?_
      rintro e w'' ⟨rfl, hb⟩
      exact ⟨_, rfl, (Eng.off' hG (by rw [Bq63])), hb⟩
    · refine Eng.guarded1 (j := 12) (d := 57) (b := q56) rfl rfl (by kernel_rfl) rfl (fun v w h => h) (fun hG w => Eng.off hG) fun hG a w' H => ?_
      exact Eng.val (w1 := w') (v := .bool q63) (Eng.run_move rfl (Eng.on (H.dep 18 63 (by kernel_rfl) rfl) hG)) (Below.refl _ _) (Eng.off' hG rfl)
    · refine Eng.guarded (j := 19) (d := 64) (b := q63) (G := (q56 == true)) rfl rfl (by kernel_rfl) rfl (fun v w h => h) (fun hG w => Eng.off hG) fun hG a w' H => ?_
      have kb := (H.below.block _ lg8_3_5).trans kg8_3_5
      have z0 : w'.cell? ⟨g8_3, 0, none⟩ = some (.int .i64 b0) := (Eng.cells kb 0).trans rfl
      have z1 : w'.cell? ⟨g8_3, 1, none⟩ = some (.int .u64 b1) := (Eng.cells kb 1).trans rfl
      refine Eng.val (w1 := w') (v := .agg #[.int .i64 b0, .int .u64 b1]) ?_ (Below.refl _ _) (Eng.off' hG rfl)
      have e0 : a.eval (.tmp 8) = .pointer (some ⟨g8_3, 0, none⟩) := ((H.kept 8 (by kernel_rfl)).trans h8_5)
      simp only [execOp, resolve, List.map_toArray, List.map_cons, List.map_nil, e0]
      go_simp
      all_goals first | rfl | (simp; done) | omega
    · refine Eng.guarded (j := 19) (d := 64) (b := q63) (G := (q56 == true)) rfl rfl (by kernel_rfl) rfl (fun v w h => h) (fun hG w => Eng.off hG) fun hG a w' H => ?_
      have kb := (H.below.block _ lg9_3_5).trans kg9_3_5
      have z0 : w'.cell? ⟨g9_3, 0, none⟩ = some (.int .i64 c0) := (Eng.cells kb 0).trans rfl
      have z1 : w'.cell? ⟨g9_3, 1, none⟩ = some (.int .u64 c1) := (Eng.cells kb 1).trans rfl
      refine Eng.val (w1 := w') (v := .agg #[.int .i64 c0, .int .u64 c1]) ?_ (Below.refl _ _) (Eng.off' hG rfl)
      have e0 : a.eval (.tmp 9) = .pointer (some ⟨g9_3, 0, none⟩) := ((H.kept 9 (by kernel_rfl)).trans h9_5)
      simp only [execOp, resolve, List.map_toArray, List.map_cons, List.map_nil, e0]
      go_simp
      all_goals first | rfl | (simp; done) | omega
    · refine Eng.guarded (j := 19) (d := 64) (b := q63) (G := (q56 == true)) rfl rfl (by kernel_rfl) rfl (fun v w h => h) (fun hG w => Eng.off hG) fun hG a w' H => ?_
      refine Eng.call Tryd.func22 (by kernel_rfl) (by kernel_rfl) rfl #[.agg #[.int .i64 b0, .int .u64 b1], .agg #[.int .i64 c0, .int .u64 c1]] ?_ ?_
      · have e0 : a.eval (.tmp 65) = .agg #[.int .i64 b0, .int .u64 b1] := (Eng.on (H.dep 20 65 (by kernel_rfl) rfl) hG); have e1 : a.eval (.tmp 66) = .agg #[.int .i64 c0, .int .u64 c1] := (Eng.on (H.dep 21 66 (by kernel_rfl) rfl) hG); simp only [List.map_toArray, List.map_cons, List.map_nil, e0, e1]
      refine (lattice_Over.calls b0 b1 c0 c1 (Lat.ov b0 b1 c0 c1) _ (Lat.over b0 b1 c0 c1)).mono ?_
      rintro e w'' ⟨rfl, hb⟩
      exact ⟨_, rfl, (Eng.off' hG (by rw [Bq67])), hb⟩
    · refine Eng.guarded1 (j := 12) (d := 57) (b := q56) rfl rfl (by kernel_rfl) rfl (fun v w h => h) (fun hG w => Eng.off hG) fun hG a w' H => ?_
      exact Eng.val (w1 := w') (v := .bool (q63 && q67)) (Eng.run_and rfl rfl (G := true) (Eng.on (H.dep 19 64 (by kernel_rfl) rfl) hG) (fun hb => (Eng.on (H.dep 22 67 (by kernel_rfl) rfl) (Eng.mk2 (Eng.mk1 (Eng.one2 hG)) hb)))) (Below.refl _ _) (Eng.off' hG (by rw [Bq68]))
    · refine Eng.guarded1 (j := 12) (d := 57) (b := q56) rfl rfl (by kernel_rfl) rfl (fun v w h => h) (fun hG w => Eng.off hG) fun hG a w' H => ?_
      refine Eng.val (w1 := w') (v := .bool (q60 == q68)) ?_ (Below.refl _ _) (Eng.off' hG (by rw [Bq69]))
      have e0 : a.eval (.tmp 60) = .bool q60 := (Eng.on (H.dep 15 60 (by kernel_rfl) rfl) hG)
      have e1 : a.eval (.tmp 68) = .bool q68 := (Eng.on (H.dep 23 68 (by kernel_rfl) rfl) hG)
      simp only [execOp, resolve, List.map_toArray, List.map_cons, List.map_nil, e0, e1]
      go_simp
      all_goals first | rfl | (simp; done) | omega
    · refine Eng.plain rfl rfl fun a w' H => ?_
      exact Eng.val (w1 := w') (v := .bool (q56 && q69)) (Eng.run_and rfl rfl (G := true) (H.dep 12 57 (by kernel_rfl) rfl) (fun hb => (Eng.on (H.dep 24 69 (by kernel_rfl) rfl) (Eng.mk1 hb)))) (Below.refl _ _) (by show _ = Value.bool q70; rw [Bq70])
    · refine Eng.plain rfl rfl fun a w' H => ?_
      exact Eng.val (w1 := w') (v := .bool q70) (Eng.run_assign rfl (H.dep 25 70 (by kernel_rfl) rfl)) (Below.refl _ _) rfl
  intro act6 w6 T
  have h0_6 : act6.eval (.tmp 0) = .agg #[.int .i64 a0, .int .u64 a1] := (T.rest 0 (by kernel_rfl)).trans h0_5
  have h1_6 : act6.eval (.tmp 1) = .agg #[.int .i64 b0, .int .u64 b1] := (T.rest 1 (by kernel_rfl)).trans h1_5
  have h2_6 : act6.eval (.tmp 2) = .agg #[.int .i64 c0, .int .u64 c1] := (T.rest 2 (by kernel_rfl)).trans h2_5
  have h3_6 : act6.eval (.tmp 3) = .pointer (some ⟨g3_1, 0, none⟩) := (T.rest 3 (by kernel_rfl)).trans h3_5
  have h4_6 : act6.eval (.tmp 4) = .pointer (some ⟨g4_1, 0, none⟩) := (T.rest 4 (by kernel_rfl)).trans h4_5
  have h5_6 : act6.eval (.tmp 5) = .pointer (some ⟨g5_1, 0, none⟩) := (T.rest 5 (by kernel_rfl)).trans h5_5
  have h7_6 : act6.eval (.tmp 7) = .pointer (some ⟨g7_3, 0, none⟩) := (T.rest 7 (by kernel_rfl)).trans h7_5
  have h8_6 : act6.eval (.tmp 8) = .pointer (some ⟨g8_3, 0, none⟩) := (T.rest 8 (by kernel_rfl)).trans h8_5
  have h9_6 : act6.eval (.tmp 9) = .pointer (some ⟨g9_3, 0, none⟩) := (T.rest 9 (by kernel_rfl)).trans h9_5
  have h10_6 : act6.eval (.tmp 10) = .pointer (some ⟨g10_4, 0, none⟩) := (T.rest 10 (by kernel_rfl)).trans h10_5
  have h11_6 : act6.eval (.tmp 11) = .pointer (some ⟨g11_4, 0, none⟩) := (T.rest 11 (by kernel_rfl)).trans h11_5
  have h13_6 : act6.eval (.tmp 13) = .bool q13 := (T.rest 13 (by kernel_rfl)).trans h13_5
  have h44_6 : act6.eval (.tmp 44) = .bool q44 := (T.rest 44 (by kernel_rfl)).trans h44_5
  have kg3_1_6 := (T.below.block _ lg3_1_5).trans kg3_1_5
  have lg3_1_6 := Nat.lt_of_lt_of_le lg3_1_5 T.below.size
  have kg4_1_6 := (T.below.block _ lg4_1_5).trans kg4_1_5
  have lg4_1_6 := Nat.lt_of_lt_of_le lg4_1_5 T.below.size
  have kg5_1_6 := (T.below.block _ lg5_1_5).trans kg5_1_5
  have lg5_1_6 := Nat.lt_of_lt_of_le lg5_1_5 T.below.size
  have kg7_3_6 := (T.below.block _ lg7_3_5).trans kg7_3_5
  have lg7_3_6 := Nat.lt_of_lt_of_le lg7_3_5 T.below.size
  have kg8_3_6 := (T.below.block _ lg8_3_5).trans kg8_3_5
  have lg8_3_6 := Nat.lt_of_lt_of_le lg8_3_5 T.below.size
  have kg9_3_6 := (T.below.block _ lg9_3_5).trans kg9_3_5
  have lg9_3_6 := Nat.lt_of_lt_of_le lg9_3_5 T.below.size
  have kg10_4_6 := (T.below.block _ lg10_4_5).trans kg10_4_5
  have lg10_4_6 := Nat.lt_of_lt_of_le lg10_4_5 T.below.size
  have kg11_4_6 := (T.below.block _ lg11_4_5).trans kg11_4_5
  have lg11_4_6 := Nat.lt_of_lt_of_le lg11_4_5 T.below.size
  have h6_6 : act6.eval (.tmp 6) = .bool q70 := T.done 26 6 rfl rfl
  have d6 := T.defers.trans d5
  have s6 := T.size.trans s5
  have bl6 := bl5.trans (T.below.mono bl5.size)
  clear T
  refine Eng.tail_nil ?_
  show Code.wp Tryd.prog _ _ _ _
  refine wp_ret ?_
  have fin : q70 = true := by
    simp only [Bq70, Bq69, Bq68, Bq67, Bq63, Bq60, Bq56, Bq55, Bq54, Bq50, Bq47, Bq44, Bq43, Bq42, Bq38, Bq37, Bq36, Bq32, Bq31, Bq30, Bq26, Bq25, Bq13, Bq12]
    exact Lat.bounds_yes a0 a1 b0 b1 c0 c1
  exact Eng.ret1 rfl d6 (h6_6.trans (by rw [fin])) ⟨rfl, bl6⟩
end Go.Proofs.YthgafcaoibfchaaDoor.X
