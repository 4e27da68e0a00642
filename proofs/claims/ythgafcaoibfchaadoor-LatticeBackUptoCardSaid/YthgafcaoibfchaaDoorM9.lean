/- Words and walks that the row of LatticeBackUpto needs: printed by programs, and plain laws. -/
import Derived.Test.YthgafcaoibfchaaDoorM7
import Derived.Test.YthgafcaoibfchaaDoorM8
namespace Go.Proofs.YthgafcaoibfchaaDoor.X
open Go.RowKit Go.Shelf Go.Proofs Go.Proofs.YthgafcaoibfchaaDoorW.PrintWords Go.Proofs.YthgafcaoibfchaaDoorW.PrintLast Go.Proofs.YthgafcaoibfchaaDoorW.PrintMore
set_option linter.unusedVariables false
set_option linter.unusedSimpArgs false
attribute [local go_sem] max2_int min2_int max_two min_two
set_option maxHeartbeats 4000000 in
set_option maxRecDepth 100000 in
theorem Lpr.back_walk (na nb : Value) (l0 l1 : List ByteArray) (a0 a1 b0 b1 : Int) (w : World) (F0 : Eng.Reads w na l0.length 1 (Nfa.strs l0)) (F1 : Eng.Reads w nb l1.length 1 (Nfa.strs l1)) (h0 : l0.length ≤ 1048576) (h1 : l1.length ≤ 1048576) (ha0 : 0 ≤ a1) (ha1 : a1 ≤ 18446744073709551615) (hb0 : 0 ≤ b1) (hb1 : b1 ≤ 18446744073709551615) : Calls Tryd.prog 9 #[.agg #[na, nb], .agg #[.int .i64 a0, .int .u64 a1], .agg #[.int .i64 b0, .int .u64 b1]] w fun e w' => e = .returned (.bool true) ∧ Below w.heap.size w w' := by
  have hu30 := Tryd.underlying30
  have hu28 := Tryd.underlying28
  refine Eng.enter Tryd.func9 rfl fun act0 d0 s0 v0 => ?_
  have s0 : act0.tmps.size = 70 := s0
  have h0_0 : act0.eval (.tmp 0) = .agg #[na, nb] := v0 0 (by simp)
  have h1_0 : act0.eval (.tmp 1) = .agg #[.int .i64 a0, .int .u64 a1] := v0 1 (by simp)
  have h2_0 : act0.eval (.tmp 2) = .agg #[.int .i64 b0, .int .u64 b1] := v0 2 (by simp)
  clear v0
  have bl0 : Below w.heap.size w w := Below.refl _ _
  refine wp_seq ?_
  refine Eng.regionS (Eng.still [fun u_ => True, fun u_ => True, fun u_ => True, fun u_ => u_ = .bool false]) (fun i => ([.alloc 45 #[na, nb], .alloc 28 #[.int .i64 a0, .int .u64 a1], .alloc 28 #[.int .i64 b0, .int .u64 b1], .plain] : List Eng.Kind).getD i .plain) 4 0 70 s0 rfl (by kernel_rfl) (Eng.still_stable _) (Or.inr (Eng.still_any _)) ?_ ?_
  · refine Eng.Steps.cons (fun _ => ?_) (Eng.Steps.cons (fun _ => ?_) (Eng.Steps.cons (fun _ => ?_) (Eng.Steps.cons (fun _ => ?_) (Eng.Steps.nil))))
    · refine Eng.made rfl (by simp) rfl (fun a w' hd ho => ?_) (fun _ _ => trivial)
      exact Eng.run_box rfl ((ho 0 (by kernel_rfl)).trans h0_0)
    · refine Eng.made rfl (by simp) rfl (fun a w' hd ho => ?_) (fun _ _ => trivial)
      exact Eng.run_box rfl ((ho 1 (by kernel_rfl)).trans h1_0)
    · refine Eng.made rfl (by simp) rfl (fun a w' hd ho => ?_) (fun _ _ => trivial)
      exact Eng.run_box rfl ((ho 2 (by kernel_rfl)).trans h2_0)
    · refine Eng.plain rfl rfl fun a w' H => ?_
      exact Eng.val (w1 := w') (v := .bool false) (Eng.run_assign rfl (rfl : a.eval (.const (.bool false)) = .bool false)) (Below.refl _ _) rfl
  intro act1 w1 T
  have h0_1 : act1.eval (.tmp 0) = .agg #[na, nb] := (T.rest 0 (by kernel_rfl)).trans h0_0
  have h1_1 : act1.eval (.tmp 1) = .agg #[.int .i64 a0, .int .u64 a1] := (T.rest 1 (by kernel_rfl)).trans h1_0
  have h2_1 : act1.eval (.tmp 2) = .agg #[.int .i64 b0, .int .u64 b1] := (T.rest 2 (by kernel_rfl)).trans h2_0
  have Fn0_1 := Eng.Reads.below F0 T.below
  have Fn1_1 := Eng.Reads.below F1 T.below
  obtain ⟨g3_1, h3_1, rg3_1, lg3_1_1, kg3_1_1⟩ := T.al 0 3 _ _ rfl rfl rfl (by kernel_rfl)
  have og3_1 : w.heap.size ≤ g3_1 := Nat.le_trans bl0.size rg3_1
  obtain ⟨g4_1, h4_1, rg4_1, lg4_1_1, kg4_1_1⟩ := T.al 1 4 _ _ rfl rfl rfl (by kernel_rfl)
  have og4_1 : w.heap.size ≤ g4_1 := Nat.le_trans bl0.size rg4_1
  obtain ⟨g5_1, h5_1, rg5_1, lg5_1_1, kg5_1_1⟩ := T.al 2 5 _ _ rfl rfl rfl (by kernel_rfl)
  have og5_1 : w.heap.size ≤ g5_1 := Nat.le_trans bl0.size rg5_1
  have h6_1 : act1.eval (.tmp 6) = .bool false := T.done 3 6 rfl rfl
  have d1 := T.defers.trans d0
  have s1 := T.size.trans s0
  have bl1 := bl0.trans (T.below.mono bl0.size)
  clear T
  refine Eng.tail_nil ?_
  first | show Code.wp Tryd.prog _ _ _ _ | skip
  refine wp_seq ?_
  refine wp_seq ?_
  obtain ⟨q14, Bq14⟩ : ∃ b : Bool, b = (true) := ⟨_, rfl⟩
  obtain ⟨q15, Bq15⟩ : ∃ b : Bool, b = (!q14) := ⟨_, rfl⟩
  refine Eng.regionS (Eng.still [fun u_ => u_ = .bool q14, fun u_ => u_ = .bool q15]) (fun i => ([.plain, .plain] : List Eng.Kind).getD i .plain) 2 0 70 s1 rfl (by kernel_rfl) (Eng.still_stable _) (Or.inr (Eng.still_any _)) ?_ ?_
  · refine Eng.Steps.cons (fun _ => ?_) (Eng.Steps.cons (fun _ => ?_) (Eng.Steps.nil))
    · refine Eng.plain rfl rfl fun a w' H => ?_
      refine Eng.call Tryd.func17 (by kernel_rfl) (by kernel_rfl) rfl #[] ?_ ?_
      · simp
      refine (Alv.calls _).mono ?_
      rintro e w'' ⟨rfl, hb⟩
      exact ⟨_, rfl, (by show _ = Value.bool q14; rw [Bq14]), hb⟩
    · refine Eng.plain rfl rfl fun a w' H => ?_
      exact Eng.val (w1 := w') (v := .bool (!q14)) (Eng.run_not rfl (H.dep 0 14 (by kernel_rfl) rfl)) (Below.refl _ _) (by show _ = Value.bool q15; rw [Bq15])
  intro act2 w2 T
  have h0_2 : act2.eval (.tmp 0) = .agg #[na, nb] := (T.rest 0 (by kernel_rfl)).trans h0_1
  have h1_2 : act2.eval (.tmp 1) = .agg #[.int .i64 a0, .int .u64 a1] := (T.rest 1 (by kernel_rfl)).trans h1_1
  have h2_2 : act2.eval (.tmp 2) = .agg #[.int .i64 b0, .int .u64 b1] := (T.rest 2 (by kernel_rfl)).trans h2_1
  have h3_2 : act2.eval (.tmp 3) = .pointer (some ⟨g3_1, 0, none⟩) := (T.rest 3 (by kernel_rfl)).trans h3_1
  have h4_2 : act2.eval (.tmp 4) = .pointer (some ⟨g4_1, 0, none⟩) := (T.rest 4 (by kernel_rfl)).trans h4_1
  have h5_2 : act2.eval (.tmp 5) = .pointer (some ⟨g5_1, 0, none⟩) := (T.rest 5 (by kernel_rfl)).trans h5_1
  have h6_2 : act2.eval (.tmp 6) = .bool false := (T.rest 6 (by kernel_rfl)).trans h6_1
  have kg3_1_2 := (T.below.block _ lg3_1_1).trans kg3_1_1
  have lg3_1_2 := Nat.lt_of_lt_of_le lg3_1_1 T.below.size
  have kg4_1_2 := (T.below.block _ lg4_1_1).trans kg4_1_1
  have lg4_1_2 := Nat.lt_of_lt_of_le lg4_1_1 T.below.size
  have kg5_1_2 := (T.below.block _ lg5_1_1).trans kg5_1_1
  have lg5_1_2 := Nat.lt_of_lt_of_le lg5_1_1 T.below.size
  have Fn0_2 := Eng.Reads.below Fn0_1 T.below
  have Fn1_2 := Eng.Reads.below Fn1_1 T.below
  have h15_2 : act2.eval (.tmp 15) = .bool q15 := T.done 1 15 rfl rfl
  have d2 := T.defers.trans d1
  have s2 := T.size.trans s1
  have bl2 := bl1.trans (T.below.mono bl1.size)
  clear T
  refine Eng.tail_nil ?_
  first | show Code.wp Tryd.prog _ _ _ _ | skip
  have n15 : q15 = false := by
    try simp only [Bq15, Bq14]
    first | done | rfl
  refine wp_cond_false (h15_2.trans (by rw [n15])) ?_
  refine wp_skip ?_
  first | show Code.wp Tryd.prog _ _ _ _ | skip
  refine wp_seq ?_
  refine wp_seq ?_
  obtain ⟨q17, Bq17⟩ : ∃ b : Bool, b = (Lpr.heavyB l0 l1) := ⟨_, rfl⟩
  refine Eng.regionS (Eng.still [fun u_ => u_ = .agg #[na, nb], fun u_ => u_ = .bool q17]) (fun i => ([.plain, .plain] : List Eng.Kind).getD i .plain) 2 0 70 s2 rfl (by kernel_rfl) (Eng.still_stable _) (Or.inr (Eng.still_any _)) ?_ ?_
  · refine Eng.Steps.cons (fun _ => ?_) (Eng.Steps.cons (fun _ => ?_) (Eng.Steps.nil))
    · refine Eng.plain rfl rfl fun a w' H => ?_
      have kb := (H.below.block _ lg3_1_2).trans kg3_1_2
      have z0 : w'.cell? ⟨g3_1, 0, none⟩ = some (na) := (Eng.cells kb 0).trans rfl
      have z1 : w'.cell? ⟨g3_1, 1, none⟩ = some (nb) := (Eng.cells kb 1).trans rfl
      refine Eng.val (w1 := w') (v := .agg #[na, nb]) ?_ (Below.refl _ _) rfl
      have e0 : a.eval (.tmp 3) = .pointer (some ⟨g3_1, 0, none⟩) := ((H.kept 3 (by kernel_rfl)).trans h3_2)
      simp only [execOp, resolve, List.map_toArray, List.map_cons, List.map_nil, e0]
      go_simp
      all_goals first | rfl | (simp; done) | (rw [Bool.eq_iff_iff]; simp; done) | omega | (split <;> first | (simp_all; done) | (split <;> simp_all; done)) | skip
    · refine Eng.plain rfl rfl fun a w' H => ?_
      refine Eng.call Tryd.func27 (by kernel_rfl) (by kernel_rfl) rfl #[.agg #[na, nb]] ?_ ?_
      · have e0 : a.eval (.tmp 16) = .agg #[na, nb] := (H.dep 0 16 (by kernel_rfl) rfl); simp only [List.map_toArray, List.map_cons, List.map_nil, e0]
      refine (Lpr.heavy_calls na nb l0 l1 _ (Eng.Reads.below Fn0_2 H.below) (Eng.Reads.below Fn1_2 H.below) h0 h1).mono ?_
      rintro e w'' ⟨rfl, hb⟩
      exact ⟨_, rfl, (by show _ = Value.bool q17; rw [Bq17]), hb⟩
  intro act3 w3 T
  have h0_3 : act3.eval (.tmp 0) = .agg #[na, nb] := (T.rest 0 (by kernel_rfl)).trans h0_2
  have h1_3 : act3.eval (.tmp 1) = .agg #[.int .i64 a0, .int .u64 a1] := (T.rest 1 (by kernel_rfl)).trans h1_2
  have h2_3 : act3.eval (.tmp 2) = .agg #[.int .i64 b0, .int .u64 b1] := (T.rest 2 (by kernel_rfl)).trans h2_2
  have h3_3 : act3.eval (.tmp 3) = .pointer (some ⟨g3_1, 0, none⟩) := (T.rest 3 (by kernel_rfl)).trans h3_2
  have h4_3 : act3.eval (.tmp 4) = .pointer (some ⟨g4_1, 0, none⟩) := (T.rest 4 (by kernel_rfl)).trans h4_2
  have h5_3 : act3.eval (.tmp 5) = .pointer (some ⟨g5_1, 0, none⟩) := (T.rest 5 (by kernel_rfl)).trans h5_2
  have h6_3 : act3.eval (.tmp 6) = .bool false := (T.rest 6 (by kernel_rfl)).trans h6_2
  have h15_3 : act3.eval (.tmp 15) = .bool q15 := (T.rest 15 (by kernel_rfl)).trans h15_2
  have kg3_1_3 := (T.below.block _ lg3_1_2).trans kg3_1_2
  have lg3_1_3 := Nat.lt_of_lt_of_le lg3_1_2 T.below.size
  have kg4_1_3 := (T.below.block _ lg4_1_2).trans kg4_1_2
  have lg4_1_3 := Nat.lt_of_lt_of_le lg4_1_2 T.below.size
  have kg5_1_3 := (T.below.block _ lg5_1_2).trans kg5_1_2
  have lg5_1_3 := Nat.lt_of_lt_of_le lg5_1_2 T.below.size
  have Fn0_3 := Eng.Reads.below Fn0_2 T.below
  have Fn1_3 := Eng.Reads.below Fn1_2 T.below
  have h17_3 : act3.eval (.tmp 17) = .bool q17 := T.done 1 17 rfl rfl
  have d3 := T.defers.trans d2
  have s3 := T.size.trans s2
  have bl3 := bl2.trans (T.below.mono bl2.size)
  clear T
  refine Eng.tail_nil ?_
  first | show Code.wp Tryd.prog _ _ _ _ | skip
  refine wp_cond_split h17_3 (fun hq => ?_) (fun hq => ?_)
  ·
    have kn4 := hq
    have c17 := Bq17.symm.trans hq
    clear hq
    refine wp_seq ?_
    refine Eng.regionS (Eng.still [fun u_ => u_ = .bool true]) (fun i => ([.plain] : List Eng.Kind).getD i .plain) 1 0 70 s3 rfl (by kernel_rfl) (Eng.still_stable _) (Or.inr (Eng.still_any _)) ?_ ?_
    · refine Eng.Steps.cons (fun _ => ?_) (Eng.Steps.nil)
      · refine Eng.plain rfl rfl fun a w' H => ?_
        exact Eng.val (w1 := w') (v := .bool true) (Eng.run_assign rfl (rfl : a.eval (.const (.bool true)) = .bool true)) (Below.refl _ _) rfl
    intro act5 w5 T
    have h0_5 : act5.eval (.tmp 0) = .agg #[na, nb] := (T.rest 0 (by kernel_rfl)).trans h0_3
    have h1_5 : act5.eval (.tmp 1) = .agg #[.int .i64 a0, .int .u64 a1] := (T.rest 1 (by kernel_rfl)).trans h1_3
    have h2_5 : act5.eval (.tmp 2) = .agg #[.int .i64 b0, .int .u64 b1] := (T.rest 2 (by kernel_rfl)).trans h2_3
    have h3_5 : act5.eval (.tmp 3) = .pointer (some ⟨g3_1, 0, none⟩) := (T.rest 3 (by kernel_rfl)).trans h3_3
    have h4_5 : act5.eval (.tmp 4) = .pointer (some ⟨g4_1, 0, none⟩) := (T.rest 4 (by kernel_rfl)).trans h4_3
    have h5_5 : act5.eval (.tmp 5) = .pointer (some ⟨g5_1, 0, none⟩) := (T.rest 5 (by kernel_rfl)).trans h5_3
    have h15_5 : act5.eval (.tmp 15) = .bool q15 := (T.rest 15 (by kernel_rfl)).trans h15_3
    have h17_5 : act5.eval (.tmp 17) = .bool q17 := (T.rest 17 (by kernel_rfl)).trans h17_3
    have kg3_1_5 := (T.below.block _ lg3_1_3).trans kg3_1_3
    have lg3_1_5 := Nat.lt_of_lt_of_le lg3_1_3 T.below.size
    have kg4_1_5 := (T.below.block _ lg4_1_3).trans kg4_1_3
    have lg4_1_5 := Nat.lt_of_lt_of_le lg4_1_3 T.below.size
    have kg5_1_5 := (T.below.block _ lg5_1_3).trans kg5_1_3
    have lg5_1_5 := Nat.lt_of_lt_of_le lg5_1_3 T.below.size
    have Fn0_5 := Eng.Reads.below Fn0_3 T.below
    have Fn1_5 := Eng.Reads.below Fn1_3 T.below
    have h6_5 : act5.eval (.tmp 6) = .bool true := T.done 0 6 rfl rfl
    have d5 := T.defers.trans d3
    have s5 := T.size.trans s3
    have bl5 := bl3.trans (T.below.mono bl3.size)
    clear T
    refine Eng.tail_nil ?_
    first | show Code.wp Tryd.prog _ _ _ _ | skip
    refine wp_ret ?_
    repeat (first | refine Eng.in_ret ?_ | refine Eng.then_ret ?_)
    exact Eng.ret1 rfl d5 h6_5 ⟨rfl, bl5⟩
  ·
    have kn6 := hq
    have c17 := Bq17.symm.trans hq
    clear hq
    obtain ⟨S0, S1⟩ := Lpr.light c17
    refine wp_skip ?_
    first | show Code.wp Tryd.prog _ _ _ _ | skip
    refine wp_seq ?_
    refine (wpIn_wide (n := 1)).1 ?_
    refine EngI.regionT (n := 4) rfl ?_
    refine EngI.tail_val EngI.free_wide rfl rfl rfl rfl (Eng.run_load_all rfl h3_3 kg3_1_3 Tryd.underlying45 rfl (by kernel_rfl)) s3 rfl fun act7 d7 s7 hv hr => ?_
    have h0_7 : act7.eval (.tmp 0) = .agg #[na, nb] := (hr 0 rfl).trans h0_3
    have h1_7 : act7.eval (.tmp 1) = .agg #[.int .i64 a0, .int .u64 a1] := (hr 1 rfl).trans h1_3
    have h2_7 : act7.eval (.tmp 2) = .agg #[.int .i64 b0, .int .u64 b1] := (hr 2 rfl).trans h2_3
    have h3_7 : act7.eval (.tmp 3) = .pointer (some ⟨g3_1, 0, none⟩) := (hr 3 rfl).trans h3_3
    have h4_7 : act7.eval (.tmp 4) = .pointer (some ⟨g4_1, 0, none⟩) := (hr 4 rfl).trans h4_3
    have h5_7 : act7.eval (.tmp 5) = .pointer (some ⟨g5_1, 0, none⟩) := (hr 5 rfl).trans h5_3
    have h6_7 : act7.eval (.tmp 6) = .bool false := (hr 6 rfl).trans h6_3
    have h15_7 : act7.eval (.tmp 15) = .bool q15 := (hr 15 rfl).trans h15_3
    have h17_7 : act7.eval (.tmp 17) = .bool q17 := (hr 17 rfl).trans h17_3
    have h18_7 : act7.eval (.tmp 18) = .agg #[na, nb] := hv
    have d7 := d7.trans d3
    clear hv hr
    refine EngI.tail_call EngI.free_wide Tryd.func28 (by kernel_rfl) (by kernel_rfl) rfl rfl rfl rfl #[.agg #[na, nb]] (by have e0 : act7.eval (.tmp 18) = .agg #[na, nb] := h18_7; simp only [List.map_toArray, List.map_cons, List.map_nil, e0]) s7 rfl (R := fun v w' => ∃ u0 u1, v = .agg #[u0, u1] ∧ w'.ownsRow w3.heap.size 9 1 u0 l0.length (Nfa.strs l0) ∧ w'.ownsRow w3.heap.size 9 1 u1 l1.length (Nfa.strs l1) ∧ Below w3.heap.size w3 w') ((Lpr.theirs_calls na nb l0 l1 _ Fn0_3 Fn1_3 h0 h1).mono ?_) fun v_8 w8 act8 R d8 s8 hv hr => ?_
    · rintro e w1 ⟨u0, u1, rfl, h1, h2, h3⟩; exact ⟨_, rfl, u0, u1, rfl, h1, h2, h3⟩
    have h0_8 : act8.eval (.tmp 0) = .agg #[na, nb] := (hr 0 rfl).trans h0_7
    have h1_8 : act8.eval (.tmp 1) = .agg #[.int .i64 a0, .int .u64 a1] := (hr 1 rfl).trans h1_7
    have h2_8 : act8.eval (.tmp 2) = .agg #[.int .i64 b0, .int .u64 b1] := (hr 2 rfl).trans h2_7
    have h3_8 : act8.eval (.tmp 3) = .pointer (some ⟨g3_1, 0, none⟩) := (hr 3 rfl).trans h3_7
    have h4_8 : act8.eval (.tmp 4) = .pointer (some ⟨g4_1, 0, none⟩) := (hr 4 rfl).trans h4_7
    have h5_8 : act8.eval (.tmp 5) = .pointer (some ⟨g5_1, 0, none⟩) := (hr 5 rfl).trans h5_7
    have h6_8 : act8.eval (.tmp 6) = .bool false := (hr 6 rfl).trans h6_7
    have h15_8 : act8.eval (.tmp 15) = .bool q15 := (hr 15 rfl).trans h15_7
    have h17_8 : act8.eval (.tmp 17) = .bool q17 := (hr 17 rfl).trans h17_7
    have h18_8 : act8.eval (.tmp 18) = .agg #[na, nb] := (hr 18 rfl).trans h18_7
    have h19_8 : act8.eval (.tmp 19) = v_8 := hv
    have d8 := d8.trans d7
    clear hv hr
    obtain ⟨u0, u1, hv1_8, Ou0_8, Ou1_8, hb8⟩ := R
    have Ou0 := Eng.own_mono Ou0_8 bl3.size
    have Ou1 := Eng.own_mono Ou1_8 bl3.size
    have Fu0 := Eng.Reads.of_own Ou0
    have Fu1 := Eng.Reads.of_own Ou1
    have kg3_1_8 := (hb8.block _ lg3_1_3).trans kg3_1_3
    have lg3_1_8 := Nat.lt_of_lt_of_le lg3_1_3 hb8.size
    have kg4_1_8 := (hb8.block _ lg4_1_3).trans kg4_1_3
    have lg4_1_8 := Nat.lt_of_lt_of_le lg4_1_3 hb8.size
    have kg5_1_8 := (hb8.block _ lg5_1_3).trans kg5_1_3
    have lg5_1_8 := Nat.lt_of_lt_of_le lg5_1_3 hb8.size
    have Fn0_8 := Eng.Reads.below Fn0_3 hb8
    have Fn1_8 := Eng.Reads.below Fn1_3 hb8
    have bl8 := bl3.trans (hb8.mono bl3.size)
    rw [hv1_8] at h19_8
    refine EngI.tail_ex EngI.free_wide rfl rfl rfl rfl (Eng.alloc_ex (cs := #[.slice none 0 0, .slice none 0 0]) rfl (by kernel_rfl)) s8 rfl fun v_9 w9 act9 R d9 s9 hv hr => ?_
    obtain ⟨g7_9, ev_9, rg_9, lg7_9, kg7_9, b_9⟩ := R
    have h0_9 : act9.eval (.tmp 0) = .agg #[na, nb] := (hr 0 rfl).trans h0_8
    have h1_9 : act9.eval (.tmp 1) = .agg #[.int .i64 a0, .int .u64 a1] := (hr 1 rfl).trans h1_8
    have h2_9 : act9.eval (.tmp 2) = .agg #[.int .i64 b0, .int .u64 b1] := (hr 2 rfl).trans h2_8
    have h3_9 : act9.eval (.tmp 3) = .pointer (some ⟨g3_1, 0, none⟩) := (hr 3 rfl).trans h3_8
    have h4_9 : act9.eval (.tmp 4) = .pointer (some ⟨g4_1, 0, none⟩) := (hr 4 rfl).trans h4_8
    have h5_9 : act9.eval (.tmp 5) = .pointer (some ⟨g5_1, 0, none⟩) := (hr 5 rfl).trans h5_8
    have h6_9 : act9.eval (.tmp 6) = .bool false := (hr 6 rfl).trans h6_8
    have h15_9 : act9.eval (.tmp 15) = .bool q15 := (hr 15 rfl).trans h15_8
    have h17_9 : act9.eval (.tmp 17) = .bool q17 := (hr 17 rfl).trans h17_8
    have h18_9 : act9.eval (.tmp 18) = .agg #[na, nb] := (hr 18 rfl).trans h18_8
    have h19_9 : act9.eval (.tmp 19) = .agg #[u0, u1] := (hr 19 rfl).trans h19_8
    have h7_9 : act9.eval (.tmp 7) = v_9 := hv
    have d9 := d9.trans d8
    clear hv hr
    have ne_g7_9_g3_1 : g3_1 ≠ g7_9 := fun e => Nat.lt_irrefl _ (Nat.lt_of_lt_of_le (e ▸ lg3_1_8) rg_9)
    have ne_g7_9_g4_1 : g4_1 ≠ g7_9 := fun e => Nat.lt_irrefl _ (Nat.lt_of_lt_of_le (e ▸ lg4_1_8) rg_9)
    have ne_g7_9_g5_1 : g5_1 ≠ g7_9 := fun e => Nat.lt_irrefl _ (Nat.lt_of_lt_of_le (e ▸ lg5_1_8) rg_9)
    have og7_9 : w.heap.size ≤ g7_9 := Nat.le_trans bl8.size rg_9
    have kg3_1_9 := (b_9.block _ lg3_1_8).trans kg3_1_8
    have lg3_1_9 := Nat.lt_of_lt_of_le lg3_1_8 b_9.size
    have kg4_1_9 := (b_9.block _ lg4_1_8).trans kg4_1_8
    have lg4_1_9 := Nat.lt_of_lt_of_le lg4_1_8 b_9.size
    have kg5_1_9 := (b_9.block _ lg5_1_8).trans kg5_1_8
    have lg5_1_9 := Nat.lt_of_lt_of_le lg5_1_8 b_9.size
    have Fn0_9 := Eng.Reads.below Fn0_8 b_9
    have Fn1_9 := Eng.Reads.below Fn1_8 b_9
    have Fm0_9 := Eng.Reads.below Fu0 b_9
    have Om0_9 := Eng.own_below Ou0 b_9
    have Fm1_9 := Eng.Reads.below Fu1 b_9
    have Om1_9 := Eng.own_below Ou1 b_9
    have bl9 := bl8.trans (b_9.mono bl8.size)
    rw [ev_9] at h7_9
    refine EngI.tail_put EngI.free_wide [u0, u1] (n := 0) (new := #[u0, u1]) rfl rfl rfl rfl kg7_9 rfl ?_ fun w10 S => ?_
    · have e0 : act9.eval (.tmp 7) = .pointer (some ⟨g7_9, 0, none⟩) := h7_9
      have e1 : act9.eval (.tmp 19) = .agg #[u0, u1] := h19_9
      obtain ⟨A0_, c0_, ev0_⟩ := Eng.Reads.shape Fm0_9
      subst ev0_
      obtain ⟨A1_, c1_, ev1_⟩ := Eng.Reads.shape Fm1_9
      subst ev1_
      have z0 := (Eng.cells kg7_9 (0)).trans (rfl)
      have f0 := Eng.unfrozen kg7_9 (0)
      have z1 := (Eng.cells kg7_9 (1)).trans (rfl)
      have f1 := Eng.unfrozen kg7_9 (1)
      simp only [execOp]
      rw [e0, e1]
      go_simp
      try rfl
    have kg3_1_10 := (S.far _ ne_g7_9_g3_1).trans kg3_1_9
    have lg3_1_10 := Nat.lt_of_lt_of_eq lg3_1_9 S.size.symm
    have kg4_1_10 := (S.far _ ne_g7_9_g4_1).trans kg4_1_9
    have lg4_1_10 := Nat.lt_of_lt_of_eq lg4_1_9 S.size.symm
    have kg5_1_10 := (S.far _ ne_g7_9_g5_1).trans kg5_1_9
    have lg5_1_10 := Nat.lt_of_lt_of_eq lg5_1_9 S.size.symm
    have kg7_9_10 := S.new
    have lg7_9_10 := Nat.lt_of_lt_of_eq lg7_9 S.size.symm
    have bl10 := S.below bl9 og7_9
    have Fn0_10 := Eng.Reads.below F0 bl10
    have Fn1_10 := Eng.Reads.below F1 bl10
    have Om0_10 := Eng.own_sets Om0_9 S kg7_9 rfl
    have Fm0_10 := Eng.Reads.of_own Om0_10
    have Om1_10 := Eng.own_sets Om1_9 S kg7_9 rfl
    have Fm1_10 := Eng.Reads.of_own Om1_10
    clear S
    refine EngI.tail_nil ?_
    first | show Code.wp Tryd.prog _ _ _ _ | skip
    refine wp_seq ?_
    refine Eng.regionD (Eng.still [fun u_ => u_ = .agg #[.int .i64 a0, .int .u64 a1], fun u_ => u_ = .agg #[.int .i64 b0, .int .u64 b1], fun u_ => True, fun u_ => True, fun u_ => True, fun u_ => True]) (fun i => ([.plain, .plain, .alloc 30 #[.int .i64 0, .int .u64 0], .alloc 30 #[.int .i64 0, .int .u64 0], .store 2 #[.int .i64 a0, .int .u64 a1], .store 3 #[.int .i64 b0, .int .u64 b1]] : List Eng.Kind).getD i .plain) 6 0 70 (by kernel_rfl) s9 rfl (by kernel_rfl) (Eng.still_stable _) (Or.inr (Eng.still_any _)) ?_ ?_
    · refine Eng.Steps.cons (fun _ => ?_) (Eng.Steps.cons (fun _ => ?_) (Eng.Steps.cons (fun _ => ?_) (Eng.Steps.cons (fun _ => ?_) (Eng.Steps.cons (fun _ => ?_) (Eng.Steps.cons (fun _ => ?_) (Eng.Steps.nil))))))
      · refine Eng.plain rfl rfl fun a w' H => ?_
        have kb := (H.below.block _ lg4_1_10).trans kg4_1_10
        have z0 : w'.cell? ⟨g4_1, 0, none⟩ = some (.int .i64 a0) := (Eng.cells kb 0).trans rfl
        have z1 : w'.cell? ⟨g4_1, 1, none⟩ = some (.int .u64 a1) := (Eng.cells kb 1).trans rfl
        refine Eng.val (w1 := w') (v := .agg #[.int .i64 a0, .int .u64 a1]) ?_ (Below.refl _ _) rfl
        have e0 : a.eval (.tmp 4) = .pointer (some ⟨g4_1, 0, none⟩) := ((H.kept 4 (by kernel_rfl)).trans h4_9)
        simp only [execOp, resolve, List.map_toArray, List.map_cons, List.map_nil, e0]
        go_simp
        all_goals first | rfl | (simp; done) | (rw [Bool.eq_iff_iff]; simp; done) | omega | (split <;> first | (simp_all; done) | (split <;> simp_all; done)) | skip
      · refine Eng.plain rfl rfl fun a w' H => ?_
        have kb := (H.below.block _ lg5_1_10).trans kg5_1_10
        have z0 : w'.cell? ⟨g5_1, 0, none⟩ = some (.int .i64 b0) := (Eng.cells kb 0).trans rfl
        have z1 : w'.cell? ⟨g5_1, 1, none⟩ = some (.int .u64 b1) := (Eng.cells kb 1).trans rfl
        refine Eng.val (w1 := w') (v := .agg #[.int .i64 b0, .int .u64 b1]) ?_ (Below.refl _ _) rfl
        have e0 : a.eval (.tmp 5) = .pointer (some ⟨g5_1, 0, none⟩) := ((H.kept 5 (by kernel_rfl)).trans h5_9)
        simp only [execOp, resolve, List.map_toArray, List.map_cons, List.map_nil, e0]
        go_simp
        all_goals first | rfl | (simp; done) | (rw [Bool.eq_iff_iff]; simp; done) | omega | (split <;> first | (simp_all; done) | (split <;> simp_all; done)) | skip
      · refine Eng.made rfl (by simp) rfl (fun a w' hd ho => ?_) (fun _ _ => trivial)
        simp only [execOp]
        go_simp
      · refine Eng.made rfl (by simp) rfl (fun a w' hd ho => ?_) (fun _ _ => trivial)
        simp only [execOp]
        go_simp
      · refine Eng.stored [.int .i64 a0, .int .u64 a1] rfl rfl rfl (j := 2) (d := 8) (by kernel_rfl) rfl rfl (Eng.store_uniq (by kernel_rfl)) rfl rfl fun a w' g e hc hd ho => ?_
        have e0 : a.eval _ = .agg #[.int .i64 a0, .int .u64 a1] := (hd 0 20 (by kernel_rfl) rfl)
        have z0 := (Eng.cells hc 0).trans rfl
        have z1 := (Eng.cells hc 1).trans rfl
        have f0 := Eng.unfrozen hc 0
        have f1 := Eng.unfrozen hc 1
        simp only [execOp, e, e0]
        go_simp
        rfl
      · refine Eng.stored [.int .i64 b0, .int .u64 b1] rfl rfl rfl (j := 3) (d := 9) (by kernel_rfl) rfl rfl (Eng.store_uniq (by kernel_rfl)) rfl rfl fun a w' g e hc hd ho => ?_
        have e0 : a.eval _ = .agg #[.int .i64 b0, .int .u64 b1] := (hd 1 21 (by kernel_rfl) rfl)
        have z0 := (Eng.cells hc 0).trans rfl
        have z1 := (Eng.cells hc 1).trans rfl
        have f0 := Eng.unfrozen hc 0
        have f1 := Eng.unfrozen hc 1
        simp only [execOp, e, e0]
        go_simp
        rfl
    intro act11 w11 T
    have h0_11 : act11.eval (.tmp 0) = .agg #[na, nb] := (T.rest 0 (by kernel_rfl)).trans h0_9
    have h1_11 : act11.eval (.tmp 1) = .agg #[.int .i64 a0, .int .u64 a1] := (T.rest 1 (by kernel_rfl)).trans h1_9
    have h2_11 : act11.eval (.tmp 2) = .agg #[.int .i64 b0, .int .u64 b1] := (T.rest 2 (by kernel_rfl)).trans h2_9
    have h3_11 : act11.eval (.tmp 3) = .pointer (some ⟨g3_1, 0, none⟩) := (T.rest 3 (by kernel_rfl)).trans h3_9
    have h4_11 : act11.eval (.tmp 4) = .pointer (some ⟨g4_1, 0, none⟩) := (T.rest 4 (by kernel_rfl)).trans h4_9
    have h5_11 : act11.eval (.tmp 5) = .pointer (some ⟨g5_1, 0, none⟩) := (T.rest 5 (by kernel_rfl)).trans h5_9
    have h6_11 : act11.eval (.tmp 6) = .bool false := (T.rest 6 (by kernel_rfl)).trans h6_9
    have h7_11 : act11.eval (.tmp 7) = .pointer (some ⟨g7_9, 0, none⟩) := (T.rest 7 (by kernel_rfl)).trans h7_9
    have h15_11 : act11.eval (.tmp 15) = .bool q15 := (T.rest 15 (by kernel_rfl)).trans h15_9
    have h17_11 : act11.eval (.tmp 17) = .bool q17 := (T.rest 17 (by kernel_rfl)).trans h17_9
    have kg3_1_11 := (T.below.block _ lg3_1_10).trans kg3_1_10
    have lg3_1_11 := Nat.lt_of_lt_of_le lg3_1_10 T.below.size
    have kg4_1_11 := (T.below.block _ lg4_1_10).trans kg4_1_10
    have lg4_1_11 := Nat.lt_of_lt_of_le lg4_1_10 T.below.size
    have kg5_1_11 := (T.below.block _ lg5_1_10).trans kg5_1_10
    have lg5_1_11 := Nat.lt_of_lt_of_le lg5_1_10 T.below.size
    have kg7_9_11 := (T.below.block _ lg7_9_10).trans kg7_9_10
    have lg7_9_11 := Nat.lt_of_lt_of_le lg7_9_10 T.below.size
    have Fn0_11 := Eng.Reads.below Fn0_10 T.below
    have Fn1_11 := Eng.Reads.below Fn1_10 T.below
    have Fm0_11 := Eng.Reads.below Fm0_10 T.below
    have Om0_11 := Eng.own_below Om0_10 T.below
    have Fm1_11 := Eng.Reads.below Fm1_10 T.below
    have Om1_11 := Eng.own_below Om1_10 T.below
    obtain ⟨g8_11, h8_11, rg8_11, lg8_11_11, kg8_11_11⟩ := T.st 2 8 4 _ _ _ rfl rfl rfl rfl rfl
    have og8_11 : w.heap.size ≤ g8_11 := Nat.le_trans bl10.size rg8_11
    obtain ⟨g9_11, h9_11, rg9_11, lg9_11_11, kg9_11_11⟩ := T.st 3 9 5 _ _ _ rfl rfl rfl rfl rfl
    have og9_11 : w.heap.size ≤ g9_11 := Nat.le_trans bl10.size rg9_11
    have d11 := T.defers.trans d9
    have s11 := T.size.trans s9
    have bl11 := bl10.trans (T.below.mono bl10.size)
    clear T
    refine Eng.tail_nil ?_
    first | show Code.wp Tryd.prog _ _ _ _ | skip
    refine wp_seq ?_
    refine Eng.regionD (Eng.still [fun u_ => u_ = .agg #[u0, u1], fun u_ => u_ = .agg #[.int .i64 a0, .int .u64 a1], fun u_ => u_ = .string (⟨(Lpr.printB l0 l1 a0 a1).toArray⟩ : ByteArray), fun u_ => u_ = .agg #[u0, u1], fun u_ => u_ = .agg #[.int .i64 b0, .int .u64 b1], fun u_ => u_ = .string (⟨(Lpr.printB l0 l1 b0 b1).toArray⟩ : ByteArray), fun u_ => u_ = .string (⟨(Lpr.printB l0 l1 a0 a1).toArray⟩ : ByteArray), fun u_ => u_ = .string (⟨(Lpr.printB l0 l1 b0 b1).toArray⟩ : ByteArray)]) (fun i => ([.plain, .plain, .plain, .plain, .plain, .plain, .plain, .plain] : List Eng.Kind).getD i .plain) 8 0 70 (by kernel_rfl) s11 rfl (by kernel_rfl) (Eng.still_stable _) (Or.inr (Eng.still_any _)) ?_ ?_
    · refine Eng.Steps.cons (fun _ => ?_) (Eng.Steps.cons (fun _ => ?_) (Eng.Steps.cons (fun _ => ?_) (Eng.Steps.cons (fun _ => ?_) (Eng.Steps.cons (fun _ => ?_) (Eng.Steps.cons (fun _ => ?_) (Eng.Steps.cons (fun _ => ?_) (Eng.Steps.cons (fun _ => ?_) (Eng.Steps.nil))))))))
      · refine Eng.plain rfl rfl fun a w' H => ?_
        have kb := (H.below.block _ lg7_9_11).trans kg7_9_11
        have z0 : w'.cell? ⟨g7_9, 0, none⟩ = some (u0) := (Eng.cells kb 0).trans rfl
        have z1 : w'.cell? ⟨g7_9, 1, none⟩ = some (u1) := (Eng.cells kb 1).trans rfl
        refine Eng.val (w1 := w') (v := .agg #[u0, u1]) ?_ (Below.refl _ _) rfl
        have e0 : a.eval (.tmp 7) = .pointer (some ⟨g7_9, 0, none⟩) := ((H.kept 7 (by kernel_rfl)).trans h7_11)
        simp only [execOp, resolve, List.map_toArray, List.map_cons, List.map_nil, e0]
        go_simp
        all_goals first | rfl | (simp; done) | (rw [Bool.eq_iff_iff]; simp; done) | omega | (split <;> first | (simp_all; done) | (split <;> simp_all; done)) | skip
      · refine Eng.plain rfl rfl fun a w' H => ?_
        have kb := (H.below.block _ lg8_11_11).trans kg8_11_11
        have z0 : w'.cell? ⟨g8_11, 0, none⟩ = some (.int .i64 a0) := (Eng.cells kb 0).trans rfl
        have z1 : w'.cell? ⟨g8_11, 1, none⟩ = some (.int .u64 a1) := (Eng.cells kb 1).trans rfl
        refine Eng.val (w1 := w') (v := .agg #[.int .i64 a0, .int .u64 a1]) ?_ (Below.refl _ _) rfl
        have e0 : a.eval (.tmp 8) = .pointer (some ⟨g8_11, 0, none⟩) := ((H.kept 8 (by kernel_rfl)).trans h8_11)
        simp only [execOp, resolve, List.map_toArray, List.map_cons, List.map_nil, e0]
        go_simp
        all_goals first | rfl | (simp; done) | (rw [Bool.eq_iff_iff]; simp; done) | omega | (split <;> first | (simp_all; done) | (split <;> simp_all; done)) | skip
      · refine Eng.plain rfl rfl fun a w' H => ?_
        refine Eng.call Tryd.func33 (by kernel_rfl) (by kernel_rfl) rfl #[.agg #[u0, u1], .agg #[.int .i64 a0, .int .u64 a1]] ?_ ?_
        · have e0 : a.eval (.tmp 22) = .agg #[u0, u1] := (H.dep 0 22 (by kernel_rfl) rfl); have e1 : a.eval (.tmp 23) = .agg #[.int .i64 a0, .int .u64 a1] := (H.dep 1 23 (by kernel_rfl) rfl); simp only [List.map_toArray, List.map_cons, List.map_nil, e0, e1]
        refine (Lpr.print_calls (Eng.Reads.below Fm0_11 H.below) (Eng.Reads.below Fm1_11 H.below) S0 S1 a0 a1 (by omega) (by omega)).mono ?_
        rintro e w'' ⟨rfl, hb⟩
        exact ⟨_, rfl, rfl, hb⟩
      · refine Eng.plain rfl rfl fun a w' H => ?_
        have kb := (H.below.block _ lg7_9_11).trans kg7_9_11
        have z0 : w'.cell? ⟨g7_9, 0, none⟩ = some (u0) := (Eng.cells kb 0).trans rfl
        have z1 : w'.cell? ⟨g7_9, 1, none⟩ = some (u1) := (Eng.cells kb 1).trans rfl
        refine Eng.val (w1 := w') (v := .agg #[u0, u1]) ?_ (Below.refl _ _) rfl
        have e0 : a.eval (.tmp 7) = .pointer (some ⟨g7_9, 0, none⟩) := ((H.kept 7 (by kernel_rfl)).trans h7_11)
        simp only [execOp, resolve, List.map_toArray, List.map_cons, List.map_nil, e0]
        go_simp
        all_goals first | rfl | (simp; done) | (rw [Bool.eq_iff_iff]; simp; done) | omega | (split <;> first | (simp_all; done) | (split <;> simp_all; done)) | skip
      · refine Eng.plain rfl rfl fun a w' H => ?_
        have kb := (H.below.block _ lg9_11_11).trans kg9_11_11
        have z0 : w'.cell? ⟨g9_11, 0, none⟩ = some (.int .i64 b0) := (Eng.cells kb 0).trans rfl
        have z1 : w'.cell? ⟨g9_11, 1, none⟩ = some (.int .u64 b1) := (Eng.cells kb 1).trans rfl
        refine Eng.val (w1 := w') (v := .agg #[.int .i64 b0, .int .u64 b1]) ?_ (Below.refl _ _) rfl
        have e0 : a.eval (.tmp 9) = .pointer (some ⟨g9_11, 0, none⟩) := ((H.kept 9 (by kernel_rfl)).trans h9_11)
        simp only [execOp, resolve, List.map_toArray, List.map_cons, List.map_nil, e0]
        go_simp
        all_goals first | rfl | (simp; done) | (rw [Bool.eq_iff_iff]; simp; done) | omega | (split <;> first | (simp_all; done) | (split <;> simp_all; done)) | skip
      · refine Eng.plain rfl rfl fun a w' H => ?_
        refine Eng.call Tryd.func33 (by kernel_rfl) (by kernel_rfl) rfl #[.agg #[u0, u1], .agg #[.int .i64 b0, .int .u64 b1]] ?_ ?_
        · have e0 : a.eval (.tmp 25) = .agg #[u0, u1] := (H.dep 3 25 (by kernel_rfl) rfl); have e1 : a.eval (.tmp 26) = .agg #[.int .i64 b0, .int .u64 b1] := (H.dep 4 26 (by kernel_rfl) rfl); simp only [List.map_toArray, List.map_cons, List.map_nil, e0, e1]
        refine (Lpr.print_calls (Eng.Reads.below Fm0_11 H.below) (Eng.Reads.below Fm1_11 H.below) S0 S1 b0 b1 (by omega) (by omega)).mono ?_
        rintro e w'' ⟨rfl, hb⟩
        exact ⟨_, rfl, rfl, hb⟩
      · refine Eng.plain rfl rfl fun a w' H => ?_
        exact Eng.val (w1 := w') (v := .string (⟨(Lpr.printB l0 l1 a0 a1).toArray⟩ : ByteArray)) (Eng.run_assign rfl (H.dep 2 24 (by kernel_rfl) rfl)) (Below.refl _ _) rfl
      · refine Eng.plain rfl rfl fun a w' H => ?_
        exact Eng.val (w1 := w') (v := .string (⟨(Lpr.printB l0 l1 b0 b1).toArray⟩ : ByteArray)) (Eng.run_assign rfl (H.dep 5 27 (by kernel_rfl) rfl)) (Below.refl _ _) rfl
    intro act12 w12 T
    have h0_12 : act12.eval (.tmp 0) = .agg #[na, nb] := (T.rest 0 (by kernel_rfl)).trans h0_11
    have h1_12 : act12.eval (.tmp 1) = .agg #[.int .i64 a0, .int .u64 a1] := (T.rest 1 (by kernel_rfl)).trans h1_11
    have h2_12 : act12.eval (.tmp 2) = .agg #[.int .i64 b0, .int .u64 b1] := (T.rest 2 (by kernel_rfl)).trans h2_11
    have h3_12 : act12.eval (.tmp 3) = .pointer (some ⟨g3_1, 0, none⟩) := (T.rest 3 (by kernel_rfl)).trans h3_11
    have h4_12 : act12.eval (.tmp 4) = .pointer (some ⟨g4_1, 0, none⟩) := (T.rest 4 (by kernel_rfl)).trans h4_11
    have h5_12 : act12.eval (.tmp 5) = .pointer (some ⟨g5_1, 0, none⟩) := (T.rest 5 (by kernel_rfl)).trans h5_11
    have h6_12 : act12.eval (.tmp 6) = .bool false := (T.rest 6 (by kernel_rfl)).trans h6_11
    have h7_12 : act12.eval (.tmp 7) = .pointer (some ⟨g7_9, 0, none⟩) := (T.rest 7 (by kernel_rfl)).trans h7_11
    have h8_12 : act12.eval (.tmp 8) = .pointer (some ⟨g8_11, 0, none⟩) := (T.rest 8 (by kernel_rfl)).trans h8_11
    have h9_12 : act12.eval (.tmp 9) = .pointer (some ⟨g9_11, 0, none⟩) := (T.rest 9 (by kernel_rfl)).trans h9_11
    have h15_12 : act12.eval (.tmp 15) = .bool q15 := (T.rest 15 (by kernel_rfl)).trans h15_11
    have h17_12 : act12.eval (.tmp 17) = .bool q17 := (T.rest 17 (by kernel_rfl)).trans h17_11
    have kg3_1_12 := (T.below.block _ lg3_1_11).trans kg3_1_11
    have lg3_1_12 := Nat.lt_of_lt_of_le lg3_1_11 T.below.size
    have kg4_1_12 := (T.below.block _ lg4_1_11).trans kg4_1_11
    have lg4_1_12 := Nat.lt_of_lt_of_le lg4_1_11 T.below.size
    have kg5_1_12 := (T.below.block _ lg5_1_11).trans kg5_1_11
    have lg5_1_12 := Nat.lt_of_lt_of_le lg5_1_11 T.below.size
    have kg7_9_12 := (T.below.block _ lg7_9_11).trans kg7_9_11
    have lg7_9_12 := Nat.lt_of_lt_of_le lg7_9_11 T.below.size
    have kg8_11_12 := (T.below.block _ lg8_11_11).trans kg8_11_11
    have lg8_11_12 := Nat.lt_of_lt_of_le lg8_11_11 T.below.size
    have kg9_11_12 := (T.below.block _ lg9_11_11).trans kg9_11_11
    have lg9_11_12 := Nat.lt_of_lt_of_le lg9_11_11 T.below.size
    have Fn0_12 := Eng.Reads.below Fn0_11 T.below
    have Fn1_12 := Eng.Reads.below Fn1_11 T.below
    have Fm0_12 := Eng.Reads.below Fm0_11 T.below
    have Om0_12 := Eng.own_below Om0_11 T.below
    have Fm1_12 := Eng.Reads.below Fm1_11 T.below
    have Om1_12 := Eng.own_below Om1_11 T.below
    have h10_12 : act12.eval (.tmp 10) = .string (⟨(Lpr.printB l0 l1 a0 a1).toArray⟩ : ByteArray) := T.done 6 10 rfl rfl
    have h11_12 : act12.eval (.tmp 11) = .string (⟨(Lpr.printB l0 l1 b0 b1).toArray⟩ : ByteArray) := T.done 7 11 rfl rfl
    have d12 := T.defers.trans d11
    have s12 := T.size.trans s11
    have bl12 := bl11.trans (T.below.mono bl11.size)
    clear T
    refine Eng.tail_nil ?_
    first | show Code.wp Tryd.prog _ _ _ _ | skip
    refine wp_seq ?_
    refine wp_seq ?_
    obtain ⟨q29, Bq29⟩ : ∃ b : Bool, b = (Lpr.mayB l0 l1) := ⟨_, rfl⟩
    obtain ⟨q30, Bq30⟩ : ∃ b : Bool, b = (!q29) := ⟨_, rfl⟩
    obtain ⟨q39, Bq39⟩ : ∃ b : Bool, b = (Lpr.rightL l0 l1 a0 a1) := ⟨_, rfl⟩
    obtain ⟨q40, Bq40⟩ : ∃ b : Bool, b = (!q39) := ⟨_, rfl⟩
    obtain ⟨q41, Bq41⟩ : ∃ b : Bool, b = (q30 || q40) := ⟨_, rfl⟩
    refine Eng.regionS (Eng.still [fun u_ => u_ = .agg #[u0, u1], fun u_ => u_ = .bool q29, fun u_ => u_ = .bool q30, fun u_ => u_ = .bool q30, fun u_ => u_ = bif (q30 == false) then (.agg #[.int .i64 a0, .int .u64 a1]) else undef, fun u_ => u_ = bif (q30 == false) then (.pointer (some ⟨g7_9, 0, none⟩)) else undef, fun u_ => u_ = bif (q30 == false) then (u0) else undef, fun u_ => u_ = bif (q30 == false) then (.int .i64 ((l0.length : Nat) : Int)) else undef, fun u_ => u_ = bif (q30 == false) then (.pointer (some ⟨g7_9, 1, none⟩)) else undef, fun u_ => u_ = bif (q30 == false) then (u1) else undef, fun u_ => u_ = bif (q30 == false) then (.int .i64 ((l1.length : Nat) : Int)) else undef, fun u_ => u_ = bif (q30 == false) then (.bool q39) else undef, fun u_ => u_ = bif (q30 == false) then (.bool q40) else undef, fun u_ => u_ = .bool q41]) (fun i => ([.plain, .plain, .plain, .plain, .plain, .plain, .plain, .plain, .plain, .plain, .plain, .plain, .plain, .plain] : List Eng.Kind).getD i .plain) 14 0 70 s12 rfl (by kernel_rfl) (Eng.still_stable _) (Or.inr (Eng.still_any _)) ?_ ?_
    · refine Eng.Steps.cons (fun _ => ?_) (Eng.Steps.cons (fun _ => ?_) (Eng.Steps.cons (fun _ => ?_) (Eng.Steps.cons (fun _ => ?_) (Eng.Steps.cons (fun _ => ?_) (Eng.Steps.cons (fun _ => ?_) (Eng.Steps.cons (fun _ => ?_) (Eng.Steps.cons (fun _ => ?_) (Eng.Steps.cons (fun _ => ?_) (Eng.Steps.cons (fun _ => ?_) (Eng.Steps.cons (fun _ => ?_) (Eng.Steps.cons (fun _ => ?_) (Eng.Steps.cons (fun _ => ?_) (Eng.Steps.cons (fun _ => ?_) (Eng.Steps.nil))))))))))))))
      · refine Eng.plain rfl rfl fun a w' H => ?_
        have kb := (H.below.block _ lg7_9_12).trans kg7_9_12
        have z0 : w'.cell? ⟨g7_9, 0, none⟩ = some (u0) := (Eng.cells kb 0).trans rfl
        have z1 : w'.cell? ⟨g7_9, 1, none⟩ = some (u1) := (Eng.cells kb 1).trans rfl
        refine Eng.val (w1 := w') (v := .agg #[u0, u1]) ?_ (Below.refl _ _) rfl
        have e0 : a.eval (.tmp 7) = .pointer (some ⟨g7_9, 0, none⟩) := ((H.kept 7 (by kernel_rfl)).trans h7_12)
        simp only [execOp, resolve, List.map_toArray, List.map_cons, List.map_nil, e0]
        go_simp
        all_goals first | rfl | (simp; done) | (rw [Bool.eq_iff_iff]; simp; done) | omega | (split <;> first | (simp_all; done) | (split <;> simp_all; done)) | skip
      · refine Eng.plain rfl rfl fun a w' H => ?_
        refine Eng.call Tryd.func31 (by kernel_rfl) (by kernel_rfl) rfl #[.agg #[u0, u1]] ?_ ?_
        · have e0 : a.eval (.tmp 28) = .agg #[u0, u1] := (H.dep 0 28 (by kernel_rfl) rfl); simp only [List.map_toArray, List.map_cons, List.map_nil, e0]
        refine (Lpr.may_calls (Eng.Reads.below Fm0_12 H.below) (Eng.Reads.below Fm1_12 H.below) S0 S1).mono ?_
        rintro e w'' ⟨rfl, hb⟩
        exact ⟨_, rfl, (by show _ = Value.bool q29; rw [Bq29]), hb⟩
      · refine Eng.plain rfl rfl fun a w' H => ?_
        exact Eng.val (w1 := w') (v := .bool (!q29)) (Eng.run_not rfl (H.dep 1 29 (by kernel_rfl) rfl)) (Below.refl _ _) (by show _ = Value.bool q30; rw [Bq30])
      · refine Eng.plain rfl rfl fun a w' H => ?_
        exact Eng.val (w1 := w') (v := .bool q30) (Eng.run_move rfl (H.dep 2 30 (by kernel_rfl) rfl)) (Below.refl _ _) rfl
      · refine Eng.guarded1 (j := 3) (d := 31) (b := q30) rfl rfl (by kernel_rfl) rfl (fun v w h => h) (fun hG w => Eng.off hG) fun hG a w' H => ?_
        have kb := (H.below.block _ lg8_11_12).trans kg8_11_12
        have z0 : w'.cell? ⟨g8_11, 0, none⟩ = some (.int .i64 a0) := (Eng.cells kb 0).trans rfl
        have z1 : w'.cell? ⟨g8_11, 1, none⟩ = some (.int .u64 a1) := (Eng.cells kb 1).trans rfl
        refine Eng.val (w1 := w') (v := .agg #[.int .i64 a0, .int .u64 a1]) ?_ (Below.refl _ _) (Eng.off' hG rfl)
        have e0 : a.eval (.tmp 8) = .pointer (some ⟨g8_11, 0, none⟩) := ((H.kept 8 (by kernel_rfl)).trans h8_12)
        simp only [execOp, resolve, List.map_toArray, List.map_cons, List.map_nil, e0]
        go_simp
        all_goals first | rfl | (simp; done) | (rw [Bool.eq_iff_iff]; simp; done) | omega | (split <;> first | (simp_all; done) | (split <;> simp_all; done)) | skip
      · refine Eng.guarded1 (j := 3) (d := 31) (b := q30) rfl rfl (by kernel_rfl) rfl (fun v w h => h) (fun hG w => Eng.off hG) fun hG a w' H => ?_
        refine Eng.val (w1 := w') (v := .pointer (some ⟨g7_9, 0, none⟩)) ?_ (Below.refl _ _) (Eng.off' hG rfl)
        have e0 : a.eval (.tmp 7) = .pointer (some ⟨g7_9, 0, none⟩) := ((H.kept 7 (by kernel_rfl)).trans h7_12)
        simp only [execOp, resolve, List.map_toArray, List.map_cons, List.map_nil, e0]
        go_simp
        all_goals first | rfl | (simp; done) | (rw [Bool.eq_iff_iff]; simp; done) | omega | (split <;> first | (simp_all; done) | (split <;> simp_all; done)) | skip
      · refine Eng.guarded1 (j := 3) (d := 31) (b := q30) rfl rfl (by kernel_rfl) rfl (fun v w h => h) (fun hG w => Eng.off hG) fun hG a w' H => ?_
        have kb := (H.below.block _ lg7_9_12).trans kg7_9_12
        have z0 : w'.cell? ⟨g7_9, 0, none⟩ = some (u0) := (Eng.cells kb 0).trans rfl
        refine Eng.val (w1 := w') (v := u0) ?_ (Below.refl _ _) (Eng.off' hG rfl)
        have e0 : a.eval (.tmp 33) = .pointer (some ⟨g7_9, 0, none⟩) := (Eng.on (H.dep 5 33 (by kernel_rfl) rfl) hG)
        simp only [execOp, resolve, List.map_toArray, List.map_cons, List.map_nil, e0]
        go_simp
        all_goals first | rfl | (simp; done) | (rw [Bool.eq_iff_iff]; simp; done) | omega | (split <;> first | (simp_all; done) | (split <;> simp_all; done)) | skip
      · refine Eng.guarded1 (j := 3) (d := 31) (b := q30) rfl rfl (by kernel_rfl) rfl (fun v w h => h) (fun hG w => Eng.off hG) fun hG a w' H => ?_
        refine Eng.val (w1 := w') (v := .int .i64 ((l0.length : Nat) : Int)) ?_ (Below.refl _ _) (Eng.off' hG rfl)
        exact Eng.run_len_sl rfl Tryd.underlying43 (show a.eval (.tmp 34) = u0 from (Eng.on (H.dep 6 34 (by kernel_rfl) rfl) hG)) (Eng.Reads.below Fm0_12 H.below)
      · refine Eng.guarded1 (j := 3) (d := 31) (b := q30) rfl rfl (by kernel_rfl) rfl (fun v w h => h) (fun hG w => Eng.off hG) fun hG a w' H => ?_
        refine Eng.val (w1 := w') (v := .pointer (some ⟨g7_9, 1, none⟩)) ?_ (Below.refl _ _) (Eng.off' hG rfl)
        have e0 : a.eval (.tmp 7) = .pointer (some ⟨g7_9, 0, none⟩) := ((H.kept 7 (by kernel_rfl)).trans h7_12)
        simp only [execOp, resolve, List.map_toArray, List.map_cons, List.map_nil, e0]
        go_simp
        all_goals first | rfl | (simp; done) | (rw [Bool.eq_iff_iff]; simp; done) | omega | (split <;> first | (simp_all; done) | (split <;> simp_all; done)) | skip
      · refine Eng.guarded1 (j := 3) (d := 31) (b := q30) rfl rfl (by kernel_rfl) rfl (fun v w h => h) (fun hG w => Eng.off hG) fun hG a w' H => ?_
        have kb := (H.below.block _ lg7_9_12).trans kg7_9_12
        have z0 : w'.cell? ⟨g7_9, 1, none⟩ = some (u1) := (Eng.cells kb 1).trans rfl
        refine Eng.val (w1 := w') (v := u1) ?_ (Below.refl _ _) (Eng.off' hG rfl)
        have e0 : a.eval (.tmp 36) = .pointer (some ⟨g7_9, 1, none⟩) := (Eng.on (H.dep 8 36 (by kernel_rfl) rfl) hG)
        simp only [execOp, resolve, List.map_toArray, List.map_cons, List.map_nil, e0]
        go_simp
        all_goals first | rfl | (simp; done) | (rw [Bool.eq_iff_iff]; simp; done) | omega | (split <;> first | (simp_all; done) | (split <;> simp_all; done)) | skip
      · refine Eng.guarded1 (j := 3) (d := 31) (b := q30) rfl rfl (by kernel_rfl) rfl (fun v w h => h) (fun hG w => Eng.off hG) fun hG a w' H => ?_
        refine Eng.val (w1 := w') (v := .int .i64 ((l1.length : Nat) : Int)) ?_ (Below.refl _ _) (Eng.off' hG rfl)
        exact Eng.run_len_sl rfl Tryd.underlying43 (show a.eval (.tmp 37) = u1 from (Eng.on (H.dep 9 37 (by kernel_rfl) rfl) hG)) (Eng.Reads.below Fm1_12 H.below)
      · refine Eng.guarded1 (j := 3) (d := 31) (b := q30) rfl rfl (by kernel_rfl) rfl (fun v w h => h) (fun hG w => Eng.off hG) fun hG a w' H => ?_
        refine Eng.call Tryd.func24 (by kernel_rfl) (by kernel_rfl) rfl #[.agg #[.int .i64 a0, .int .u64 a1], .int .i64 ((l0.length : Nat) : Int), .int .i64 ((l1.length : Nat) : Int)] ?_ ?_
        · have e0 : a.eval (.tmp 32) = .agg #[.int .i64 a0, .int .u64 a1] := (Eng.on (H.dep 4 32 (by kernel_rfl) rfl) hG); have e1 : a.eval (.tmp 35) = .int .i64 ((l0.length : Nat) : Int) := (Eng.on (H.dep 7 35 (by kernel_rfl) rfl) hG); have e2 : a.eval (.tmp 38) = .int .i64 ((l1.length : Nat) : Int) := (Eng.on (H.dep 10 38 (by kernel_rfl) rfl) hG); simp only [List.map_toArray, List.map_cons, List.map_nil, e0, e1, e2]
        refine (Lpr.right_calls l0 l1 a0 a1 _ (by omega) (by omega)).mono ?_
        rintro e w'' ⟨rfl, hb⟩
        exact ⟨_, rfl, (Eng.off' hG (by rw [Bq39])), hb⟩
      · refine Eng.guarded1 (j := 3) (d := 31) (b := q30) rfl rfl (by kernel_rfl) rfl (fun v w h => h) (fun hG w => Eng.off hG) fun hG a w' H => ?_
        exact Eng.val (w1 := w') (v := .bool (!q39)) (Eng.run_not rfl (Eng.on (H.dep 11 39 (by kernel_rfl) rfl) hG)) (Below.refl _ _) (Eng.off' hG (by rw [Bq40]))
      · refine Eng.plain rfl rfl fun a w' H => ?_
        exact Eng.val (w1 := w') (v := .bool (q30 || q40)) (Eng.run_or rfl rfl (G := true) (H.dep 3 31 (by kernel_rfl) rfl) (fun hb => (Eng.on (H.dep 12 40 (by kernel_rfl) rfl) (Eng.mk1 hb)))) (Below.refl _ _) (by show _ = Value.bool q41; rw [Bq41])
    intro act13 w13 T
    have h0_13 : act13.eval (.tmp 0) = .agg #[na, nb] := (T.rest 0 (by kernel_rfl)).trans h0_12
    have h1_13 : act13.eval (.tmp 1) = .agg #[.int .i64 a0, .int .u64 a1] := (T.rest 1 (by kernel_rfl)).trans h1_12
    have h2_13 : act13.eval (.tmp 2) = .agg #[.int .i64 b0, .int .u64 b1] := (T.rest 2 (by kernel_rfl)).trans h2_12
    have h3_13 : act13.eval (.tmp 3) = .pointer (some ⟨g3_1, 0, none⟩) := (T.rest 3 (by kernel_rfl)).trans h3_12
    have h4_13 : act13.eval (.tmp 4) = .pointer (some ⟨g4_1, 0, none⟩) := (T.rest 4 (by kernel_rfl)).trans h4_12
    have h5_13 : act13.eval (.tmp 5) = .pointer (some ⟨g5_1, 0, none⟩) := (T.rest 5 (by kernel_rfl)).trans h5_12
    have h6_13 : act13.eval (.tmp 6) = .bool false := (T.rest 6 (by kernel_rfl)).trans h6_12
    have h7_13 : act13.eval (.tmp 7) = .pointer (some ⟨g7_9, 0, none⟩) := (T.rest 7 (by kernel_rfl)).trans h7_12
    have h8_13 : act13.eval (.tmp 8) = .pointer (some ⟨g8_11, 0, none⟩) := (T.rest 8 (by kernel_rfl)).trans h8_12
    have h9_13 : act13.eval (.tmp 9) = .pointer (some ⟨g9_11, 0, none⟩) := (T.rest 9 (by kernel_rfl)).trans h9_12
    have h10_13 : act13.eval (.tmp 10) = .string (⟨(Lpr.printB l0 l1 a0 a1).toArray⟩ : ByteArray) := (T.rest 10 (by kernel_rfl)).trans h10_12
    have h11_13 : act13.eval (.tmp 11) = .string (⟨(Lpr.printB l0 l1 b0 b1).toArray⟩ : ByteArray) := (T.rest 11 (by kernel_rfl)).trans h11_12
    have h15_13 : act13.eval (.tmp 15) = .bool q15 := (T.rest 15 (by kernel_rfl)).trans h15_12
    have h17_13 : act13.eval (.tmp 17) = .bool q17 := (T.rest 17 (by kernel_rfl)).trans h17_12
    have kg3_1_13 := (T.below.block _ lg3_1_12).trans kg3_1_12
    have lg3_1_13 := Nat.lt_of_lt_of_le lg3_1_12 T.below.size
    have kg4_1_13 := (T.below.block _ lg4_1_12).trans kg4_1_12
    have lg4_1_13 := Nat.lt_of_lt_of_le lg4_1_12 T.below.size
    have kg5_1_13 := (T.below.block _ lg5_1_12).trans kg5_1_12
    have lg5_1_13 := Nat.lt_of_lt_of_le lg5_1_12 T.below.size
    have kg7_9_13 := (T.below.block _ lg7_9_12).trans kg7_9_12
    have lg7_9_13 := Nat.lt_of_lt_of_le lg7_9_12 T.below.size
    have kg8_11_13 := (T.below.block _ lg8_11_12).trans kg8_11_12
    have lg8_11_13 := Nat.lt_of_lt_of_le lg8_11_12 T.below.size
    have kg9_11_13 := (T.below.block _ lg9_11_12).trans kg9_11_12
    have lg9_11_13 := Nat.lt_of_lt_of_le lg9_11_12 T.below.size
    have Fn0_13 := Eng.Reads.below Fn0_12 T.below
    have Fn1_13 := Eng.Reads.below Fn1_12 T.below
    have Fm0_13 := Eng.Reads.below Fm0_12 T.below
    have Om0_13 := Eng.own_below Om0_12 T.below
    have Fm1_13 := Eng.Reads.below Fm1_12 T.below
    have Om1_13 := Eng.own_below Om1_12 T.below
    have h41_13 : act13.eval (.tmp 41) = .bool q41 := T.done 13 41 rfl rfl
    have d13 := T.defers.trans d12
    have s13 := T.size.trans s12
    have bl13 := bl12.trans (T.below.mono bl12.size)
    clear T
    refine Eng.tail_nil ?_
    first | show Code.wp Tryd.prog _ _ _ _ | skip
    refine wp_cond_split h41_13 (fun hq => ?_) (fun hq => ?_)
    ·
      have kn14 := hq
      have c41 := Bq41.symm.trans hq
      clear hq
      have hno := c41
      refine wp_seq ?_
      obtain ⟨q43, Bq43⟩ : ∃ b : Bool, b = ((⟨(Lpr.printB l0 l1 a0 a1).toArray⟩ : ByteArray).toList.isEmpty) := ⟨_, rfl⟩
      refine Eng.regionS (Eng.still [fun u_ => u_ = .string (⟨(Lpr.printB l0 l1 a0 a1).toArray⟩ : ByteArray), fun u_ => u_ = .bool q43, fun u_ => u_ = .bool q43]) (fun i => ([.plain, .plain, .plain] : List Eng.Kind).getD i .plain) 3 0 70 s13 rfl (by kernel_rfl) (Eng.still_stable _) (Or.inr (Eng.still_any _)) ?_ ?_
      · refine Eng.Steps.cons (fun _ => ?_) (Eng.Steps.cons (fun _ => ?_) (Eng.Steps.cons (fun _ => ?_) (Eng.Steps.nil)))
        · refine Eng.plain rfl rfl fun a w' H => ?_
          exact Eng.val (w1 := w') (v := .string (⟨(Lpr.printB l0 l1 a0 a1).toArray⟩ : ByteArray)) (Eng.run_move rfl ((H.kept 10 (by kernel_rfl)).trans h10_13)) (Below.refl _ _) rfl
        · refine Eng.plain rfl rfl fun a w' H => ?_
          refine Eng.val (w1 := w') (v := .bool ((⟨(Lpr.printB l0 l1 a0 a1).toArray⟩ : ByteArray).toList.isEmpty)) ?_ (Below.refl _ _) (by show _ = Value.bool q43; rw [Bq43])
          have e0 : a.eval (.tmp 42) = .string (⟨(Lpr.printB l0 l1 a0 a1).toArray⟩ : ByteArray) := (H.dep 0 42 (by kernel_rfl) rfl)
          have e1 : a.eval (.const (.string ⟨#[]⟩)) = .string ⟨#[]⟩ := (rfl : a.eval (.const (.string ⟨#[]⟩)) = .string ⟨#[]⟩)
          simp only [execOp, resolve, List.map_toArray, List.map_cons, List.map_nil, e0, e1]
          go_simp
          all_goals first | rfl | (simp; done) | (rw [Bool.eq_iff_iff]; simp; done) | omega | (split <;> first | (simp_all; done) | (split <;> simp_all; done)) | skip
        · refine Eng.plain rfl rfl fun a w' H => ?_
          exact Eng.val (w1 := w') (v := .bool q43) (Eng.run_assign rfl (H.dep 1 43 (by kernel_rfl) rfl)) (Below.refl _ _) rfl
      intro act15 w15 T
      have h0_15 : act15.eval (.tmp 0) = .agg #[na, nb] := (T.rest 0 (by kernel_rfl)).trans h0_13
      have h1_15 : act15.eval (.tmp 1) = .agg #[.int .i64 a0, .int .u64 a1] := (T.rest 1 (by kernel_rfl)).trans h1_13
      have h2_15 : act15.eval (.tmp 2) = .agg #[.int .i64 b0, .int .u64 b1] := (T.rest 2 (by kernel_rfl)).trans h2_13
      have h3_15 : act15.eval (.tmp 3) = .pointer (some ⟨g3_1, 0, none⟩) := (T.rest 3 (by kernel_rfl)).trans h3_13
      have h4_15 : act15.eval (.tmp 4) = .pointer (some ⟨g4_1, 0, none⟩) := (T.rest 4 (by kernel_rfl)).trans h4_13
      have h5_15 : act15.eval (.tmp 5) = .pointer (some ⟨g5_1, 0, none⟩) := (T.rest 5 (by kernel_rfl)).trans h5_13
      have h7_15 : act15.eval (.tmp 7) = .pointer (some ⟨g7_9, 0, none⟩) := (T.rest 7 (by kernel_rfl)).trans h7_13
      have h8_15 : act15.eval (.tmp 8) = .pointer (some ⟨g8_11, 0, none⟩) := (T.rest 8 (by kernel_rfl)).trans h8_13
      have h9_15 : act15.eval (.tmp 9) = .pointer (some ⟨g9_11, 0, none⟩) := (T.rest 9 (by kernel_rfl)).trans h9_13
      have h10_15 : act15.eval (.tmp 10) = .string (⟨(Lpr.printB l0 l1 a0 a1).toArray⟩ : ByteArray) := (T.rest 10 (by kernel_rfl)).trans h10_13
      have h11_15 : act15.eval (.tmp 11) = .string (⟨(Lpr.printB l0 l1 b0 b1).toArray⟩ : ByteArray) := (T.rest 11 (by kernel_rfl)).trans h11_13
      have h15_15 : act15.eval (.tmp 15) = .bool q15 := (T.rest 15 (by kernel_rfl)).trans h15_13
      have h17_15 : act15.eval (.tmp 17) = .bool q17 := (T.rest 17 (by kernel_rfl)).trans h17_13
      have h41_15 : act15.eval (.tmp 41) = .bool q41 := (T.rest 41 (by kernel_rfl)).trans h41_13
      have kg3_1_15 := (T.below.block _ lg3_1_13).trans kg3_1_13
      have lg3_1_15 := Nat.lt_of_lt_of_le lg3_1_13 T.below.size
      have kg4_1_15 := (T.below.block _ lg4_1_13).trans kg4_1_13
      have lg4_1_15 := Nat.lt_of_lt_of_le lg4_1_13 T.below.size
      have kg5_1_15 := (T.below.block _ lg5_1_13).trans kg5_1_13
      have lg5_1_15 := Nat.lt_of_lt_of_le lg5_1_13 T.below.size
      have kg7_9_15 := (T.below.block _ lg7_9_13).trans kg7_9_13
      have lg7_9_15 := Nat.lt_of_lt_of_le lg7_9_13 T.below.size
      have kg8_11_15 := (T.below.block _ lg8_11_13).trans kg8_11_13
      have lg8_11_15 := Nat.lt_of_lt_of_le lg8_11_13 T.below.size
      have kg9_11_15 := (T.below.block _ lg9_11_13).trans kg9_11_13
      have lg9_11_15 := Nat.lt_of_lt_of_le lg9_11_13 T.below.size
      have Fn0_15 := Eng.Reads.below Fn0_13 T.below
      have Fn1_15 := Eng.Reads.below Fn1_13 T.below
      have Fm0_15 := Eng.Reads.below Fm0_13 T.below
      have Om0_15 := Eng.own_below Om0_13 T.below
      have Fm1_15 := Eng.Reads.below Fm1_13 T.below
      have Om1_15 := Eng.own_below Om1_13 T.below
      have h6_15 : act15.eval (.tmp 6) = .bool q43 := T.done 2 6 rfl rfl
      have d15 := T.defers.trans d13
      have s15 := T.size.trans s13
      have bl15 := bl13.trans (T.below.mono bl13.size)
      clear T
      refine Eng.tail_nil ?_
      first | show Code.wp Tryd.prog _ _ _ _ | skip
      refine wp_ret ?_
      repeat (first | refine Eng.in_ret ?_ | refine Eng.then_ret ?_)
      have hz : q43 = true := by rw [Bq43, Lpr.print_not (by rw [Bq40, Bq39, Bq30, Bq29] at hno; exact hno), Lpr.tl]; rfl
      exact Eng.ret1 rfl d15 (h6_15.trans (by rw [hz])) ⟨rfl, bl15⟩
    ·
      have kn16 := hq
      have c41 := Bq41.symm.trans hq
      clear hq
      have hmr : Lpr.mayB l0 l1 = true ∧ Lpr.rightL l0 l1 a0 a1 = true := by rw [Bq40, Bq39, Bq30, Bq29] at c41; exact Lpr.both_of c41
      obtain ⟨hm, hr⟩ := hmr
      refine wp_skip ?_
      first | show Code.wp Tryd.prog _ _ _ _ | skip
      refine wp_seq ?_
      refine Eng.regionS (Eng.still [fun u_ => u_ = .agg #[u0, u1], fun u_ => u_ = .string (⟨(Lpr.printB l0 l1 a0 a1).toArray⟩ : ByteArray), fun u_ => u_ = .tuple #[.agg #[.int .i64 a0, .int .u64 a1], .int .i64 (0 : Int)], fun u_ => u_ = .tuple #[.agg #[.int .i64 a0, .int .u64 a1], .int .i64 (0 : Int)], fun u_ => u_ = .agg #[.int .i64 a0, .int .u64 a1], fun u_ => u_ = .int .i64 (0 : Int), fun u_ => True, fun u_ => True, fun u_ => u_ = .int .i64 (0 : Int)]) (fun i => ([.plain, .plain, .plain, .plain, .plain, .plain, .alloc 30 #[.int .i64 0, .int .u64 0], .store 6 #[.int .i64 a0, .int .u64 a1], .plain] : List Eng.Kind).getD i .plain) 9 0 70 s13 rfl (by kernel_rfl) (Eng.still_stable _) (Or.inr (Eng.still_any _)) ?_ ?_
      · refine Eng.Steps.cons (fun _ => ?_) (Eng.Steps.cons (fun _ => ?_) (Eng.Steps.cons (fun _ => ?_) (Eng.Steps.cons (fun _ => ?_) (Eng.Steps.cons (fun _ => ?_) (Eng.Steps.cons (fun _ => ?_) (Eng.Steps.cons (fun _ => ?_) (Eng.Steps.cons (fun _ => ?_) (Eng.Steps.cons (fun _ => ?_) (Eng.Steps.nil)))))))))
        · refine Eng.plain rfl rfl fun a w' H => ?_
          have kb := (H.below.block _ lg7_9_13).trans kg7_9_13
          have z0 : w'.cell? ⟨g7_9, 0, none⟩ = some (u0) := (Eng.cells kb 0).trans rfl
          have z1 : w'.cell? ⟨g7_9, 1, none⟩ = some (u1) := (Eng.cells kb 1).trans rfl
          refine Eng.val (w1 := w') (v := .agg #[u0, u1]) ?_ (Below.refl _ _) rfl
          have e0 : a.eval (.tmp 7) = .pointer (some ⟨g7_9, 0, none⟩) := ((H.kept 7 (by kernel_rfl)).trans h7_13)
          simp only [execOp, resolve, List.map_toArray, List.map_cons, List.map_nil, e0]
          go_simp
          all_goals first | rfl | (simp; done) | (rw [Bool.eq_iff_iff]; simp; done) | omega | (split <;> first | (simp_all; done) | (split <;> simp_all; done)) | skip
        · refine Eng.plain rfl rfl fun a w' H => ?_
          exact Eng.val (w1 := w') (v := .string (⟨(Lpr.printB l0 l1 a0 a1).toArray⟩ : ByteArray)) (Eng.run_move rfl ((H.kept 10 (by kernel_rfl)).trans h10_13)) (Below.refl _ _) rfl
        · refine Eng.plain rfl rfl fun a w' H => ?_
          refine Eng.call Tryd.func29 (by kernel_rfl) (by kernel_rfl) rfl #[.agg #[u0, u1], .string (⟨(Lpr.printB l0 l1 a0 a1).toArray⟩ : ByteArray)] ?_ ?_
          · have e0 : a.eval (.tmp 45) = .agg #[u0, u1] := (H.dep 0 45 (by kernel_rfl) rfl); have e1 : a.eval (.tmp 46) = .string (⟨(Lpr.printB l0 l1 a0 a1).toArray⟩ : ByteArray) := (H.dep 1 46 (by kernel_rfl) rfl); simp only [List.map_toArray, List.map_cons, List.map_nil, e0, e1]
          refine ((Lpr.parse_printed (Eng.Reads.below Fm0_13 H.below) (Eng.Reads.below Fm1_13 H.below) S0 S1 hm hr ha0 ha1)).mono ?_
          rintro e w'' ⟨rfl, hb⟩
          exact ⟨_, rfl, rfl, hb⟩
        · refine Eng.plain rfl rfl fun a w' H => ?_
          exact Eng.val (w1 := w') (v := .tuple #[.agg #[.int .i64 a0, .int .u64 a1], .int .i64 (0 : Int)]) (Eng.run_move rfl (H.dep 2 47 (by kernel_rfl) rfl)) (Below.refl _ _) rfl
        · refine Eng.plain rfl rfl fun a w' H => ?_
          refine Eng.val (w1 := w') (v := .agg #[.int .i64 a0, .int .u64 a1]) ?_ (Below.refl _ _) rfl
          have e0 : a.eval (.tmp 44) = .tuple #[.agg #[.int .i64 a0, .int .u64 a1], .int .i64 (0 : Int)] := (H.dep 3 44 (by kernel_rfl) rfl)
          simp only [execOp, resolve, List.map_toArray, List.map_cons, List.map_nil, e0]
          go_simp
          all_goals first | rfl | (simp; done) | (rw [Bool.eq_iff_iff]; simp; done) | omega | (split <;> first | (simp_all; done) | (split <;> simp_all; done)) | skip
        · refine Eng.plain rfl rfl fun a w' H => ?_
          refine Eng.val (w1 := w') (v := .int .i64 (0 : Int)) ?_ (Below.refl _ _) rfl
          have e0 : a.eval (.tmp 44) = .tuple #[.agg #[.int .i64 a0, .int .u64 a1], .int .i64 (0 : Int)] := (H.dep 3 44 (by kernel_rfl) rfl)
          simp only [execOp, resolve, List.map_toArray, List.map_cons, List.map_nil, e0]
          go_simp
          all_goals first | rfl | (simp; done) | (rw [Bool.eq_iff_iff]; simp; done) | omega | (split <;> first | (simp_all; done) | (split <;> simp_all; done)) | skip
        · refine Eng.made rfl (by simp) rfl (fun a w' hd ho => ?_) (fun _ _ => trivial)
          simp only [execOp]
          go_simp
        · refine Eng.stored [.int .i64 a0, .int .u64 a1] rfl rfl rfl (j := 6) (d := 12) (by kernel_rfl) rfl rfl (Eng.store_uniq (by kernel_rfl)) rfl rfl fun a w' g e hc hd ho => ?_
          have e0 : a.eval _ = .agg #[.int .i64 a0, .int .u64 a1] := (hd 4 48 (by kernel_rfl) rfl)
          have z0 := (Eng.cells hc 0).trans rfl
          have z1 := (Eng.cells hc 1).trans rfl
          have f0 := Eng.unfrozen hc 0
          have f1 := Eng.unfrozen hc 1
          simp only [execOp, e, e0]
          go_simp
          rfl
        · refine Eng.plain rfl rfl fun a w' H => ?_
          exact Eng.val (w1 := w') (v := .int .i64 (0 : Int)) (Eng.run_assign rfl (H.dep 5 49 (by kernel_rfl) rfl)) (Below.refl _ _) rfl
      intro act17 w17 T
      have h0_17 : act17.eval (.tmp 0) = .agg #[na, nb] := (T.rest 0 (by kernel_rfl)).trans h0_13
      have h1_17 : act17.eval (.tmp 1) = .agg #[.int .i64 a0, .int .u64 a1] := (T.rest 1 (by kernel_rfl)).trans h1_13
      have h2_17 : act17.eval (.tmp 2) = .agg #[.int .i64 b0, .int .u64 b1] := (T.rest 2 (by kernel_rfl)).trans h2_13
      have h3_17 : act17.eval (.tmp 3) = .pointer (some ⟨g3_1, 0, none⟩) := (T.rest 3 (by kernel_rfl)).trans h3_13
      have h4_17 : act17.eval (.tmp 4) = .pointer (some ⟨g4_1, 0, none⟩) := (T.rest 4 (by kernel_rfl)).trans h4_13
      have h5_17 : act17.eval (.tmp 5) = .pointer (some ⟨g5_1, 0, none⟩) := (T.rest 5 (by kernel_rfl)).trans h5_13
      have h6_17 : act17.eval (.tmp 6) = .bool false := (T.rest 6 (by kernel_rfl)).trans h6_13
      have h7_17 : act17.eval (.tmp 7) = .pointer (some ⟨g7_9, 0, none⟩) := (T.rest 7 (by kernel_rfl)).trans h7_13
      have h8_17 : act17.eval (.tmp 8) = .pointer (some ⟨g8_11, 0, none⟩) := (T.rest 8 (by kernel_rfl)).trans h8_13
      have h9_17 : act17.eval (.tmp 9) = .pointer (some ⟨g9_11, 0, none⟩) := (T.rest 9 (by kernel_rfl)).trans h9_13
      have h10_17 : act17.eval (.tmp 10) = .string (⟨(Lpr.printB l0 l1 a0 a1).toArray⟩ : ByteArray) := (T.rest 10 (by kernel_rfl)).trans h10_13
      have h11_17 : act17.eval (.tmp 11) = .string (⟨(Lpr.printB l0 l1 b0 b1).toArray⟩ : ByteArray) := (T.rest 11 (by kernel_rfl)).trans h11_13
      have h15_17 : act17.eval (.tmp 15) = .bool q15 := (T.rest 15 (by kernel_rfl)).trans h15_13
      have h17_17 : act17.eval (.tmp 17) = .bool q17 := (T.rest 17 (by kernel_rfl)).trans h17_13
      have h41_17 : act17.eval (.tmp 41) = .bool q41 := (T.rest 41 (by kernel_rfl)).trans h41_13
      have kg3_1_17 := (T.below.block _ lg3_1_13).trans kg3_1_13
      have lg3_1_17 := Nat.lt_of_lt_of_le lg3_1_13 T.below.size
      have kg4_1_17 := (T.below.block _ lg4_1_13).trans kg4_1_13
      have lg4_1_17 := Nat.lt_of_lt_of_le lg4_1_13 T.below.size
      have kg5_1_17 := (T.below.block _ lg5_1_13).trans kg5_1_13
      have lg5_1_17 := Nat.lt_of_lt_of_le lg5_1_13 T.below.size
      have kg7_9_17 := (T.below.block _ lg7_9_13).trans kg7_9_13
      have lg7_9_17 := Nat.lt_of_lt_of_le lg7_9_13 T.below.size
      have kg8_11_17 := (T.below.block _ lg8_11_13).trans kg8_11_13
      have lg8_11_17 := Nat.lt_of_lt_of_le lg8_11_13 T.below.size
      have kg9_11_17 := (T.below.block _ lg9_11_13).trans kg9_11_13
      have lg9_11_17 := Nat.lt_of_lt_of_le lg9_11_13 T.below.size
      have Fn0_17 := Eng.Reads.below Fn0_13 T.below
      have Fn1_17 := Eng.Reads.below Fn1_13 T.below
      have Fm0_17 := Eng.Reads.below Fm0_13 T.below
      have Om0_17 := Eng.own_below Om0_13 T.below
      have Fm1_17 := Eng.Reads.below Fm1_13 T.below
      have Om1_17 := Eng.own_below Om1_13 T.below
      obtain ⟨g12_17, h12_17, rg12_17, lg12_17_17, kg12_17_17⟩ := T.st 6 12 7 _ _ _ rfl rfl rfl rfl rfl
      have og12_17 : w.heap.size ≤ g12_17 := Nat.le_trans bl13.size rg12_17
      have h13_17 : act17.eval (.tmp 13) = .int .i64 (0 : Int) := T.done 8 13 rfl rfl
      have d17 := T.defers.trans d13
      have s17 := T.size.trans s13
      have bl17 := bl13.trans (T.below.mono bl13.size)
      clear T
      refine Eng.tail_nil ?_
      first | show Code.wp Tryd.prog _ _ _ _ | skip
      refine wp_seq ?_
      obtain ⟨q59, Bq59⟩ : ∃ b : Bool, b = ((⟨(Lpr.printB l0 l1 b0 b1).toArray⟩ : ByteArray).toList.isEmpty) := ⟨_, rfl⟩
      obtain ⟨q63, Bq63⟩ : ∃ b : Bool, b = ((⟨(Lpr.printB l0 l1 b0 b1).toArray⟩ : ByteArray).toList == (⟨(Lpr.printB l0 l1 a0 a1).toArray⟩ : ByteArray).toList) := ⟨_, rfl⟩
      obtain ⟨q66, Bq66⟩ : ∃ b : Bool, b = (a0 == b0 && (a1 == b1)) := ⟨_, rfl⟩
      obtain ⟨q67, Bq67⟩ : ∃ b : Bool, b = (q63 == q66) := ⟨_, rfl⟩
      obtain ⟨q68, Bq68⟩ : ∃ b : Bool, b = (q59 || q67) := ⟨_, rfl⟩
      obtain ⟨q69, Bq69⟩ : ∃ b : Bool, b = (true && q68) := ⟨_, rfl⟩
      refine Eng.regionS (Eng.still [fun u_ => u_ = .agg #[.int .i64 a0, .int .u64 a1], fun u_ => u_ = .agg #[.int .i64 a0, .int .u64 a1], fun u_ => u_ = .bool true, fun u_ => u_ = .bool true, fun u_ => u_ = .int .i64 (0 : Int), fun u_ => u_ = .bool true, fun u_ => u_ = .bool true, fun u_ => u_ = .bool true, fun u_ => u_ = .string (⟨(Lpr.printB l0 l1 b0 b1).toArray⟩ : ByteArray), fun u_ => u_ = .bool q59, fun u_ => u_ = .bool q59, fun u_ => u_ = bif (q59 == false) then (.string (⟨(Lpr.printB l0 l1 b0 b1).toArray⟩ : ByteArray)) else undef, fun u_ => u_ = bif (q59 == false) then (.string (⟨(Lpr.printB l0 l1 a0 a1).toArray⟩ : ByteArray)) else undef, fun u_ => u_ = bif (q59 == false) then (.bool q63) else undef, fun u_ => u_ = bif (q59 == false) then (.agg #[.int .i64 a0, .int .u64 a1]) else undef, fun u_ => u_ = bif (q59 == false) then (.agg #[.int .i64 b0, .int .u64 b1]) else undef, fun u_ => u_ = bif (q59 == false) then (.bool q66) else undef, fun u_ => u_ = bif (q59 == false) then (.bool q67) else undef, fun u_ => u_ = .bool q68, fun u_ => u_ = .bool q69, fun u_ => u_ = .bool q69]) (fun i => ([.plain, .plain, .plain, .plain, .plain, .plain, .plain, .plain, .plain, .plain, .plain, .plain, .plain, .plain, .plain, .plain, .plain, .plain, .plain, .plain, .plain] : List Eng.Kind).getD i .plain) 21 0 70 s17 rfl (by kernel_rfl) (Eng.still_stable _) (Or.inr (Eng.still_any _)) ?_ ?_
      · refine Eng.Steps.cons (fun _ => ?_) (Eng.Steps.cons (fun _ => ?_) (Eng.Steps.cons (fun _ => ?_) (Eng.Steps.cons (fun _ => ?_) (Eng.Steps.cons (fun _ => ?_) (Eng.Steps.cons (fun _ => ?_) (Eng.Steps.cons (fun _ => ?_) (Eng.Steps.cons (fun _ => ?_) (Eng.Steps.cons (fun _ => ?_) (Eng.Steps.cons (fun _ => ?_) (Eng.Steps.cons (fun _ => ?_) (Eng.Steps.cons (fun _ => ?_) (Eng.Steps.cons (fun _ => ?_) (Eng.Steps.cons (fun _ => ?_) (Eng.Steps.cons (fun _ => ?_) (Eng.Steps.cons (fun _ => ?_) (Eng.Steps.cons (fun _ => ?_) (Eng.Steps.cons (fun _ => ?_) (Eng.Steps.cons (fun _ => ?_) (Eng.Steps.cons (fun _ => ?_) (Eng.Steps.cons (fun _ => ?_) (Eng.Steps.nil)))))))))))))))))))))
        · refine Eng.plain rfl rfl fun a w' H => ?_
          have kb := (H.below.block _ lg12_17_17).trans kg12_17_17
          have z0 : w'.cell? ⟨g12_17, 0, none⟩ = some (.int .i64 a0) := (Eng.cells kb 0).trans rfl
          have z1 : w'.cell? ⟨g12_17, 1, none⟩ = some (.int .u64 a1) := (Eng.cells kb 1).trans rfl
          refine Eng.val (w1 := w') (v := .agg #[.int .i64 a0, .int .u64 a1]) ?_ (Below.refl _ _) rfl
          have e0 : a.eval (.tmp 12) = .pointer (some ⟨g12_17, 0, none⟩) := ((H.kept 12 (by kernel_rfl)).trans h12_17)
          simp only [execOp, resolve, List.map_toArray, List.map_cons, List.map_nil, e0]
          go_simp
          all_goals first | rfl | (simp; done) | (rw [Bool.eq_iff_iff]; simp; done) | omega | (split <;> first | (simp_all; done) | (split <;> simp_all; done)) | skip
        · refine Eng.plain rfl rfl fun a w' H => ?_
          have kb := (H.below.block _ lg8_11_17).trans kg8_11_17
          have z0 : w'.cell? ⟨g8_11, 0, none⟩ = some (.int .i64 a0) := (Eng.cells kb 0).trans rfl
          have z1 : w'.cell? ⟨g8_11, 1, none⟩ = some (.int .u64 a1) := (Eng.cells kb 1).trans rfl
          refine Eng.val (w1 := w') (v := .agg #[.int .i64 a0, .int .u64 a1]) ?_ (Below.refl _ _) rfl
          have e0 : a.eval (.tmp 8) = .pointer (some ⟨g8_11, 0, none⟩) := ((H.kept 8 (by kernel_rfl)).trans h8_17)
          simp only [execOp, resolve, List.map_toArray, List.map_cons, List.map_nil, e0]
          go_simp
          all_goals first | rfl | (simp; done) | (rw [Bool.eq_iff_iff]; simp; done) | omega | (split <;> first | (simp_all; done) | (split <;> simp_all; done)) | skip
        · refine Eng.plain rfl rfl fun a w' H => ?_
          refine Eng.val (w1 := w') (v := .bool (a0 == a0 && (a1 == a1))) ?_ (Below.refl _ _) (by show _ = Value.bool true; rw [show (a0 == a0 && (a1 == a1)) = true from by simp])
          have e0 : a.eval (.tmp 50) = .agg #[.int .i64 a0, .int .u64 a1] := (H.dep 0 50 (by kernel_rfl) rfl)
          have e1 : a.eval (.tmp 51) = .agg #[.int .i64 a0, .int .u64 a1] := (H.dep 1 51 (by kernel_rfl) rfl)
          simp only [execOp, resolve, List.map_toArray, List.map_cons, List.map_nil, e0, e1]
          go_simp
          all_goals first | rfl | (simp; done) | (rw [Bool.eq_iff_iff]; simp; done) | omega | (split <;> first | (simp_all; done) | (split <;> simp_all; done)) | skip
        · refine Eng.plain rfl rfl fun a w' H => ?_
          exact Eng.val (w1 := w') (v := .bool true) (Eng.run_move rfl (H.dep 2 52 (by kernel_rfl) rfl)) (Below.refl _ _) rfl
        · refine Eng.guardedT (j := 3) (d := 53) rfl rfl (by kernel_rfl) rfl (fun v w h => h) fun a w' H => ?_
          exact Eng.val (w1 := w') (v := .int .i64 (0 : Int)) (Eng.run_move rfl ((H.kept 13 (by kernel_rfl)).trans h13_17)) (Below.refl _ _) rfl
        · refine Eng.guardedT (j := 3) (d := 53) rfl rfl (by kernel_rfl) rfl (fun v w h => h) fun a w' H => ?_
          refine Eng.val (w1 := w') (v := .bool ((0 : Int) == 0)) ?_ (Below.refl _ _) (by show _ = Value.bool true; rw [show ((0 : Int) == 0) = true from rfl])
          have e0 : a.eval (.tmp 54) = .int .i64 (0 : Int) := (H.dep 4 54 (by kernel_rfl) rfl)
          have e1 : a.eval (.const (.int .i64 0)) = .int .i64 0 := (rfl : a.eval (.const (.int .i64 0)) = .int .i64 0)
          simp only [execOp, resolve, List.map_toArray, List.map_cons, List.map_nil, e0, e1]
          go_simp
          all_goals first | rfl | (simp; done) | (rw [Bool.eq_iff_iff]; simp; done) | omega | (split <;> first | (simp_all; done) | (split <;> simp_all; done)) | skip
        · refine Eng.plain rfl rfl fun a w' H => ?_
          exact Eng.val (w1 := w') (v := .bool (true && true)) (Eng.run_and rfl rfl (G := true) (H.dep 3 53 (by kernel_rfl) rfl) (fun hb => (H.dep 5 55 (by kernel_rfl) rfl))) (Below.refl _ _) rfl
        · refine Eng.plain rfl rfl fun a w' H => ?_
          exact Eng.val (w1 := w') (v := .bool true) (Eng.run_move rfl (H.dep 6 56 (by kernel_rfl) rfl)) (Below.refl _ _) rfl
        · refine Eng.guardedT (j := 7) (d := 57) rfl rfl (by kernel_rfl) rfl (fun v w h => h) fun a w' H => ?_
          exact Eng.val (w1 := w') (v := .string (⟨(Lpr.printB l0 l1 b0 b1).toArray⟩ : ByteArray)) (Eng.run_move rfl ((H.kept 11 (by kernel_rfl)).trans h11_17)) (Below.refl _ _) rfl
        · refine Eng.guardedT (j := 7) (d := 57) rfl rfl (by kernel_rfl) rfl (fun v w h => h) fun a w' H => ?_
          refine Eng.val (w1 := w') (v := .bool ((⟨(Lpr.printB l0 l1 b0 b1).toArray⟩ : ByteArray).toList.isEmpty)) ?_ (Below.refl _ _) (by show _ = Value.bool q59; rw [Bq59])
          have e0 : a.eval (.tmp 58) = .string (⟨(Lpr.printB l0 l1 b0 b1).toArray⟩ : ByteArray) := (H.dep 8 58 (by kernel_rfl) rfl)
          have e1 : a.eval (.const (.string ⟨#[]⟩)) = .string ⟨#[]⟩ := (rfl : a.eval (.const (.string ⟨#[]⟩)) = .string ⟨#[]⟩)
          simp only [execOp, resolve, List.map_toArray, List.map_cons, List.map_nil, e0, e1]
          go_simp
          all_goals first | rfl | (simp; done) | (rw [Bool.eq_iff_iff]; simp; done) | omega | (split <;> first | (simp_all; done) | (split <;> simp_all; done)) | skip
        · refine Eng.guardedT (j := 7) (d := 57) rfl rfl (by kernel_rfl) rfl (fun v w h => h) fun a w' H => ?_
          exact Eng.val (w1 := w') (v := .bool q59) (Eng.run_move rfl (H.dep 9 59 (by kernel_rfl) rfl)) (Below.refl _ _) rfl
        · refine Eng.guarded1 (j := 10) (d := 60) (b := q59) rfl rfl (by kernel_rfl) rfl (fun v w h => h) (fun hG w => Eng.off hG) fun hG a w' H => ?_
          exact Eng.val (w1 := w') (v := .string (⟨(Lpr.printB l0 l1 b0 b1).toArray⟩ : ByteArray)) (Eng.run_move rfl ((H.kept 11 (by kernel_rfl)).trans h11_17)) (Below.refl _ _) (Eng.off' hG rfl)
        · refine Eng.guarded1 (j := 10) (d := 60) (b := q59) rfl rfl (by kernel_rfl) rfl (fun v w h => h) (fun hG w => Eng.off hG) fun hG a w' H => ?_
          exact Eng.val (w1 := w') (v := .string (⟨(Lpr.printB l0 l1 a0 a1).toArray⟩ : ByteArray)) (Eng.run_move rfl ((H.kept 10 (by kernel_rfl)).trans h10_17)) (Below.refl _ _) (Eng.off' hG rfl)
        · refine Eng.guarded1 (j := 10) (d := 60) (b := q59) rfl rfl (by kernel_rfl) rfl (fun v w h => h) (fun hG w => Eng.off hG) fun hG a w' H => ?_
          refine Eng.val (w1 := w') (v := .bool ((⟨(Lpr.printB l0 l1 b0 b1).toArray⟩ : ByteArray).toList == (⟨(Lpr.printB l0 l1 a0 a1).toArray⟩ : ByteArray).toList)) ?_ (Below.refl _ _) (Eng.off' hG (by rw [Bq63]))
          have e0 : a.eval (.tmp 61) = .string (⟨(Lpr.printB l0 l1 b0 b1).toArray⟩ : ByteArray) := (Eng.on (H.dep 11 61 (by kernel_rfl) rfl) hG)
          have e1 : a.eval (.tmp 62) = .string (⟨(Lpr.printB l0 l1 a0 a1).toArray⟩ : ByteArray) := (Eng.on (H.dep 12 62 (by kernel_rfl) rfl) hG)
          simp only [execOp, resolve, List.map_toArray, List.map_cons, List.map_nil, e0, e1]
          go_simp
          all_goals first | rfl | (simp; done) | (rw [Bool.eq_iff_iff]; simp; done) | omega | (split <;> first | (simp_all; done) | (split <;> simp_all; done)) | skip
        · refine Eng.guarded1 (j := 10) (d := 60) (b := q59) rfl rfl (by kernel_rfl) rfl (fun v w h => h) (fun hG w => Eng.off hG) fun hG a w' H => ?_
          have kb := (H.below.block _ lg8_11_17).trans kg8_11_17
          have z0 : w'.cell? ⟨g8_11, 0, none⟩ = some (.int .i64 a0) := (Eng.cells kb 0).trans rfl
          have z1 : w'.cell? ⟨g8_11, 1, none⟩ = some (.int .u64 a1) := (Eng.cells kb 1).trans rfl
          refine Eng.val (w1 := w') (v := .agg #[.int .i64 a0, .int .u64 a1]) ?_ (Below.refl _ _) (Eng.off' hG rfl)
          have e0 : a.eval (.tmp 8) = .pointer (some ⟨g8_11, 0, none⟩) := ((H.kept 8 (by kernel_rfl)).trans h8_17)
          simp only [execOp, resolve, List.map_toArray, List.map_cons, List.map_nil, e0]
          go_simp
          all_goals first | rfl | (simp; done) | (rw [Bool.eq_iff_iff]; simp; done) | omega | (split <;> first | (simp_all; done) | (split <;> simp_all; done)) | skip
        · refine Eng.guarded1 (j := 10) (d := 60) (b := q59) rfl rfl (by kernel_rfl) rfl (fun v w h => h) (fun hG w => Eng.off hG) fun hG a w' H => ?_
          have kb := (H.below.block _ lg9_11_17).trans kg9_11_17
          have z0 : w'.cell? ⟨g9_11, 0, none⟩ = some (.int .i64 b0) := (Eng.cells kb 0).trans rfl
          have z1 : w'.cell? ⟨g9_11, 1, none⟩ = some (.int .u64 b1) := (Eng.cells kb 1).trans rfl
          refine Eng.val (w1 := w') (v := .agg #[.int .i64 b0, .int .u64 b1]) ?_ (Below.refl _ _) (Eng.off' hG rfl)
          have e0 : a.eval (.tmp 9) = .pointer (some ⟨g9_11, 0, none⟩) := ((H.kept 9 (by kernel_rfl)).trans h9_17)
          simp only [execOp, resolve, List.map_toArray, List.map_cons, List.map_nil, e0]
          go_simp
          all_goals first | rfl | (simp; done) | (rw [Bool.eq_iff_iff]; simp; done) | omega | (split <;> first | (simp_all; done) | (split <;> simp_all; done)) | skip
        · refine Eng.guarded1 (j := 10) (d := 60) (b := q59) rfl rfl (by kernel_rfl) rfl (fun v w h => h) (fun hG w => Eng.off hG) fun hG a w' H => ?_
          refine Eng.val (w1 := w') (v := .bool (a0 == b0 && (a1 == b1))) ?_ (Below.refl _ _) (Eng.off' hG (by rw [Bq66]))
          have e0 : a.eval (.tmp 64) = .agg #[.int .i64 a0, .int .u64 a1] := (Eng.on (H.dep 14 64 (by kernel_rfl) rfl) hG)
          have e1 : a.eval (.tmp 65) = .agg #[.int .i64 b0, .int .u64 b1] := (Eng.on (H.dep 15 65 (by kernel_rfl) rfl) hG)
          simp only [execOp, resolve, List.map_toArray, List.map_cons, List.map_nil, e0, e1]
          go_simp
          all_goals first | rfl | (simp; done) | (rw [Bool.eq_iff_iff]; simp; done) | omega | (split <;> first | (simp_all; done) | (split <;> simp_all; done)) | skip
        · refine Eng.guarded1 (j := 10) (d := 60) (b := q59) rfl rfl (by kernel_rfl) rfl (fun v w h => h) (fun hG w => Eng.off hG) fun hG a w' H => ?_
          refine Eng.val (w1 := w') (v := .bool (q63 == q66)) ?_ (Below.refl _ _) (Eng.off' hG (by rw [Bq67]))
          have e0 : a.eval (.tmp 63) = .bool q63 := (Eng.on (H.dep 13 63 (by kernel_rfl) rfl) hG)
          have e1 : a.eval (.tmp 66) = .bool q66 := (Eng.on (H.dep 16 66 (by kernel_rfl) rfl) hG)
          simp only [execOp, resolve, List.map_toArray, List.map_cons, List.map_nil, e0, e1]
          go_simp
          all_goals first | rfl | (simp; done) | (rw [Bool.eq_iff_iff]; simp; done) | omega | (split <;> first | (simp_all; done) | (split <;> simp_all; done)) | skip
        · refine Eng.guardedT (j := 7) (d := 57) rfl rfl (by kernel_rfl) rfl (fun v w h => h) fun a w' H => ?_
          exact Eng.val (w1 := w') (v := .bool (q59 || q67)) (Eng.run_or rfl rfl (G := true) (H.dep 10 60 (by kernel_rfl) rfl) (fun hb => (Eng.on (H.dep 17 67 (by kernel_rfl) rfl) (Eng.mk1 hb)))) (Below.refl _ _) (by show _ = Value.bool q68; rw [Bq68])
        · refine Eng.plain rfl rfl fun a w' H => ?_
          exact Eng.val (w1 := w') (v := .bool (true && q68)) (Eng.run_and rfl rfl (G := true) (H.dep 7 57 (by kernel_rfl) rfl) (fun hb => (H.dep 18 68 (by kernel_rfl) rfl))) (Below.refl _ _) (by show _ = Value.bool q69; rw [Bq69])
        · refine Eng.plain rfl rfl fun a w' H => ?_
          exact Eng.val (w1 := w') (v := .bool q69) (Eng.run_assign rfl (H.dep 19 69 (by kernel_rfl) rfl)) (Below.refl _ _) rfl
      intro act18 w18 T
      have h0_18 : act18.eval (.tmp 0) = .agg #[na, nb] := (T.rest 0 (by kernel_rfl)).trans h0_17
      have h1_18 : act18.eval (.tmp 1) = .agg #[.int .i64 a0, .int .u64 a1] := (T.rest 1 (by kernel_rfl)).trans h1_17
      have h2_18 : act18.eval (.tmp 2) = .agg #[.int .i64 b0, .int .u64 b1] := (T.rest 2 (by kernel_rfl)).trans h2_17
      have h3_18 : act18.eval (.tmp 3) = .pointer (some ⟨g3_1, 0, none⟩) := (T.rest 3 (by kernel_rfl)).trans h3_17
      have h4_18 : act18.eval (.tmp 4) = .pointer (some ⟨g4_1, 0, none⟩) := (T.rest 4 (by kernel_rfl)).trans h4_17
      have h5_18 : act18.eval (.tmp 5) = .pointer (some ⟨g5_1, 0, none⟩) := (T.rest 5 (by kernel_rfl)).trans h5_17
      have h7_18 : act18.eval (.tmp 7) = .pointer (some ⟨g7_9, 0, none⟩) := (T.rest 7 (by kernel_rfl)).trans h7_17
      have h8_18 : act18.eval (.tmp 8) = .pointer (some ⟨g8_11, 0, none⟩) := (T.rest 8 (by kernel_rfl)).trans h8_17
      have h9_18 : act18.eval (.tmp 9) = .pointer (some ⟨g9_11, 0, none⟩) := (T.rest 9 (by kernel_rfl)).trans h9_17
      have h10_18 : act18.eval (.tmp 10) = .string (⟨(Lpr.printB l0 l1 a0 a1).toArray⟩ : ByteArray) := (T.rest 10 (by kernel_rfl)).trans h10_17
      have h11_18 : act18.eval (.tmp 11) = .string (⟨(Lpr.printB l0 l1 b0 b1).toArray⟩ : ByteArray) := (T.rest 11 (by kernel_rfl)).trans h11_17
      have h12_18 : act18.eval (.tmp 12) = .pointer (some ⟨g12_17, 0, none⟩) := (T.rest 12 (by kernel_rfl)).trans h12_17
      have h13_18 : act18.eval (.tmp 13) = .int .i64 (0 : Int) := (T.rest 13 (by kernel_rfl)).trans h13_17
      have h15_18 : act18.eval (.tmp 15) = .bool q15 := (T.rest 15 (by kernel_rfl)).trans h15_17
      have h17_18 : act18.eval (.tmp 17) = .bool q17 := (T.rest 17 (by kernel_rfl)).trans h17_17
      have h41_18 : act18.eval (.tmp 41) = .bool q41 := (T.rest 41 (by kernel_rfl)).trans h41_17
      have kg3_1_18 := (T.below.block _ lg3_1_17).trans kg3_1_17
      have lg3_1_18 := Nat.lt_of_lt_of_le lg3_1_17 T.below.size
      have kg4_1_18 := (T.below.block _ lg4_1_17).trans kg4_1_17
      have lg4_1_18 := Nat.lt_of_lt_of_le lg4_1_17 T.below.size
      have kg5_1_18 := (T.below.block _ lg5_1_17).trans kg5_1_17
      have lg5_1_18 := Nat.lt_of_lt_of_le lg5_1_17 T.below.size
      have kg7_9_18 := (T.below.block _ lg7_9_17).trans kg7_9_17
      have lg7_9_18 := Nat.lt_of_lt_of_le lg7_9_17 T.below.size
      have kg8_11_18 := (T.below.block _ lg8_11_17).trans kg8_11_17
      have lg8_11_18 := Nat.lt_of_lt_of_le lg8_11_17 T.below.size
      have kg9_11_18 := (T.below.block _ lg9_11_17).trans kg9_11_17
      have lg9_11_18 := Nat.lt_of_lt_of_le lg9_11_17 T.below.size
      have kg12_17_18 := (T.below.block _ lg12_17_17).trans kg12_17_17
      have lg12_17_18 := Nat.lt_of_lt_of_le lg12_17_17 T.below.size
      have Fn0_18 := Eng.Reads.below Fn0_17 T.below
      have Fn1_18 := Eng.Reads.below Fn1_17 T.below
      have Fm0_18 := Eng.Reads.below Fm0_17 T.below
      have Om0_18 := Eng.own_below Om0_17 T.below
      have Fm1_18 := Eng.Reads.below Fm1_17 T.below
      have Om1_18 := Eng.own_below Om1_17 T.below
      have h6_18 : act18.eval (.tmp 6) = .bool q69 := T.done 20 6 rfl rfl
      have d18 := T.defers.trans d17
      have s18 := T.size.trans s17
      have bl18 := bl17.trans (T.below.mono bl17.size)
      clear T
      refine Eng.tail_nil ?_
      first | show Code.wp Tryd.prog _ _ _ _ | skip
      refine wp_ret ?_
      repeat (first | refine Eng.in_ret ?_ | refine Eng.then_ret ?_)
      have hz : q69 = true := by rw [Bq69, Bq68, Bq67, Bq66, Bq63, Bq59]; exact Lpr.unlike hm hr ha0 ha1 hb0 hb1
      exact Eng.ret1 rfl d18 (h6_18.trans (by rw [hz])) ⟨rfl, bl18⟩
end Go.Proofs.YthgafcaoibfchaaDoor.X
