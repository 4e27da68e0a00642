/- Words and walks that the row of LatticeNamesUpto needs: printed by programs, and plain laws. -/
import Derived.Test.YthgafcaoibfchaaDoorM6
import Derived.Test.YthgafcaoibfchaaDoorM2
section
namespace Go.Proofs.YthgafcaoibfchaaDoor.X
open Go.RowKit Go.Shelf Go.Proofs Go.Proofs.YthgafcaoibfchaaDoorW.PrintWords Go.Proofs.YthgafcaoibfchaaDoorW.PrintLast Go.Proofs.YthgafcaoibfchaaDoorW.PrintMore Go.Proofs.YthgafcaoibfchaaDoor.Spl
set_option linter.unusedVariables false
set_option linter.unusedSimpArgs false
attribute [local go_sem] max2_int min2_int max_two min_two
set_option maxHeartbeats 4000000 in
set_option maxRecDepth 100000 in
theorem Lpr.parse_not (na nb : Value) (l0 l1 : List ByteArray) (s : ByteArray) (w : World) (F0 : Eng.Reads w na l0.length 1 (Nfa.strs l0)) (F1 : Eng.Reads w nb l1.length 1 (Nfa.strs l1)) (S0 : Lpr.Small l0) (S1 : Lpr.Small l1) (hm : Lpr.mayB l0 l1 = false) : Calls Tryd.prog 29 #[.agg #[na, nb], .string s] w fun e w' => e = .returned (.tuple #[.agg #[.int .i64 (Lpr.parseB l0 l1 (Lpr.bl s)).1, .int .u64 (Lpr.parseB l0 l1 (Lpr.bl s)).2.1], .int .i64 (Lpr.parseB l0 l1 (Lpr.bl s)).2.2]) ∧ Below w.heap.size w w' := by
  have hres : Lpr.parseB l0 l1 (Lpr.bl s) = (0, 0, 2) := by unfold Lpr.parseB; rw [if_pos hm]
  refine Eng.enter Tryd.func29 rfl fun act0 d0 s0 v0 => ?_
  have s0 : act0.tmps.size = 53 := s0
  have h0_0 : act0.eval (.tmp 0) = .agg #[na, nb] := v0 0 (by simp)
  have h1_0 : act0.eval (.tmp 1) = .string s := v0 1 (by simp)
  clear v0
  have bl0 : Below w.heap.size w w := Below.refl _ _
  refine wp_seq ?_
  refine Eng.regionS (Eng.still [fun u_ => True, fun u_ => True, fun u_ => u_ = .int .i64 0]) (fun i => ([.alloc 47 #[na, nb], .alloc 30 #[.int .i64 0, .int .u64 0], .plain] : List Eng.Kind).getD i .plain) 3 0 53 s0 rfl (by kernel_rfl) (Eng.still_stable _) (Or.inr (Eng.still_any _)) ?_ ?_
  · refine Eng.Steps.cons (fun _ => ?_) (Eng.Steps.cons (fun _ => ?_) (Eng.Steps.cons (fun _ => ?_) (Eng.Steps.nil)))
    · refine Eng.made rfl (by simp) rfl (fun a w' hd ho => ?_) (fun _ _ => trivial)
      exact Eng.run_box rfl ((ho 0 (by kernel_rfl)).trans h0_0)
    · refine Eng.made rfl (by simp) rfl (fun a w' hd ho => ?_) (fun _ _ => trivial)
      simp only [execOp]
      go_simp
    · refine Eng.plain rfl rfl fun a w' H => ?_
      exact Eng.val (w1 := w') (v := .int .i64 0) (Eng.run_assign rfl (rfl : a.eval (.const (.int .i64 0)) = .int .i64 0)) (Below.refl _ _) rfl
  intro act1 w1 T
  have h0_1 : act1.eval (.tmp 0) = .agg #[na, nb] := (T.rest 0 (by kernel_rfl)).trans h0_0
  have h1_1 : act1.eval (.tmp 1) = .string s := (T.rest 1 (by kernel_rfl)).trans h1_0
  have Fn0_1 := Eng.Reads.below F0 T.below
  have Fn1_1 := Eng.Reads.below F1 T.below
  obtain ⟨g2_1, h2_1, rg2_1, lg2_1_1, kg2_1_1⟩ := T.al 0 2 _ _ rfl rfl rfl (by kernel_rfl)
  have og2_1 : w.heap.size ≤ g2_1 := Nat.le_trans bl0.size rg2_1
  obtain ⟨g4_1, h4_1, rg4_1, lg4_1_1, kg4_1_1⟩ := T.al 1 4 _ _ rfl rfl rfl (by kernel_rfl)
  have og4_1 : w.heap.size ≤ g4_1 := Nat.le_trans bl0.size rg4_1
  have ne_g4_1_g2_1 : g2_1 ≠ g4_1 := T.ne 0 1 2 4 rfl rfl rfl rfl rfl rfl h2_1 h4_1 rfl
  have h5_1 : act1.eval (.tmp 5) = .int .i64 0 := T.done 2 5 rfl rfl
  have d1 := T.defers.trans d0
  have s1 := T.size.trans s0
  have bl1 := bl0.trans (T.below.mono bl0.size)
  clear T
  refine Eng.tail_nil ?_
  first | show Code.wp Tryd.prog _ _ _ _ | skip
  refine wp_seq ?_
  refine wp_seq ?_
  obtain ⟨q12, Bq12⟩ : ∃ b : Bool, b = (Lpr.mayB l0 l1) := ⟨_, rfl⟩
  obtain ⟨q13, Bq13⟩ : ∃ b : Bool, b = (!q12) := ⟨_, rfl⟩
  refine Eng.regionS (Eng.still [fun u_ => u_ = .agg #[na, nb], fun u_ => u_ = .bool q12, fun u_ => u_ = .bool q13]) (fun i => ([.plain, .plain, .plain] : List Eng.Kind).getD i .plain) 3 0 53 s1 rfl (by kernel_rfl) (Eng.still_stable _) (Or.inr (Eng.still_any _)) ?_ ?_
  · refine Eng.Steps.cons (fun _ => ?_) (Eng.Steps.cons (fun _ => ?_) (Eng.Steps.cons (fun _ => ?_) (Eng.Steps.nil)))
    · refine Eng.plain rfl rfl fun a w' H => ?_
      have kb := (H.below.block _ lg2_1_1).trans kg2_1_1
      have z0 : w'.cell? ⟨g2_1, 0, none⟩ = some (na) := (Eng.cells kb 0).trans rfl
      have z1 : w'.cell? ⟨g2_1, 1, none⟩ = some (nb) := (Eng.cells kb 1).trans rfl
      refine Eng.val (w1 := w') (v := .agg #[na, nb]) ?_ (Below.refl _ _) rfl
      have e0 : a.eval (.tmp 2) = .pointer (some ⟨g2_1, 0, none⟩) := ((H.kept 2 (by kernel_rfl)).trans h2_1)
      simp only [execOp, resolve, List.map_toArray, List.map_cons, List.map_nil, e0]
      go_simp
      all_goals first | rfl | (simp; done) | (rw [Bool.eq_iff_iff]; simp; done) | omega | skip
    · refine Eng.plain rfl rfl fun a w' H => ?_
      refine Eng.call Tryd.func31 (by kernel_rfl) (by kernel_rfl) rfl #[.agg #[na, nb]] ?_ ?_
      · have e0 : a.eval (.tmp 11) = .agg #[na, nb] := (H.dep 0 11 (by kernel_rfl) rfl); simp only [List.map_toArray, List.map_cons, List.map_nil, e0]
      refine (Lpr.may_calls (Eng.Reads.below Fn0_1 H.below) (Eng.Reads.below Fn1_1 H.below) S0 S1).mono ?_
      rintro e w'' ⟨rfl, hb⟩
      exact ⟨_, rfl, (by show _ = Value.bool q12; rw [Bq12]), hb⟩
    · refine Eng.plain rfl rfl fun a w' H => ?_
      exact Eng.val (w1 := w') (v := .bool (!q12)) (Eng.run_not rfl (H.dep 1 12 (by kernel_rfl) rfl)) (Below.refl _ _) (by show _ = Value.bool q13; rw [Bq13])
  intro act2 w2 T
  have h0_2 : act2.eval (.tmp 0) = .agg #[na, nb] := (T.rest 0 (by kernel_rfl)).trans h0_1
  have h1_2 : act2.eval (.tmp 1) = .string s := (T.rest 1 (by kernel_rfl)).trans h1_1
  have h2_2 : act2.eval (.tmp 2) = .pointer (some ⟨g2_1, 0, none⟩) := (T.rest 2 (by kernel_rfl)).trans h2_1
  have h4_2 : act2.eval (.tmp 4) = .pointer (some ⟨g4_1, 0, none⟩) := (T.rest 4 (by kernel_rfl)).trans h4_1
  have h5_2 : act2.eval (.tmp 5) = .int .i64 0 := (T.rest 5 (by kernel_rfl)).trans h5_1
  have kg2_1_2 := (T.below.block _ lg2_1_1).trans kg2_1_1
  have lg2_1_2 := Nat.lt_of_lt_of_le lg2_1_1 T.below.size
  have kg4_1_2 := (T.below.block _ lg4_1_1).trans kg4_1_1
  have lg4_1_2 := Nat.lt_of_lt_of_le lg4_1_1 T.below.size
  have Fn0_2 := Eng.Reads.below Fn0_1 T.below
  have Fn1_2 := Eng.Reads.below Fn1_1 T.below
  have h13_2 : act2.eval (.tmp 13) = .bool q13 := T.done 2 13 rfl rfl
  have d2 := T.defers.trans d1
  have s2 := T.size.trans s1
  have bl2 := bl1.trans (T.below.mono bl1.size)
  clear T
  refine Eng.tail_nil ?_
  first | show Code.wp Tryd.prog _ _ _ _ | skip
  have n13 : q13 = true := by
    try simp only [Bq13, Bq12]
    rw [hm]
    rfl
  refine wp_cond_true (h13_2.trans (by rw [n13])) ?_
  refine wp_seq ?_
  refine Eng.regionS (Eng.still [fun u_ => u_ = .agg #[.int .i64 0, .int .u64 0]]) (fun i => ([.plain] : List Eng.Kind).getD i .plain) 1 2 53 s2 rfl (by kernel_rfl) (Eng.still_stable _) (Or.inr (Eng.still_any _)) ?_ ?_
  · refine Eng.Steps.cons (fun _ => ?_) (Eng.Steps.cons (fun hlt => ?_) (Eng.Steps.cons (fun hlt => ?_) (Eng.Steps.nil)))
    · refine Eng.plain rfl rfl fun a w' H => ?_
      refine Eng.val (w1 := w') (v := .agg #[.int .i64 0, .int .u64 0]) ?_ (Below.refl _ _) rfl
      simp only [execOp, resolve, List.map_toArray, List.map_cons, List.map_nil]
      go_simp
      all_goals first | rfl | (simp; done) | (rw [Bool.eq_iff_iff]; simp; done) | omega | skip
    · exact absurd hlt (by decide)
    · exact absurd hlt (by decide)
  intro act3 w3 T
  have h0_3 : act3.eval (.tmp 0) = .agg #[na, nb] := (T.rest 0 (by kernel_rfl)).trans h0_2
  have h1_3 : act3.eval (.tmp 1) = .string s := (T.rest 1 (by kernel_rfl)).trans h1_2
  have h2_3 : act3.eval (.tmp 2) = .pointer (some ⟨g2_1, 0, none⟩) := (T.rest 2 (by kernel_rfl)).trans h2_2
  have h4_3 : act3.eval (.tmp 4) = .pointer (some ⟨g4_1, 0, none⟩) := (T.rest 4 (by kernel_rfl)).trans h4_2
  have h5_3 : act3.eval (.tmp 5) = .int .i64 0 := (T.rest 5 (by kernel_rfl)).trans h5_2
  have h13_3 : act3.eval (.tmp 13) = .bool q13 := (T.rest 13 (by kernel_rfl)).trans h13_2
  have kg2_1_3 := (T.below.block _ lg2_1_2).trans kg2_1_2
  have lg2_1_3 := Nat.lt_of_lt_of_le lg2_1_2 T.below.size
  have kg4_1_3 := (T.below.block _ lg4_1_2).trans kg4_1_2
  have lg4_1_3 := Nat.lt_of_lt_of_le lg4_1_2 T.below.size
  have Fn0_3 := Eng.Reads.below Fn0_2 T.below
  have Fn1_3 := Eng.Reads.below Fn1_2 T.below
  have h14_3 : act3.eval (.tmp 14) = .agg #[.int .i64 0, .int .u64 0] := T.done 0 14 rfl rfl
  have d3 := T.defers.trans d2
  have s3 := T.size.trans s2
  have bl3 := bl2.trans (T.below.mono bl2.size)
  clear T
  refine Eng.tail_put [.int .i64 0, .int .u64 0] (n := 0) (new := #[.int .i64 0, .int .u64 0]) rfl rfl rfl kg4_1_3 rfl ?_ fun w4 S => ?_
  · have e0 : act3.eval (.tmp 4) = .pointer (some ⟨g4_1, 0, none⟩) := h4_3
    have e1 : act3.eval (.tmp 14) = .agg #[.int .i64 0, .int .u64 0] := h14_3
    have z0 := (Eng.cells kg4_1_3 (0)).trans (rfl)
    have f0 := Eng.unfrozen kg4_1_3 (0)
    have z1 := (Eng.cells kg4_1_3 (1)).trans (rfl)
    have f1 := Eng.unfrozen kg4_1_3 (1)
    simp only [execOp]
    rw [e0, e1]
    go_simp
    try rfl
  have kg2_1_4 := (S.far _ ne_g4_1_g2_1).trans kg2_1_3
  have lg2_1_4 := Nat.lt_of_lt_of_eq lg2_1_3 S.size.symm
  have kg4_1_4 := S.new
  have lg4_1_4 := Nat.lt_of_lt_of_eq lg4_1_3 S.size.symm
  have bl4 := S.below bl3 og4_1
  have Fn0_4 := Eng.Reads.below F0 bl4
  have Fn1_4 := Eng.Reads.below F1 bl4
  clear S
  refine Eng.tail_val rfl rfl rfl (Eng.run_assign rfl (rfl : act3.eval (.const (.int .i64 2)) = .int .i64 2)) s3 rfl fun act5 d5 s5 hv hr => ?_
  have h0_5 : act5.eval (.tmp 0) = .agg #[na, nb] := (hr 0 rfl).trans h0_3
  have h1_5 : act5.eval (.tmp 1) = .string s := (hr 1 rfl).trans h1_3
  have h2_5 : act5.eval (.tmp 2) = .pointer (some ⟨g2_1, 0, none⟩) := (hr 2 rfl).trans h2_3
  have h4_5 : act5.eval (.tmp 4) = .pointer (some ⟨g4_1, 0, none⟩) := (hr 4 rfl).trans h4_3
  have h13_5 : act5.eval (.tmp 13) = .bool q13 := (hr 13 rfl).trans h13_3
  have h14_5 : act5.eval (.tmp 14) = .agg #[.int .i64 0, .int .u64 0] := (hr 14 rfl).trans h14_3
  have h5_5 : act5.eval (.tmp 5) = .int .i64 2 := hv
  have d5 := d5.trans d3
  clear hv hr
  refine Eng.tail_nil ?_
  first | show Code.wp Tryd.prog _ _ _ _ | skip
  refine wp_ret ?_
  repeat (first | refine Eng.in_ret ?_ | refine Eng.then_ret ?_)
  exact Eng.retct rfl d5 h4_5 kg4_1_4 Tryd.underlying30 rfl (by kernel_rfl) h5_5 ⟨by rw [hres], bl4⟩
set_option maxHeartbeats 4000000 in
set_option maxRecDepth 100000 in
theorem Lpr.parse_plain (na nb : Value) (l0 l1 : List ByteArray) (s : ByteArray) (w : World) (F0 : Eng.Reads w na l0.length 1 (Nfa.strs l0)) (F1 : Eng.Reads w nb l1.length 1 (Nfa.strs l1)) (S0 : Lpr.Small l0) (S1 : Lpr.Small l1) (hm : Lpr.mayB l0 l1 = true) (hs : s.size ≤ 1000000) (hc : cutL (Lpr.bl s) = (Lpr.bl s, [], false)) : Calls Tryd.prog 29 #[.agg #[na, nb], .string s] w fun e w' => e = .returned (.tuple #[.agg #[.int .i64 (Lpr.parseB l0 l1 (Lpr.bl s)).1, .int .u64 (Lpr.parseB l0 l1 (Lpr.bl s)).2.1], .int .i64 (Lpr.parseB l0 l1 (Lpr.bl s)).2.2]) ∧ Below w.heap.size w w' := by
  have hpar : Lpr.parseB l0 l1 (Lpr.bl s) = if Lpr.bl s = [] ∨ Lpr.printB l0 l1 (place l0 (Lpr.bl s)) 0 ≠ Lpr.bl s then (0, 0, 17) else (place l0 (Lpr.bl s), 0, 0) := by unfold Lpr.parseB; rw [if_neg (by rw [hm]; simp), hc]; rfl
  refine Eng.enter Tryd.func29 rfl fun act0 d0 s0 v0 => ?_
  have s0 : act0.tmps.size = 53 := s0
  have h0_0 : act0.eval (.tmp 0) = .agg #[na, nb] := v0 0 (by simp)
  have h1_0 : act0.eval (.tmp 1) = .string s := v0 1 (by simp)
  clear v0
  have bl0 : Below w.heap.size w w := Below.refl _ _
  refine wp_seq ?_
  refine Eng.regionS (Eng.still [fun u_ => True, fun u_ => True, fun u_ => u_ = .int .i64 0]) (fun i => ([.alloc 47 #[na, nb], .alloc 30 #[.int .i64 0, .int .u64 0], .plain] : List Eng.Kind).getD i .plain) 3 0 53 s0 rfl (by kernel_rfl) (Eng.still_stable _) (Or.inr (Eng.still_any _)) ?_ ?_
  · refine Eng.Steps.cons (fun _ => ?_) (Eng.Steps.cons (fun _ => ?_) (Eng.Steps.cons (fun _ => ?_) (Eng.Steps.nil)))
    · refine Eng.made rfl (by simp) rfl (fun a w' hd ho => ?_) (fun _ _ => trivial)
      exact Eng.run_box rfl ((ho 0 (by kernel_rfl)).trans h0_0)
    · refine Eng.made rfl (by simp) rfl (fun a w' hd ho => ?_) (fun _ _ => trivial)
      simp only [execOp]
      go_simp
    · refine Eng.plain rfl rfl fun a w' H => ?_
      exact Eng.val (w1 := w') (v := .int .i64 0) (Eng.run_assign rfl (rfl : a.eval (.const (.int .i64 0)) = .int .i64 0)) (Below.refl _ _) rfl
  intro act1 w1 T
  have h0_1 : act1.eval (.tmp 0) = .agg #[na, nb] := (T.rest 0 (by kernel_rfl)).trans h0_0
  have h1_1 : act1.eval (.tmp 1) = .string s := (T.rest 1 (by kernel_rfl)).trans h1_0
  have Fn0_1 := Eng.Reads.below F0 T.below
  have Fn1_1 := Eng.Reads.below F1 T.below
  obtain ⟨g2_1, h2_1, rg2_1, lg2_1_1, kg2_1_1⟩ := T.al 0 2 _ _ rfl rfl rfl (by kernel_rfl)
  have og2_1 : w.heap.size ≤ g2_1 := Nat.le_trans bl0.size rg2_1
  obtain ⟨g4_1, h4_1, rg4_1, lg4_1_1, kg4_1_1⟩ := T.al 1 4 _ _ rfl rfl rfl (by kernel_rfl)
  have og4_1 : w.heap.size ≤ g4_1 := Nat.le_trans bl0.size rg4_1
  have ne_g4_1_g2_1 : g2_1 ≠ g4_1 := T.ne 0 1 2 4 rfl rfl rfl rfl rfl rfl h2_1 h4_1 rfl
  have h5_1 : act1.eval (.tmp 5) = .int .i64 0 := T.done 2 5 rfl rfl
  have d1 := T.defers.trans d0
  have s1 := T.size.trans s0
  have bl1 := bl0.trans (T.below.mono bl0.size)
  clear T
  refine Eng.tail_nil ?_
  first | show Code.wp Tryd.prog _ _ _ _ | skip
  refine wp_seq ?_
  refine wp_seq ?_
  obtain ⟨q12, Bq12⟩ : ∃ b : Bool, b = (Lpr.mayB l0 l1) := ⟨_, rfl⟩
  obtain ⟨q13, Bq13⟩ : ∃ b : Bool, b = (!q12) := ⟨_, rfl⟩
  refine Eng.regionS (Eng.still [fun u_ => u_ = .agg #[na, nb], fun u_ => u_ = .bool q12, fun u_ => u_ = .bool q13]) (fun i => ([.plain, .plain, .plain] : List Eng.Kind).getD i .plain) 3 0 53 s1 rfl (by kernel_rfl) (Eng.still_stable _) (Or.inr (Eng.still_any _)) ?_ ?_
  · refine Eng.Steps.cons (fun _ => ?_) (Eng.Steps.cons (fun _ => ?_) (Eng.Steps.cons (fun _ => ?_) (Eng.Steps.nil)))
    · refine Eng.plain rfl rfl fun a w' H => ?_
      have kb := (H.below.block _ lg2_1_1).trans kg2_1_1
      have z0 : w'.cell? ⟨g2_1, 0, none⟩ = some (na) := (Eng.cells kb 0).trans rfl
      have z1 : w'.cell? ⟨g2_1, 1, none⟩ = some (nb) := (Eng.cells kb 1).trans rfl
      refine Eng.val (w1 := w') (v := .agg #[na, nb]) ?_ (Below.refl _ _) rfl
      have e0 : a.eval (.tmp 2) = .pointer (some ⟨g2_1, 0, none⟩) := ((H.kept 2 (by kernel_rfl)).trans h2_1)
      simp only [execOp, resolve, List.map_toArray, List.map_cons, List.map_nil, e0]
      go_simp
      all_goals first | rfl | (simp; done) | (rw [Bool.eq_iff_iff]; simp; done) | omega | skip
    · refine Eng.plain rfl rfl fun a w' H => ?_
      refine Eng.call Tryd.func31 (by kernel_rfl) (by kernel_rfl) rfl #[.agg #[na, nb]] ?_ ?_
      · have e0 : a.eval (.tmp 11) = .agg #[na, nb] := (H.dep 0 11 (by kernel_rfl) rfl); simp only [List.map_toArray, List.map_cons, List.map_nil, e0]
      refine (Lpr.may_calls (Eng.Reads.below Fn0_1 H.below) (Eng.Reads.below Fn1_1 H.below) S0 S1).mono ?_
      rintro e w'' ⟨rfl, hb⟩
      exact ⟨_, rfl, (by show _ = Value.bool q12; rw [Bq12]), hb⟩
    · refine Eng.plain rfl rfl fun a w' H => ?_
      exact Eng.val (w1 := w') (v := .bool (!q12)) (Eng.run_not rfl (H.dep 1 12 (by kernel_rfl) rfl)) (Below.refl _ _) (by show _ = Value.bool q13; rw [Bq13])
  intro act2 w2 T
  have h0_2 : act2.eval (.tmp 0) = .agg #[na, nb] := (T.rest 0 (by kernel_rfl)).trans h0_1
  have h1_2 : act2.eval (.tmp 1) = .string s := (T.rest 1 (by kernel_rfl)).trans h1_1
  have h2_2 : act2.eval (.tmp 2) = .pointer (some ⟨g2_1, 0, none⟩) := (T.rest 2 (by kernel_rfl)).trans h2_1
  have h4_2 : act2.eval (.tmp 4) = .pointer (some ⟨g4_1, 0, none⟩) := (T.rest 4 (by kernel_rfl)).trans h4_1
  have h5_2 : act2.eval (.tmp 5) = .int .i64 0 := (T.rest 5 (by kernel_rfl)).trans h5_1
  have kg2_1_2 := (T.below.block _ lg2_1_1).trans kg2_1_1
  have lg2_1_2 := Nat.lt_of_lt_of_le lg2_1_1 T.below.size
  have kg4_1_2 := (T.below.block _ lg4_1_1).trans kg4_1_1
  have lg4_1_2 := Nat.lt_of_lt_of_le lg4_1_1 T.below.size
  have Fn0_2 := Eng.Reads.below Fn0_1 T.below
  have Fn1_2 := Eng.Reads.below Fn1_1 T.below
  have h13_2 : act2.eval (.tmp 13) = .bool q13 := T.done 2 13 rfl rfl
  have d2 := T.defers.trans d1
  have s2 := T.size.trans s1
  have bl2 := bl1.trans (T.below.mono bl1.size)
  clear T
  refine Eng.tail_nil ?_
  first | show Code.wp Tryd.prog _ _ _ _ | skip
  have n13 : q13 = false := by
    try simp only [Bq13, Bq12]
    rw [hm]
    rfl
  refine wp_cond_false (h13_2.trans (by rw [n13])) ?_
  refine wp_skip ?_
  first | show Code.wp Tryd.prog _ _ _ _ | skip
  refine wp_seq ?_
  refine Eng.regionS (Eng.still [fun u_ => u_ = .string s, fun u_ => u_ = .tuple #[.string s, .string ⟨#[]⟩, .bool false], fun u_ => u_ = .tuple #[.string s, .string ⟨#[]⟩, .bool false], fun u_ => u_ = .string s, fun u_ => u_ = .string ⟨#[]⟩, fun u_ => u_ = .bool false, fun u_ => u_ = .string s, fun u_ => u_ = .string ⟨#[]⟩, fun u_ => u_ = .bool false]) (fun i => ([.plain, .plain, .plain, .plain, .plain, .plain, .plain, .plain, .plain] : List Eng.Kind).getD i .plain) 9 0 53 s2 rfl (by kernel_rfl) (Eng.still_stable _) (Or.inr (Eng.still_any _)) ?_ ?_
  · refine Eng.Steps.cons (fun _ => ?_) (Eng.Steps.cons (fun _ => ?_) (Eng.Steps.cons (fun _ => ?_) (Eng.Steps.cons (fun _ => ?_) (Eng.Steps.cons (fun _ => ?_) (Eng.Steps.cons (fun _ => ?_) (Eng.Steps.cons (fun _ => ?_) (Eng.Steps.cons (fun _ => ?_) (Eng.Steps.cons (fun _ => ?_) (Eng.Steps.nil)))))))))
    · refine Eng.plain rfl rfl fun a w' H => ?_
      exact Eng.val (w1 := w') (v := .string s) (Eng.run_move rfl ((H.kept 1 (by kernel_rfl)).trans h1_2)) (Below.refl _ _) rfl
    · refine Eng.plain rfl rfl fun a w' H => ?_
      refine Eng.call Tryd.func70 (by kernel_rfl) (by kernel_rfl) rfl #[.string s, .string ⟨#[58]⟩] ?_ ?_
      · have e0 : a.eval (.tmp 16) = .string s := (H.dep 0 16 (by kernel_rfl) rfl); have e1 : a.eval (.const (.string ⟨#[58]⟩)) = .string ⟨#[58]⟩ := (rfl : a.eval (.const (.string ⟨#[58]⟩)) = .string ⟨#[58]⟩); simp only [List.map_toArray, List.map_cons, List.map_nil, e0, e1]
      refine (Lpr.cut_calls s _ hs hc).mono ?_
      rintro e w'' ⟨rfl, hb⟩
      exact ⟨_, rfl, rfl, hb⟩
    · refine Eng.plain rfl rfl fun a w' H => ?_
      exact Eng.val (w1 := w') (v := .tuple #[.string s, .string ⟨#[]⟩, .bool false]) (Eng.run_move rfl (H.dep 1 17 (by kernel_rfl) rfl)) (Below.refl _ _) rfl
    · refine Eng.plain rfl rfl fun a w' H => ?_
      refine Eng.val (w1 := w') (v := .string s) ?_ (Below.refl _ _) rfl
      have e0 : a.eval (.tmp 15) = .tuple #[.string s, .string ⟨#[]⟩, .bool false] := (H.dep 2 15 (by kernel_rfl) rfl)
      simp only [execOp, resolve, List.map_toArray, List.map_cons, List.map_nil, e0]
      go_simp
      all_goals first | rfl | (simp; done) | (rw [Bool.eq_iff_iff]; simp; done) | omega | skip
    · refine Eng.plain rfl rfl fun a w' H => ?_
      refine Eng.val (w1 := w') (v := .string ⟨#[]⟩) ?_ (Below.refl _ _) rfl
      have e0 : a.eval (.tmp 15) = .tuple #[.string s, .string ⟨#[]⟩, .bool false] := (H.dep 2 15 (by kernel_rfl) rfl)
      simp only [execOp, resolve, List.map_toArray, List.map_cons, List.map_nil, e0]
      go_simp
      all_goals first | rfl | (simp; done) | (rw [Bool.eq_iff_iff]; simp; done) | omega | skip
    · refine Eng.plain rfl rfl fun a w' H => ?_
      refine Eng.val (w1 := w') (v := .bool false) ?_ (Below.refl _ _) rfl
      have e0 : a.eval (.tmp 15) = .tuple #[.string s, .string ⟨#[]⟩, .bool false] := (H.dep 2 15 (by kernel_rfl) rfl)
      simp only [execOp, resolve, List.map_toArray, List.map_cons, List.map_nil, e0]
      go_simp
      all_goals first | rfl | (simp; done) | (rw [Bool.eq_iff_iff]; simp; done) | omega | skip
    · refine Eng.plain rfl rfl fun a w' H => ?_
      exact Eng.val (w1 := w') (v := .string s) (Eng.run_assign rfl (H.dep 3 18 (by kernel_rfl) rfl)) (Below.refl _ _) rfl
    · refine Eng.plain rfl rfl fun a w' H => ?_
      exact Eng.val (w1 := w') (v := .string ⟨#[]⟩) (Eng.run_assign rfl (H.dep 4 19 (by kernel_rfl) rfl)) (Below.refl _ _) rfl
    · refine Eng.plain rfl rfl fun a w' H => ?_
      exact Eng.val (w1 := w') (v := .bool false) (Eng.run_assign rfl (H.dep 5 20 (by kernel_rfl) rfl)) (Below.refl _ _) rfl
  intro act3 w3 T
  have h0_3 : act3.eval (.tmp 0) = .agg #[na, nb] := (T.rest 0 (by kernel_rfl)).trans h0_2
  have h1_3 : act3.eval (.tmp 1) = .string s := (T.rest 1 (by kernel_rfl)).trans h1_2
  have h2_3 : act3.eval (.tmp 2) = .pointer (some ⟨g2_1, 0, none⟩) := (T.rest 2 (by kernel_rfl)).trans h2_2
  have h4_3 : act3.eval (.tmp 4) = .pointer (some ⟨g4_1, 0, none⟩) := (T.rest 4 (by kernel_rfl)).trans h4_2
  have h5_3 : act3.eval (.tmp 5) = .int .i64 0 := (T.rest 5 (by kernel_rfl)).trans h5_2
  have h13_3 : act3.eval (.tmp 13) = .bool q13 := (T.rest 13 (by kernel_rfl)).trans h13_2
  have kg2_1_3 := (T.below.block _ lg2_1_2).trans kg2_1_2
  have lg2_1_3 := Nat.lt_of_lt_of_le lg2_1_2 T.below.size
  have kg4_1_3 := (T.below.block _ lg4_1_2).trans kg4_1_2
  have lg4_1_3 := Nat.lt_of_lt_of_le lg4_1_2 T.below.size
  have Fn0_3 := Eng.Reads.below Fn0_2 T.below
  have Fn1_3 := Eng.Reads.below Fn1_2 T.below
  have h6_3 : act3.eval (.tmp 6) = .string s := T.done 6 6 rfl rfl
  have h7_3 : act3.eval (.tmp 7) = .string ⟨#[]⟩ := T.done 7 7 rfl rfl
  have h8_3 : act3.eval (.tmp 8) = .bool false := T.done 8 8 rfl rfl
  have d3 := T.defers.trans d2
  have s3 := T.size.trans s2
  have bl3 := bl2.trans (T.below.mono bl2.size)
  clear T
  refine Eng.tail_nil ?_
  first | show Code.wp Tryd.prog _ _ _ _ | skip
  refine wp_seq ?_
  refine Eng.regionS (Eng.still [fun u_ => u_ = .pointer (some ⟨g2_1, 0, none⟩), fun u_ => u_ = na, fun u_ => u_ = .string s, fun u_ => u_ = .int .i64 (place l0 (Lpr.bl s)), fun u_ => u_ = .pointer (some ⟨g4_1, 0, none⟩)]) (fun i => ([.plain, .plain, .plain, .plain, .plain] : List Eng.Kind).getD i .plain) 5 1 53 s3 rfl (by kernel_rfl) (Eng.still_stable _) (Or.inr (Eng.still_any _)) ?_ ?_
  · refine Eng.Steps.cons (fun _ => ?_) (Eng.Steps.cons (fun _ => ?_) (Eng.Steps.cons (fun _ => ?_) (Eng.Steps.cons (fun _ => ?_) (Eng.Steps.cons (fun _ => ?_) (Eng.Steps.cons (fun hlt => ?_) (Eng.Steps.nil))))))
    · refine Eng.plain rfl rfl fun a w' H => ?_
      refine Eng.val (w1 := w') (v := .pointer (some ⟨g2_1, 0, none⟩)) ?_ (Below.refl _ _) rfl
      have e0 : a.eval (.tmp 2) = .pointer (some ⟨g2_1, 0, none⟩) := ((H.kept 2 (by kernel_rfl)).trans h2_3)
      simp only [execOp, resolve, List.map_toArray, List.map_cons, List.map_nil, e0]
      go_simp
      all_goals first | rfl | (simp; done) | (rw [Bool.eq_iff_iff]; simp; done) | omega | skip
    · refine Eng.plain rfl rfl fun a w' H => ?_
      have kb := (H.below.block _ lg2_1_3).trans kg2_1_3
      have z0 : w'.cell? ⟨g2_1, 0, none⟩ = some (na) := (Eng.cells kb 0).trans rfl
      refine Eng.val (w1 := w') (v := na) ?_ (Below.refl _ _) rfl
      have e0 : a.eval (.tmp 21) = .pointer (some ⟨g2_1, 0, none⟩) := (H.dep 0 21 (by kernel_rfl) rfl)
      simp only [execOp, resolve, List.map_toArray, List.map_cons, List.map_nil, e0]
      go_simp
      all_goals first | rfl | (simp; done) | (rw [Bool.eq_iff_iff]; simp; done) | omega | skip
    · refine Eng.plain rfl rfl fun a w' H => ?_
      exact Eng.val (w1 := w') (v := .string s) (Eng.run_move rfl ((H.kept 6 (by kernel_rfl)).trans h6_3)) (Below.refl _ _) rfl
    · refine Eng.plain rfl rfl fun a w' H => ?_
      refine Eng.call Tryd.func71 (by kernel_rfl) (by kernel_rfl) rfl #[na, .string s] ?_ ?_
      · have e0 : a.eval (.tmp 22) = na := (H.dep 1 22 (by kernel_rfl) rfl); have e1 : a.eval (.tmp 23) = .string s := (H.dep 2 23 (by kernel_rfl) rfl); simp only [List.map_toArray, List.map_cons, List.map_nil, e0, e1]
      refine (Lpr.index_calls (Eng.Reads.below Fn0_3 H.below) S0 s).mono ?_
      rintro e w'' ⟨rfl, hb⟩
      exact ⟨_, rfl, rfl, hb⟩
    · refine Eng.plain rfl rfl fun a w' H => ?_
      refine Eng.val (w1 := w') (v := .pointer (some ⟨g4_1, 0, none⟩)) ?_ (Below.refl _ _) rfl
      have e0 : a.eval (.tmp 4) = .pointer (some ⟨g4_1, 0, none⟩) := ((H.kept 4 (by kernel_rfl)).trans h4_3)
      simp only [execOp, resolve, List.map_toArray, List.map_cons, List.map_nil, e0]
      go_simp
      all_goals first | rfl | (simp; done) | (rw [Bool.eq_iff_iff]; simp; done) | omega | skip
    · exact absurd hlt (by decide)
  intro act4 w4 T
  have h0_4 : act4.eval (.tmp 0) = .agg #[na, nb] := (T.rest 0 (by kernel_rfl)).trans h0_3
  have h1_4 : act4.eval (.tmp 1) = .string s := (T.rest 1 (by kernel_rfl)).trans h1_3
  have h2_4 : act4.eval (.tmp 2) = .pointer (some ⟨g2_1, 0, none⟩) := (T.rest 2 (by kernel_rfl)).trans h2_3
  have h4_4 : act4.eval (.tmp 4) = .pointer (some ⟨g4_1, 0, none⟩) := (T.rest 4 (by kernel_rfl)).trans h4_3
  have h5_4 : act4.eval (.tmp 5) = .int .i64 0 := (T.rest 5 (by kernel_rfl)).trans h5_3
  have h6_4 : act4.eval (.tmp 6) = .string s := (T.rest 6 (by kernel_rfl)).trans h6_3
  have h7_4 : act4.eval (.tmp 7) = .string ⟨#[]⟩ := (T.rest 7 (by kernel_rfl)).trans h7_3
  have h8_4 : act4.eval (.tmp 8) = .bool false := (T.rest 8 (by kernel_rfl)).trans h8_3
  have h13_4 : act4.eval (.tmp 13) = .bool q13 := (T.rest 13 (by kernel_rfl)).trans h13_3
  have kg2_1_4 := (T.below.block _ lg2_1_3).trans kg2_1_3
  have lg2_1_4 := Nat.lt_of_lt_of_le lg2_1_3 T.below.size
  have kg4_1_4 := (T.below.block _ lg4_1_3).trans kg4_1_3
  have lg4_1_4 := Nat.lt_of_lt_of_le lg4_1_3 T.below.size
  have Fn0_4 := Eng.Reads.below Fn0_3 T.below
  have Fn1_4 := Eng.Reads.below Fn1_3 T.below
  have h24_4 : act4.eval (.tmp 24) = .int .i64 (place l0 (Lpr.bl s)) := T.done 3 24 rfl rfl
  have h25_4 : act4.eval (.tmp 25) = .pointer (some ⟨g4_1, 0, none⟩) := T.done 4 25 rfl rfl
  have d4 := T.defers.trans d3
  have s4 := T.size.trans s3
  have bl4 := bl3.trans (T.below.mono bl3.size)
  clear T
  refine Eng.tail_set (n := 0) (v := .int .i64 (place l0 (Lpr.bl s))) (new := #[.int .i64 (place l0 (Lpr.bl s)), .int .u64 0]) rfl rfl rfl kg4_1_4 rfl ?_ fun w5 S => ?_
  · have e0 : act4.eval (.tmp 25) = .pointer (some ⟨g4_1, 0, none⟩) := h25_4
    have e1 : act4.eval (.tmp 24) = .int .i64 (place l0 (Lpr.bl s)) := h24_4
    have z0 := (Eng.cells kg4_1_4 (0)).trans (rfl)
    have f0 := Eng.unfrozen kg4_1_4 (0)
    simp only [execOp]
    rw [e0, e1]
    go_simp
  have kg2_1_5 := (S.far _ ne_g4_1_g2_1).trans kg2_1_4
  have lg2_1_5 := Nat.lt_of_lt_of_eq lg2_1_4 S.size.symm
  have kg4_1_5 := S.new
  have lg4_1_5 := Nat.lt_of_lt_of_eq lg4_1_4 S.size.symm
  have bl5 := S.below bl4 og4_1
  have Fn0_5 := Eng.Reads.below F0 bl5
  have Fn1_5 := Eng.Reads.below F1 bl5
  clear S
  refine Eng.tail_nil ?_
  first | show Code.wp Tryd.prog _ _ _ _ | skip
  refine wp_seq ?_
  refine wp_seq ?_
  refine Eng.regionS (Eng.still [fun u_ => u_ = .bool false]) (fun i => ([.plain] : List Eng.Kind).getD i .plain) 1 0 53 s4 rfl (by kernel_rfl) (Eng.still_stable _) (Or.inr (Eng.still_any _)) ?_ ?_
  · refine Eng.Steps.cons (fun _ => ?_) (Eng.Steps.nil)
    · refine Eng.plain rfl rfl fun a w' H => ?_
      exact Eng.val (w1 := w') (v := .bool false) (Eng.run_move rfl ((H.kept 8 (by kernel_rfl)).trans h8_4)) (Below.refl _ _) rfl
  intro act6 w6 T
  have h0_6 : act6.eval (.tmp 0) = .agg #[na, nb] := (T.rest 0 (by kernel_rfl)).trans h0_4
  have h1_6 : act6.eval (.tmp 1) = .string s := (T.rest 1 (by kernel_rfl)).trans h1_4
  have h2_6 : act6.eval (.tmp 2) = .pointer (some ⟨g2_1, 0, none⟩) := (T.rest 2 (by kernel_rfl)).trans h2_4
  have h4_6 : act6.eval (.tmp 4) = .pointer (some ⟨g4_1, 0, none⟩) := (T.rest 4 (by kernel_rfl)).trans h4_4
  have h5_6 : act6.eval (.tmp 5) = .int .i64 0 := (T.rest 5 (by kernel_rfl)).trans h5_4
  have h6_6 : act6.eval (.tmp 6) = .string s := (T.rest 6 (by kernel_rfl)).trans h6_4
  have h7_6 : act6.eval (.tmp 7) = .string ⟨#[]⟩ := (T.rest 7 (by kernel_rfl)).trans h7_4
  have h8_6 : act6.eval (.tmp 8) = .bool false := (T.rest 8 (by kernel_rfl)).trans h8_4
  have h13_6 : act6.eval (.tmp 13) = .bool q13 := (T.rest 13 (by kernel_rfl)).trans h13_4
  have kg2_1_6 := (T.below.block _ lg2_1_5).trans kg2_1_5
  have lg2_1_6 := Nat.lt_of_lt_of_le lg2_1_5 T.below.size
  have kg4_1_6 := (T.below.block _ lg4_1_5).trans kg4_1_5
  have lg4_1_6 := Nat.lt_of_lt_of_le lg4_1_5 T.below.size
  have Fn0_6 := Eng.Reads.below Fn0_5 T.below
  have Fn1_6 := Eng.Reads.below Fn1_5 T.below
  have h26_6 : act6.eval (.tmp 26) = .bool false := T.done 0 26 rfl rfl
  have d6 := T.defers.trans d4
  have s6 := T.size.trans s4
  have bl6 := bl5.trans (T.below.mono bl5.size)
  clear T
  refine Eng.tail_nil ?_
  first | show Code.wp Tryd.prog _ _ _ _ | skip
  refine wp_cond_false h26_6 ?_
  refine wp_skip ?_
  first | show Code.wp Tryd.prog _ _ _ _ | skip
  refine wp_seq ?_
  refine wp_seq ?_
  obtain ⟨q43, Bq43⟩ : ∃ b : Bool, b = (s.toList.isEmpty) := ⟨_, rfl⟩
  obtain ⟨q49, Bq49⟩ : ∃ b : Bool, b = (!((⟨(Lpr.printB l0 l1 (place l0 (Lpr.bl s)) 0).toArray⟩ : ByteArray).toList == s.toList)) := ⟨_, rfl⟩
  obtain ⟨q50, Bq50⟩ : ∃ b : Bool, b = (q43 || q49) := ⟨_, rfl⟩
  refine Eng.regionS (Eng.still [fun u_ => u_ = .string s, fun u_ => u_ = .bool q43, fun u_ => u_ = .bool q43, fun u_ => u_ = bif (q43 == false) then (.agg #[na, nb]) else undef, fun u_ => u_ = bif (q43 == false) then (.agg #[.int .i64 (place l0 (Lpr.bl s)), .int .u64 0]) else undef, fun u_ => u_ = bif (q43 == false) then (.string (⟨(Lpr.printB l0 l1 (place l0 (Lpr.bl s)) 0).toArray⟩ : ByteArray)) else undef, fun u_ => u_ = bif (q43 == false) then (.string s) else undef, fun u_ => u_ = bif (q43 == false) then (.bool q49) else undef, fun u_ => u_ = .bool q50]) (fun i => ([.plain, .plain, .plain, .plain, .plain, .plain, .plain, .plain, .plain] : List Eng.Kind).getD i .plain) 9 0 53 s6 rfl (by kernel_rfl) (Eng.still_stable _) (Or.inr (Eng.still_any _)) ?_ ?_
  · refine Eng.Steps.cons (fun _ => ?_) (Eng.Steps.cons (fun _ => ?_) (Eng.Steps.cons (fun _ => ?_) (Eng.Steps.cons (fun _ => ?_) (Eng.Steps.cons (fun _ => ?_) (Eng.Steps.cons (fun _ => ?_) (Eng.Steps.cons (fun _ => ?_) (Eng.Steps.cons (fun _ => ?_) (Eng.Steps.cons (fun _ => ?_) (Eng.Steps.nil)))))))))
    · refine Eng.plain rfl rfl fun a w' H => ?_
      exact Eng.val (w1 := w') (v := .string s) (Eng.run_move rfl ((H.kept 1 (by kernel_rfl)).trans h1_6)) (Below.refl _ _) rfl
    · refine Eng.plain rfl rfl fun a w' H => ?_
      refine Eng.val (w1 := w') (v := .bool s.toList.isEmpty) ?_ (Below.refl _ _) (by show _ = Value.bool q43; rw [Bq43])
      have e0 : a.eval (.tmp 42) = .string s := (H.dep 0 42 (by kernel_rfl) rfl)
      have e1 : a.eval (.const (.string ⟨#[]⟩)) = .string ⟨#[]⟩ := (rfl : a.eval (.const (.string ⟨#[]⟩)) = .string ⟨#[]⟩)
      simp only [execOp, resolve, List.map_toArray, List.map_cons, List.map_nil, e0, e1]
      go_simp
      all_goals first | rfl | (simp; done) | (rw [Bool.eq_iff_iff]; simp; done) | omega | skip
    · refine Eng.plain rfl rfl fun a w' H => ?_
      exact Eng.val (w1 := w') (v := .bool q43) (Eng.run_move rfl (H.dep 1 43 (by kernel_rfl) rfl)) (Below.refl _ _) rfl
    · refine Eng.guarded1 (j := 2) (d := 44) (b := q43) rfl rfl (by kernel_rfl) rfl (fun v w h => h) (fun hG w => Eng.off hG) fun hG a w' H => ?_
      have kb := (H.below.block _ lg2_1_6).trans kg2_1_6
      have z0 : w'.cell? ⟨g2_1, 0, none⟩ = some (na) := (Eng.cells kb 0).trans rfl
      have z1 : w'.cell? ⟨g2_1, 1, none⟩ = some (nb) := (Eng.cells kb 1).trans rfl
      refine Eng.val (w1 := w') (v := .agg #[na, nb]) ?_ (Below.refl _ _) (Eng.off' hG rfl)
      have e0 : a.eval (.tmp 2) = .pointer (some ⟨g2_1, 0, none⟩) := ((H.kept 2 (by kernel_rfl)).trans h2_6)
      simp only [execOp, resolve, List.map_toArray, List.map_cons, List.map_nil, e0]
      go_simp
      all_goals first | rfl | (simp; done) | (rw [Bool.eq_iff_iff]; simp; done) | omega | skip
    · refine Eng.guarded1 (j := 2) (d := 44) (b := q43) rfl rfl (by kernel_rfl) rfl (fun v w h => h) (fun hG w => Eng.off hG) fun hG a w' H => ?_
      have kb := (H.below.block _ lg4_1_6).trans kg4_1_6
      have z0 : w'.cell? ⟨g4_1, 0, none⟩ = some (.int .i64 (place l0 (Lpr.bl s))) := (Eng.cells kb 0).trans rfl
      have z1 : w'.cell? ⟨g4_1, 1, none⟩ = some (.int .u64 0) := (Eng.cells kb 1).trans rfl
      refine Eng.val (w1 := w') (v := .agg #[.int .i64 (place l0 (Lpr.bl s)), .int .u64 0]) ?_ (Below.refl _ _) (Eng.off' hG rfl)
      have e0 : a.eval (.tmp 4) = .pointer (some ⟨g4_1, 0, none⟩) := ((H.kept 4 (by kernel_rfl)).trans h4_6)
      simp only [execOp, resolve, List.map_toArray, List.map_cons, List.map_nil, e0]
      go_simp
      all_goals first | rfl | (simp; done) | (rw [Bool.eq_iff_iff]; simp; done) | omega | skip
    · refine Eng.guarded1 (j := 2) (d := 44) (b := q43) rfl rfl (by kernel_rfl) rfl (fun v w h => h) (fun hG w => Eng.off hG) fun hG a w' H => ?_
      refine Eng.call Tryd.func33 (by kernel_rfl) (by kernel_rfl) rfl #[.agg #[na, nb], .agg #[.int .i64 (place l0 (Lpr.bl s)), .int .u64 0]] ?_ ?_
      · have e0 : a.eval (.tmp 45) = .agg #[na, nb] := (Eng.on (H.dep 3 45 (by kernel_rfl) rfl) hG); have e1 : a.eval (.tmp 46) = .agg #[.int .i64 (place l0 (Lpr.bl s)), .int .u64 0] := (Eng.on (H.dep 4 46 (by kernel_rfl) rfl) hG); simp only [List.map_toArray, List.map_cons, List.map_nil, e0, e1]
      refine (Lpr.print_calls (Eng.Reads.below Fn0_6 H.below) (Eng.Reads.below Fn1_6 H.below) S0 S1 (place l0 (Lpr.bl s)) 0 (by omega) (by omega)).mono ?_
      rintro e w'' ⟨rfl, hb⟩
      exact ⟨_, rfl, (Eng.off' hG rfl), hb⟩
    · refine Eng.guarded1 (j := 2) (d := 44) (b := q43) rfl rfl (by kernel_rfl) rfl (fun v w h => h) (fun hG w => Eng.off hG) fun hG a w' H => ?_
      exact Eng.val (w1 := w') (v := .string s) (Eng.run_move rfl ((H.kept 1 (by kernel_rfl)).trans h1_6)) (Below.refl _ _) (Eng.off' hG rfl)
    · refine Eng.guarded1 (j := 2) (d := 44) (b := q43) rfl rfl (by kernel_rfl) rfl (fun v w h => h) (fun hG w => Eng.off hG) fun hG a w' H => ?_
      refine Eng.val (w1 := w') (v := .bool (!((⟨(Lpr.printB l0 l1 (place l0 (Lpr.bl s)) 0).toArray⟩ : ByteArray).toList == s.toList))) ?_ (Below.refl _ _) (Eng.off' hG (by rw [Bq49]))
      have e0 : a.eval (.tmp 47) = .string (⟨(Lpr.printB l0 l1 (place l0 (Lpr.bl s)) 0).toArray⟩ : ByteArray) := (Eng.on (H.dep 5 47 (by kernel_rfl) rfl) hG)
      have e1 : a.eval (.tmp 48) = .string s := (Eng.on (H.dep 6 48 (by kernel_rfl) rfl) hG)
      simp only [execOp, resolve, List.map_toArray, List.map_cons, List.map_nil, e0, e1]
      go_simp
      all_goals first | rfl | (simp; done) | (rw [Bool.eq_iff_iff]; simp; done) | omega | skip
    · refine Eng.plain rfl rfl fun a w' H => ?_
      exact Eng.val (w1 := w') (v := .bool (q43 || q49)) (Eng.run_or rfl rfl (G := true) (H.dep 2 44 (by kernel_rfl) rfl) (fun hb => (Eng.on (H.dep 7 49 (by kernel_rfl) rfl) (Eng.mk1 hb)))) (Below.refl _ _) (by show _ = Value.bool q50; rw [Bq50])
  intro act7 w7 T
  have h0_7 : act7.eval (.tmp 0) = .agg #[na, nb] := (T.rest 0 (by kernel_rfl)).trans h0_6
  have h1_7 : act7.eval (.tmp 1) = .string s := (T.rest 1 (by kernel_rfl)).trans h1_6
  have h2_7 : act7.eval (.tmp 2) = .pointer (some ⟨g2_1, 0, none⟩) := (T.rest 2 (by kernel_rfl)).trans h2_6
  have h4_7 : act7.eval (.tmp 4) = .pointer (some ⟨g4_1, 0, none⟩) := (T.rest 4 (by kernel_rfl)).trans h4_6
  have h5_7 : act7.eval (.tmp 5) = .int .i64 0 := (T.rest 5 (by kernel_rfl)).trans h5_6
  have h6_7 : act7.eval (.tmp 6) = .string s := (T.rest 6 (by kernel_rfl)).trans h6_6
  have h7_7 : act7.eval (.tmp 7) = .string ⟨#[]⟩ := (T.rest 7 (by kernel_rfl)).trans h7_6
  have h8_7 : act7.eval (.tmp 8) = .bool false := (T.rest 8 (by kernel_rfl)).trans h8_6
  have h13_7 : act7.eval (.tmp 13) = .bool q13 := (T.rest 13 (by kernel_rfl)).trans h13_6
  have h26_7 : act7.eval (.tmp 26) = .bool false := (T.rest 26 (by kernel_rfl)).trans h26_6
  have kg2_1_7 := (T.below.block _ lg2_1_6).trans kg2_1_6
  have lg2_1_7 := Nat.lt_of_lt_of_le lg2_1_6 T.below.size
  have kg4_1_7 := (T.below.block _ lg4_1_6).trans kg4_1_6
  have lg4_1_7 := Nat.lt_of_lt_of_le lg4_1_6 T.below.size
  have Fn0_7 := Eng.Reads.below Fn0_6 T.below
  have Fn1_7 := Eng.Reads.below Fn1_6 T.below
  have h50_7 : act7.eval (.tmp 50) = .bool q50 := T.done 8 50 rfl rfl
  have d7 := T.defers.trans d6
  have s7 := T.size.trans s6
  have bl7 := bl6.trans (T.below.mono bl6.size)
  clear T
  refine Eng.tail_nil ?_
  first | show Code.wp Tryd.prog _ _ _ _ | skip
  refine wp_cond_split h50_7 (fun hq => ?_) (fun hq => ?_)
  ·
    have kn8 := hq
    have c50 := Bq50.symm.trans hq
    clear hq
    have hres : Lpr.parseB l0 l1 (Lpr.bl s) = (0, 0, 17) := by rw [hpar, if_pos]; rw [Bq49, Bq43] at c50; exact Lpr.or_ne c50
    refine wp_seq ?_
    refine Eng.regionS (Eng.still [fun u_ => u_ = .agg #[.int .i64 0, .int .u64 0]]) (fun i => ([.plain] : List Eng.Kind).getD i .plain) 1 2 53 s7 rfl (by kernel_rfl) (Eng.still_stable _) (Or.inr (Eng.still_any _)) ?_ ?_
    · refine Eng.Steps.cons (fun _ => ?_) (Eng.Steps.cons (fun hlt => ?_) (Eng.Steps.cons (fun hlt => ?_) (Eng.Steps.nil)))
      · refine Eng.plain rfl rfl fun a w' H => ?_
        refine Eng.val (w1 := w') (v := .agg #[.int .i64 0, .int .u64 0]) ?_ (Below.refl _ _) rfl
        simp only [execOp, resolve, List.map_toArray, List.map_cons, List.map_nil]
        go_simp
        all_goals first | rfl | (simp; done) | (rw [Bool.eq_iff_iff]; simp; done) | omega | skip
      · exact absurd hlt (by decide)
      · exact absurd hlt (by decide)
    intro act9 w9 T
    have h0_9 : act9.eval (.tmp 0) = .agg #[na, nb] := (T.rest 0 (by kernel_rfl)).trans h0_7
    have h1_9 : act9.eval (.tmp 1) = .string s := (T.rest 1 (by kernel_rfl)).trans h1_7
    have h2_9 : act9.eval (.tmp 2) = .pointer (some ⟨g2_1, 0, none⟩) := (T.rest 2 (by kernel_rfl)).trans h2_7
    have h4_9 : act9.eval (.tmp 4) = .pointer (some ⟨g4_1, 0, none⟩) := (T.rest 4 (by kernel_rfl)).trans h4_7
    have h5_9 : act9.eval (.tmp 5) = .int .i64 0 := (T.rest 5 (by kernel_rfl)).trans h5_7
    have h6_9 : act9.eval (.tmp 6) = .string s := (T.rest 6 (by kernel_rfl)).trans h6_7
    have h7_9 : act9.eval (.tmp 7) = .string ⟨#[]⟩ := (T.rest 7 (by kernel_rfl)).trans h7_7
    have h8_9 : act9.eval (.tmp 8) = .bool false := (T.rest 8 (by kernel_rfl)).trans h8_7
    have h13_9 : act9.eval (.tmp 13) = .bool q13 := (T.rest 13 (by kernel_rfl)).trans h13_7
    have h26_9 : act9.eval (.tmp 26) = .bool false := (T.rest 26 (by kernel_rfl)).trans h26_7
    have h50_9 : act9.eval (.tmp 50) = .bool q50 := (T.rest 50 (by kernel_rfl)).trans h50_7
    have kg2_1_9 := (T.below.block _ lg2_1_7).trans kg2_1_7
    have lg2_1_9 := Nat.lt_of_lt_of_le lg2_1_7 T.below.size
    have kg4_1_9 := (T.below.block _ lg4_1_7).trans kg4_1_7
    have lg4_1_9 := Nat.lt_of_lt_of_le lg4_1_7 T.below.size
    have Fn0_9 := Eng.Reads.below Fn0_7 T.below
    have Fn1_9 := Eng.Reads.below Fn1_7 T.below
    have h51_9 : act9.eval (.tmp 51) = .agg #[.int .i64 0, .int .u64 0] := T.done 0 51 rfl rfl
    have d9 := T.defers.trans d7
    have s9 := T.size.trans s7
    have bl9 := bl7.trans (T.below.mono bl7.size)
    clear T
    refine Eng.tail_put [.int .i64 0, .int .u64 0] (n := 0) (new := #[.int .i64 0, .int .u64 0]) rfl rfl rfl kg4_1_9 rfl ?_ fun w10 S => ?_
    · have e0 : act9.eval (.tmp 4) = .pointer (some ⟨g4_1, 0, none⟩) := h4_9
      have e1 : act9.eval (.tmp 51) = .agg #[.int .i64 0, .int .u64 0] := h51_9
      have z0 := (Eng.cells kg4_1_9 (0)).trans (rfl)
      have f0 := Eng.unfrozen kg4_1_9 (0)
      have z1 := (Eng.cells kg4_1_9 (1)).trans (rfl)
      have f1 := Eng.unfrozen kg4_1_9 (1)
      simp only [execOp]
      rw [e0, e1]
      go_simp
      try rfl
    have kg2_1_10 := (S.far _ ne_g4_1_g2_1).trans kg2_1_9
    have lg2_1_10 := Nat.lt_of_lt_of_eq lg2_1_9 S.size.symm
    have kg4_1_10 := S.new
    have lg4_1_10 := Nat.lt_of_lt_of_eq lg4_1_9 S.size.symm
    have bl10 := S.below bl9 og4_1
    have Fn0_10 := Eng.Reads.below F0 bl10
    have Fn1_10 := Eng.Reads.below F1 bl10
    clear S
    refine Eng.tail_val rfl rfl rfl (Eng.run_assign rfl (rfl : act9.eval (.const (.int .i64 17)) = .int .i64 17)) s9 rfl fun act11 d11 s11 hv hr => ?_
    have h0_11 : act11.eval (.tmp 0) = .agg #[na, nb] := (hr 0 rfl).trans h0_9
    have h1_11 : act11.eval (.tmp 1) = .string s := (hr 1 rfl).trans h1_9
    have h2_11 : act11.eval (.tmp 2) = .pointer (some ⟨g2_1, 0, none⟩) := (hr 2 rfl).trans h2_9
    have h4_11 : act11.eval (.tmp 4) = .pointer (some ⟨g4_1, 0, none⟩) := (hr 4 rfl).trans h4_9
    have h6_11 : act11.eval (.tmp 6) = .string s := (hr 6 rfl).trans h6_9
    have h7_11 : act11.eval (.tmp 7) = .string ⟨#[]⟩ := (hr 7 rfl).trans h7_9
    have h8_11 : act11.eval (.tmp 8) = .bool false := (hr 8 rfl).trans h8_9
    have h13_11 : act11.eval (.tmp 13) = .bool q13 := (hr 13 rfl).trans h13_9
    have h26_11 : act11.eval (.tmp 26) = .bool false := (hr 26 rfl).trans h26_9
    have h50_11 : act11.eval (.tmp 50) = .bool q50 := (hr 50 rfl).trans h50_9
    have h51_11 : act11.eval (.tmp 51) = .agg #[.int .i64 0, .int .u64 0] := (hr 51 rfl).trans h51_9
    have h5_11 : act11.eval (.tmp 5) = .int .i64 17 := hv
    have d11 := d11.trans d9
    clear hv hr
    refine Eng.tail_nil ?_
    first | show Code.wp Tryd.prog _ _ _ _ | skip
    refine wp_ret ?_
    repeat (first | refine Eng.in_ret ?_ | refine Eng.then_ret ?_)
    exact Eng.retct rfl d11 h4_11 kg4_1_10 Tryd.underlying30 rfl (by kernel_rfl) h5_11 ⟨by rw [hres], bl10⟩
  ·
    have kn12 := hq
    have c50 := Bq50.symm.trans hq
    clear hq
    have hres : Lpr.parseB l0 l1 (Lpr.bl s) = (place l0 (Lpr.bl s), 0, 0) := by rw [hpar, if_neg]; rw [Bq49, Bq43] at c50; exact Lpr.not_or_ne c50
    refine wp_skip ?_
    first | show Code.wp Tryd.prog _ _ _ _ | skip
    refine wp_seq ?_
    refine Eng.regionS (Eng.still [fun u_ => u_ = .agg #[.int .i64 (place l0 (Lpr.bl s)), .int .u64 0]]) (fun i => ([.plain] : List Eng.Kind).getD i .plain) 1 2 53 s7 rfl (by kernel_rfl) (Eng.still_stable _) (Or.inr (Eng.still_any _)) ?_ ?_
    · refine Eng.Steps.cons (fun _ => ?_) (Eng.Steps.cons (fun hlt => ?_) (Eng.Steps.cons (fun hlt => ?_) (Eng.Steps.nil)))
      · refine Eng.plain rfl rfl fun a w' H => ?_
        have kb := (H.below.block _ lg4_1_7).trans kg4_1_7
        have z0 : w'.cell? ⟨g4_1, 0, none⟩ = some (.int .i64 (place l0 (Lpr.bl s))) := (Eng.cells kb 0).trans rfl
        have z1 : w'.cell? ⟨g4_1, 1, none⟩ = some (.int .u64 0) := (Eng.cells kb 1).trans rfl
        refine Eng.val (w1 := w') (v := .agg #[.int .i64 (place l0 (Lpr.bl s)), .int .u64 0]) ?_ (Below.refl _ _) rfl
        have e0 : a.eval (.tmp 4) = .pointer (some ⟨g4_1, 0, none⟩) := ((H.kept 4 (by kernel_rfl)).trans h4_7)
        simp only [execOp, resolve, List.map_toArray, List.map_cons, List.map_nil, e0]
        go_simp
        all_goals first | rfl | (simp; done) | (rw [Bool.eq_iff_iff]; simp; done) | omega | skip
      · exact absurd hlt (by decide)
      · exact absurd hlt (by decide)
    intro act13 w13 T
    have h0_13 : act13.eval (.tmp 0) = .agg #[na, nb] := (T.rest 0 (by kernel_rfl)).trans h0_7
    have h1_13 : act13.eval (.tmp 1) = .string s := (T.rest 1 (by kernel_rfl)).trans h1_7
    have h2_13 : act13.eval (.tmp 2) = .pointer (some ⟨g2_1, 0, none⟩) := (T.rest 2 (by kernel_rfl)).trans h2_7
    have h4_13 : act13.eval (.tmp 4) = .pointer (some ⟨g4_1, 0, none⟩) := (T.rest 4 (by kernel_rfl)).trans h4_7
    have h5_13 : act13.eval (.tmp 5) = .int .i64 0 := (T.rest 5 (by kernel_rfl)).trans h5_7
    have h6_13 : act13.eval (.tmp 6) = .string s := (T.rest 6 (by kernel_rfl)).trans h6_7
    have h7_13 : act13.eval (.tmp 7) = .string ⟨#[]⟩ := (T.rest 7 (by kernel_rfl)).trans h7_7
    have h8_13 : act13.eval (.tmp 8) = .bool false := (T.rest 8 (by kernel_rfl)).trans h8_7
    have h13_13 : act13.eval (.tmp 13) = .bool q13 := (T.rest 13 (by kernel_rfl)).trans h13_7
    have h26_13 : act13.eval (.tmp 26) = .bool false := (T.rest 26 (by kernel_rfl)).trans h26_7
    have h50_13 : act13.eval (.tmp 50) = .bool q50 := (T.rest 50 (by kernel_rfl)).trans h50_7
    have kg2_1_13 := (T.below.block _ lg2_1_7).trans kg2_1_7
    have lg2_1_13 := Nat.lt_of_lt_of_le lg2_1_7 T.below.size
    have kg4_1_13 := (T.below.block _ lg4_1_7).trans kg4_1_7
    have lg4_1_13 := Nat.lt_of_lt_of_le lg4_1_7 T.below.size
    have Fn0_13 := Eng.Reads.below Fn0_7 T.below
    have Fn1_13 := Eng.Reads.below Fn1_7 T.below
    have h52_13 : act13.eval (.tmp 52) = .agg #[.int .i64 (place l0 (Lpr.bl s)), .int .u64 0] := T.done 0 52 rfl rfl
    have d13 := T.defers.trans d7
    have s13 := T.size.trans s7
    have bl13 := bl7.trans (T.below.mono bl7.size)
    clear T
    refine Eng.tail_put [.int .i64 (place l0 (Lpr.bl s)), .int .u64 0] (n := 0) (new := #[.int .i64 (place l0 (Lpr.bl s)), .int .u64 0]) rfl rfl rfl kg4_1_13 rfl ?_ fun w14 S => ?_
    · have e0 : act13.eval (.tmp 4) = .pointer (some ⟨g4_1, 0, none⟩) := h4_13
      have e1 : act13.eval (.tmp 52) = .agg #[.int .i64 (place l0 (Lpr.bl s)), .int .u64 0] := h52_13
      have z0 := (Eng.cells kg4_1_13 (0)).trans (rfl)
      have f0 := Eng.unfrozen kg4_1_13 (0)
      have z1 := (Eng.cells kg4_1_13 (1)).trans (rfl)
      have f1 := Eng.unfrozen kg4_1_13 (1)
      simp only [execOp]
      rw [e0, e1]
      go_simp
      try rfl
    have kg2_1_14 := (S.far _ ne_g4_1_g2_1).trans kg2_1_13
    have lg2_1_14 := Nat.lt_of_lt_of_eq lg2_1_13 S.size.symm
    have kg4_1_14 := S.new
    have lg4_1_14 := Nat.lt_of_lt_of_eq lg4_1_13 S.size.symm
    have bl14 := S.below bl13 og4_1
    have Fn0_14 := Eng.Reads.below F0 bl14
    have Fn1_14 := Eng.Reads.below F1 bl14
    clear S
    refine Eng.tail_val rfl rfl rfl (Eng.run_assign rfl (rfl : act13.eval (.const (.int .i64 0)) = .int .i64 0)) s13 rfl fun act15 d15 s15 hv hr => ?_
    have h0_15 : act15.eval (.tmp 0) = .agg #[na, nb] := (hr 0 rfl).trans h0_13
    have h1_15 : act15.eval (.tmp 1) = .string s := (hr 1 rfl).trans h1_13
    have h2_15 : act15.eval (.tmp 2) = .pointer (some ⟨g2_1, 0, none⟩) := (hr 2 rfl).trans h2_13
    have h4_15 : act15.eval (.tmp 4) = .pointer (some ⟨g4_1, 0, none⟩) := (hr 4 rfl).trans h4_13
    have h6_15 : act15.eval (.tmp 6) = .string s := (hr 6 rfl).trans h6_13
    have h7_15 : act15.eval (.tmp 7) = .string ⟨#[]⟩ := (hr 7 rfl).trans h7_13
    have h8_15 : act15.eval (.tmp 8) = .bool false := (hr 8 rfl).trans h8_13
    have h13_15 : act15.eval (.tmp 13) = .bool q13 := (hr 13 rfl).trans h13_13
    have h26_15 : act15.eval (.tmp 26) = .bool false := (hr 26 rfl).trans h26_13
    have h50_15 : act15.eval (.tmp 50) = .bool q50 := (hr 50 rfl).trans h50_13
    have h52_15 : act15.eval (.tmp 52) = .agg #[.int .i64 (place l0 (Lpr.bl s)), .int .u64 0] := (hr 52 rfl).trans h52_13
    have h5_15 : act15.eval (.tmp 5) = .int .i64 0 := hv
    have d15 := d15.trans d13
    clear hv hr
    refine Eng.tail_nil ?_
    first | show Code.wp Tryd.prog _ _ _ _ | skip
    refine wp_ret ?_
    repeat (first | refine Eng.in_ret ?_ | refine Eng.then_ret ?_)
    exact Eng.retct rfl d15 h4_15 kg4_1_14 Tryd.underlying30 rfl (by kernel_rfl) h5_15 ⟨by rw [hres], bl14⟩
end Go.Proofs.YthgafcaoibfchaaDoor.X
end
section
namespace Go.Proofs.YthgafcaoibfchaaDoor.X
open Go Go.RowKit Go.Shelf Go.Proofs Go.Proofs.YthgafcaoibfchaaDoor.Spl Go.Proofs.YthgafcaoibfchaaDoorW.PrintWords Go.Proofs.YthgafcaoibfchaaDoorW.PrintLast Go.Proofs.YthgafcaoibfchaaDoorW.PrintMore
set_option linter.unusedVariables false
set_option linter.unusedSimpArgs false
namespace Lpr
theorem parse_calls {v0 v1 : Value} {l0 l1 : List ByteArray} {w : World} (F0 : Eng.Reads w v0 l0.length 1 (Nfa.strs l0)) (F1 : Eng.Reads w v1 l1.length 1 (Nfa.strs l1)) (S0 : Small l0) (S1 : Small l1) (s : ByteArray) (hs : s.size ≤ 1000000) :
    Calls Tryd.prog 29 #[.agg #[v0, v1], .string s] w fun e w' => e = .returned (.tuple #[.agg #[.int .i64 (parseB l0 l1 (bl s)).1, .int .u64 (parseB l0 l1 (bl s)).2.1], .int .i64 (parseB l0 l1 (bl s)).2.2]) ∧ Below w.heap.size w w' := by
  cases hm : mayB l0 l1 with
  | false => exact parse_not v0 v1 l0 l1 s w F0 F1 S0 S1 hm
  | true =>
    by_cases hi : Lib.indexByte (bl s) 58 < 0
    · exact parse_plain v0 v1 l0 l1 s w F0 F1 S0 S1 hm hs (by unfold cutL; rw [if_pos hi])
    · obtain ⟨a, b, hc⟩ : ∃ a b, cutL (bl s) = (a, b, true) := by unfold cutL; rw [if_neg hi]; exact ⟨_, _, rfl⟩
      obtain ⟨A0, c0, rfl, k0, h0⟩ := kd F0
      obtain ⟨A1, c1, rfl, k1, h1⟩ := kd F1
      have hne : bl s ≠ [] := by intro e; rw [e] at hi; exact hi (by decide)
      have hr := cats_range l1 (pieces b.length b) 0 ⟨by omega, by omega⟩
      obtain ⟨k, r, h2, h3⟩ := print_eq (l0 := l0) (l1 := l1) (lv := place l0 a) (ct := catsOf l1 (pieces b.length b) 0) (by have := S0.len; omega) (by have := S1.len; omega) S0.mx S1.mx hr.1 hr.2
      have h := parse_walk A0 c0 l0 A1 c1 l1 (bl s) w k0 h0 k1 h1 (by have := S0.len; omega) (by have := S1.len; omega) (by rw [bl_size]; exact hs) ((may_eq (by have := S0.len; omega) (by have := S1.len; omega) S0.mx S1.mx).trans (by rw [hm])) a b hc hne k r h2
      rw [bl_back] at h
      refine h.mono ?_
      rintro e w' ⟨rfl, hb⟩
      refine ⟨?_, hb⟩
      have hrl : r.toList = printB l0 l1 (place l0 a) (catsOf l1 (pieces b.length b) 0) := by rw [← h3, ByteArray.toList_eq]; rfl
      have hp : parseB l0 l1 (bl s) = if printB l0 l1 (place l0 a) (catsOf l1 (pieces b.length b) 0) = bl s then (place l0 a, catsOf l1 (pieces b.length b) 0, 0) else (0, 0, 17) := by
        unfold parseB
        rw [if_neg (by rw [hm]; simp), hc]
        simp only [if_true]
        by_cases e : printB l0 l1 (place l0 a) (catsOf l1 (pieces b.length b) 0) = bl s
        · rw [if_pos e, if_neg]
          rintro (h | h)
          · exact hne h
          · exact h e
        · rw [if_neg e, if_pos (.inr e)]
      rw [hp, hrl]
      by_cases e : printB l0 l1 (place l0 a) (catsOf l1 (pieces b.length b) 0) = bl s
      · simp only [if_pos e]
      · simp only [if_neg e]
theorem both_of {x y : Bool} (h : (!x || !y) = false) : x = true ∧ y = true := by cases x <;> cases y <;> simp_all
end Lpr
end Go.Proofs.YthgafcaoibfchaaDoor.X
end
section
namespace Go.Proofs.YthgafcaoibfchaaDoor.X
open Go Go.RowKit Go.Shelf Go.Proofs
set_option linter.unusedVariables false
namespace Nfa
theorem strs_one (l : List ByteArray) : ∀ u ∈ strs l, u.oneCell' = true := by
  intro u hu
  obtain ⟨x, _, rfl⟩ := List.mem_map.1 hu
  rfl
theorem strs_cat {w : World} {B : Nat} {e : TypeId} {v : Value} {l r : List ByteArray} (O : w.ownsRow B e 1 v (l.length + r.length) (strs l ++ strs r)) : w.ownsRow B e 1 v (l ++ r).length (strs (l ++ r)) := by
  rw [List.length_append]
  unfold strs at O ⊢
  rw [List.map_append]; exact O
end Nfa
end Go.Proofs.YthgafcaoibfchaaDoor.X
end
section
namespace Go.Proofs.YthgafcaoibfchaaDoor.X
open Go.RowKit Go.Shelf Go.Proofs Go.Proofs.YthgafcaoibfchaaDoorW.PrintWords Go.Proofs.YthgafcaoibfchaaDoorW.PrintLast Go.Proofs.YthgafcaoibfchaaDoorW.PrintMore
set_option linter.unusedVariables false
set_option linter.unusedSimpArgs false
attribute [local go_sem] max2_int min2_int max_two min_two
set_option maxHeartbeats 4000000 in
set_option maxRecDepth 100000 in
theorem Lpr.clone_calls (v : Value) (l : List ByteArray) (w : World) (hx : Eng.Reads w v l.length 1 (Nfa.strs l)) (hl : l.length ≤ 2000000) : Calls Tryd.prog 69 #[v] w fun e w' => ∃ v', e = .returned v' ∧ w'.ownsRow w.heap.size 9 1 v' l.length (Nfa.strs l) ∧ Below w.heap.size w w' := by
  refine Eng.enter Tryd.func69 rfl fun act0 d0 s0 v0 => ?_
  have s0 : act0.tmps.size = 8 := s0
  have h0_0 : act0.eval (.tmp 0) = v := v0 0 (by simp)
  clear v0
  have bl0 : Below w.heap.size w w := Below.refl _ _
  refine wp_seq ?_
  refine Eng.regionS (Eng.still [fun u_ => u_ = .slice none 0 0]) (fun i => ([.plain] : List Eng.Kind).getD i .plain) 1 0 8 s0 rfl (by kernel_rfl) (Eng.still_stable _) (Or.inr (Eng.still_any _)) ?_ ?_
  · refine Eng.Steps.cons (fun _ => ?_) (Eng.Steps.nil)
    · refine Eng.plain rfl rfl fun a w' H => ?_
      exact Eng.val (w1 := w') (v := .slice none 0 0) (Eng.run_assign rfl (rfl : a.eval (.const (.slice none 0 0)) = .slice none 0 0)) (Below.refl _ _) rfl
  intro act1 w1 T
  have h0_1 : act1.eval (.tmp 0) = v := (T.rest 0 (by kernel_rfl)).trans h0_0
  have Fin_1 := Eng.Reads.below hx T.below
  have h2_1 : act1.eval (.tmp 2) = .slice none 0 0 := T.done 0 2 rfl rfl
  have d1 := T.defers.trans d0
  have s1 := T.size.trans s0
  have bl1 := bl0.trans (T.below.mono bl0.size)
  clear T
  refine Eng.tail_nil ?_
  first | show Code.wp Tryd.prog _ _ _ _ | skip
  refine wp_seq ?_
  refine wp_seq ?_
  obtain ⟨q4, Bq4⟩ : ∃ b : Bool, b = (Eng.isNil v) := ⟨_, rfl⟩
  refine Eng.regionS (Eng.still [fun u_ => u_ = v, fun u_ => u_ = .bool q4]) (fun i => ([.plain, .plain] : List Eng.Kind).getD i .plain) 2 0 8 s1 rfl (by kernel_rfl) (Eng.still_stable _) (Or.inr (Eng.still_any _)) ?_ ?_
  · refine Eng.Steps.cons (fun _ => ?_) (Eng.Steps.cons (fun _ => ?_) (Eng.Steps.nil))
    · refine Eng.plain rfl rfl fun a w' H => ?_
      exact Eng.val (w1 := w') (v := v) (Eng.run_move rfl ((H.kept 0 (by kernel_rfl)).trans h0_1)) (Below.refl _ _) rfl
    · refine Eng.plain rfl rfl fun a w' H => ?_
      refine Eng.val (w1 := w') (v := .bool (Eng.isNil v)) ?_ (Below.refl _ _) (by show _ = Value.bool q4; rw [Bq4])
      exact Eng.run_isnil rfl Tryd.underlying43 (show a.eval (.tmp 3) = v from (H.dep 0 3 (by kernel_rfl) rfl)) (Eng.Reads.below Fin_1 H.below)
  intro act2 w2 T
  have h0_2 : act2.eval (.tmp 0) = v := (T.rest 0 (by kernel_rfl)).trans h0_1
  have h2_2 : act2.eval (.tmp 2) = .slice none 0 0 := (T.rest 2 (by kernel_rfl)).trans h2_1
  have Fin_2 := Eng.Reads.below Fin_1 T.below
  have h4_2 : act2.eval (.tmp 4) = .bool q4 := T.done 1 4 rfl rfl
  have d2 := T.defers.trans d1
  have s2 := T.size.trans s1
  have bl2 := bl1.trans (T.below.mono bl1.size)
  clear T
  refine Eng.tail_nil ?_
  first | show Code.wp Tryd.prog _ _ _ _ | skip
  refine wp_cond_split h4_2 (fun hq => ?_) (fun hq => ?_)
  ·
    have kn3 := hq
    have c4 := Bq4.symm.trans hq
    clear hq
    have hz := Eng.isNil_zero hx c4 rfl
    have hl0 : l = [] := List.eq_nil_of_length_eq_zero hz
    refine wp_seq ?_
    refine Eng.regionS (Eng.still [fun u_ => u_ = .slice none 0 0]) (fun i => ([.plain] : List Eng.Kind).getD i .plain) 1 0 8 s2 rfl (by kernel_rfl) (Eng.still_stable _) (Or.inr (Eng.still_any _)) ?_ ?_
    · refine Eng.Steps.cons (fun _ => ?_) (Eng.Steps.nil)
      · refine Eng.plain rfl rfl fun a w' H => ?_
        exact Eng.val (w1 := w') (v := .slice none 0 0) (Eng.run_assign rfl (rfl : a.eval (.const (.slice none 0 0)) = .slice none 0 0)) (Below.refl _ _) rfl
    intro act4 w4 T
    have h0_4 : act4.eval (.tmp 0) = v := (T.rest 0 (by kernel_rfl)).trans h0_2
    have h4_4 : act4.eval (.tmp 4) = .bool q4 := (T.rest 4 (by kernel_rfl)).trans h4_2
    have Fin_4 := Eng.Reads.below Fin_2 T.below
    have h2_4 : act4.eval (.tmp 2) = .slice none 0 0 := T.done 0 2 rfl rfl
    have d4 := T.defers.trans d2
    have s4 := T.size.trans s2
    have bl4 := bl2.trans (T.below.mono bl2.size)
    clear T
    refine Eng.tail_nil ?_
    first | show Code.wp Tryd.prog _ _ _ _ | skip
    refine wp_ret ?_
    repeat (first | refine Eng.in_ret ?_ | refine Eng.then_ret ?_)
    exact Eng.ret1 rfl d4 h2_4 ⟨_, rfl, by rw [hl0]; exact World.ownsRow_nil _ _ _ _, bl4⟩
  ·
    have kn5 := hq
    have c4 := Bq4.symm.trans hq
    clear hq
    refine wp_skip ?_
    first | show Code.wp Tryd.prog _ _ _ _ | skip
    refine wp_seq ?_
    refine Eng.regionT (n := 4) rfl ?_
    refine Eng.tail_ex rfl rfl rfl (Eng.run_build0 (B := w.heap.size) (size := 1) (z := .string ⟨#[]⟩) (e := 9) rfl Tryd.underlying43 (by kernel_rfl) bl2.size) s2 rfl fun v_6 w6 act6 R d6 s6 hv hr => ?_
    obtain ⟨O_6, b_6⟩ := R
    have h0_6 : act6.eval (.tmp 0) = v := (hr 0 rfl).trans h0_2
    have h2_6 : act6.eval (.tmp 2) = .slice none 0 0 := (hr 2 rfl).trans h2_2
    have h4_6 : act6.eval (.tmp 4) = .bool q4 := (hr 4 rfl).trans h4_2
    have h5_6 : act6.eval (.tmp 5) = v_6 := hv
    have d6 := d6.trans d2
    clear hv hr
    have Fin_6 := Eng.Reads.below Fin_2 b_6
    have bl6 := bl2.trans (b_6.mono bl2.size)
    refine Eng.tail_val rfl rfl rfl (Eng.run_move rfl h0_6) s6 rfl fun act7 d7 s7 hv hr => ?_
    have h0_7 : act7.eval (.tmp 0) = v := (hr 0 rfl).trans h0_6
    have h2_7 : act7.eval (.tmp 2) = .slice none 0 0 := (hr 2 rfl).trans h2_6
    have h4_7 : act7.eval (.tmp 4) = .bool q4 := (hr 4 rfl).trans h4_6
    have h5_7 : act7.eval (.tmp 5) = v_6 := (hr 5 rfl).trans h5_6
    have h6_7 : act7.eval (.tmp 6) = v := hv
    have d7 := d7.trans d6
    clear hv hr
    refine Eng.tail_ex rfl rfl rfl (Eng.run_appendT (z := .string ⟨#[]⟩) rfl Tryd.underlying43 (by kernel_rfl) rfl rfl h5_7 O_6 h6_7 Fin_6 (Nfa.strs_one _) (by simp; omega) bl6.size) s7 rfl fun v_8 w8 act8 R d8 s8 hv hr => ?_
    obtain ⟨O_8, _, b_8, G_8, EO_8⟩ := R
    have h0_8 : act8.eval (.tmp 0) = v := (hr 0 rfl).trans h0_7
    have h2_8 : act8.eval (.tmp 2) = .slice none 0 0 := (hr 2 rfl).trans h2_7
    have h4_8 : act8.eval (.tmp 4) = .bool q4 := (hr 4 rfl).trans h4_7
    have h5_8 : act8.eval (.tmp 5) = v_6 := (hr 5 rfl).trans h5_7
    have h6_8 : act8.eval (.tmp 6) = v := (hr 6 rfl).trans h6_7
    have h7_8 : act8.eval (.tmp 7) = v_8 := hv
    have d8 := d8.trans d7
    clear hv hr
    have bl8 := bl6.trans b_8
    have Fin_8 := Eng.Reads.below hx bl8
    have Oa8 : w8.ownsRow w.heap.size 9 1 v_8 l.length (Nfa.strs l) := (by have O := O_8; rw [Nat.zero_add] at O; exact O)
    have Fa8 := Eng.Reads.of_own Oa8
    refine Eng.tail_val rfl rfl rfl (Eng.run_assign rfl h7_8) s8 rfl fun act9 d9 s9 hv hr => ?_
    have h0_9 : act9.eval (.tmp 0) = v := (hr 0 rfl).trans h0_8
    have h4_9 : act9.eval (.tmp 4) = .bool q4 := (hr 4 rfl).trans h4_8
    have h5_9 : act9.eval (.tmp 5) = v_6 := (hr 5 rfl).trans h5_8
    have h6_9 : act9.eval (.tmp 6) = v := (hr 6 rfl).trans h6_8
    have h7_9 : act9.eval (.tmp 7) = v_8 := (hr 7 rfl).trans h7_8
    have h2_9 : act9.eval (.tmp 2) = v_8 := hv
    have d9 := d9.trans d8
    clear hv hr
    refine Eng.tail_nil ?_
    first | show Code.wp Tryd.prog _ _ _ _ | skip
    refine wp_ret ?_
    repeat (first | refine Eng.in_ret ?_ | refine Eng.then_ret ?_)
    exact Eng.ret1 rfl d9 h2_9 ⟨_, rfl, Oa8, bl8⟩
end Go.Proofs.YthgafcaoibfchaaDoor.X
end
