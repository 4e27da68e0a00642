/- Words and walks that the row of LatticeNamesUpto needs: printed by programs, and plain laws. -/
import Derived.Test.YthgafcaoibfchaaDoorM13
import Derived.Test.YthgafcaoibfchaaDoorM7
namespace Go.Proofs.YthgafcaoibfchaaDoor.X
open Go.RowKit Go.Shelf Go.Proofs Go.Proofs.YthgafcaoibfchaaDoorW.PrintWords Go.Proofs.YthgafcaoibfchaaDoorW.PrintLast Go.Proofs.YthgafcaoibfchaaDoorW.PrintMore Go.Proofs.YthgafcaoibfchaaDoor.Spl
set_option linter.unusedVariables false
set_option linter.unusedSimpArgs false
attribute [local go_sem] max2_int min2_int max_two min_two
set_option maxHeartbeats 4000000 in
set_option maxRecDepth 100000 in
theorem Lnm.rparse_not (na nb : Value) (l0 l1 : List ByteArray) (s : ByteArray) (w : World) (F0 : Eng.Reads w na l0.length 1 (Nfa.strs l0)) (F1 : Eng.Reads w nb l1.length 1 (Nfa.strs l1)) (hm : Lpr.mayB l0 l1 = false) : Calls Tryd.prog 30 #[.agg #[na, nb], .string s] w fun e w' => e = .returned (.tuple #[.agg #[.int .i64 (Lnm.parseR l0 l1 (Lpr.bl s)).1, .int .u64 (Lnm.parseR l0 l1 (Lpr.bl s)).2.1], .int .i64 (Lnm.parseR l0 l1 (Lpr.bl s)).2.2]) ∧ Below w.heap.size w w' := by
  have hu28 := Tryd.underlying28
  have hres : Lnm.parseR l0 l1 (Lpr.bl s) = (0, 0, 2) := by unfold Lnm.parseR; rw [if_pos hm]
  refine Eng.enter Tryd.func30 rfl fun act0 d0 s0 v0 => ?_
  have s0 : act0.tmps.size = 86 := s0
  have h0_0 : act0.eval (.tmp 0) = .agg #[na, nb] := v0 0 (by simp)
  have h1_0 : act0.eval (.tmp 1) = .string s := v0 1 (by simp)
  clear v0
  have bl0 : Below w.heap.size w w := Below.refl _ _
  refine wp_seq ?_
  refine Eng.regionS (Eng.still [fun u_ => True, fun u_ => True, fun u_ => u_ = .int .i64 0]) (fun i => ([.alloc 45 #[na, nb], .alloc 28 #[.int .i64 0, .int .u64 0], .plain] : List Eng.Kind).getD i .plain) 3 0 86 s0 rfl (by kernel_rfl) (Eng.still_stable _) (Or.inr (Eng.still_any _)) ?_ ?_
  · refine Eng.Steps.cons (fun _ => ?_) (Eng.Steps.cons (fun _ => ?_) (Eng.Steps.cons (fun _ => ?_) (Eng.Steps.nil)))
    · refine Eng.made rfl (by simp) rfl (fun a w' hd ho => ?_) (fun _ _ => trivial)
      exact Eng.run_box rfl ((ho 0 (by kernel_rfl)).trans h0_0)
    · refine Eng.made rfl (by simp) rfl (fun a w' hd ho => ?_) (fun _ _ => trivial)
      simp only [execOp]
      go_simp
    · refine Eng.plain rfl rfl fun a w' H => ?_
      exact Eng.val (w1 := w') (v := .int .i64 0) (Eng.run_assign rfl (rfl : a.eval (.const (.int .i64 0)) = .int .i64 0)) (Below.refl _ _) rfl
  intro act1 w1 T
  have h0_1 : act1.eval (.tmp 0) = .agg #[na, nb] := (T.rest 0 (by kernel_rfl)).trans h0_0
  have h1_1 : act1.eval (.tmp 1) = .string s := (T.rest 1 (by kernel_rfl)).trans h1_0
  have Fn0_1 := Eng.Reads.below F0 T.below
  have Fn1_1 := Eng.Reads.below F1 T.below
  obtain ⟨g2_1, h2_1, rg2_1, lg2_1_1, kg2_1_1⟩ := T.al 0 2 _ _ rfl rfl rfl (by kernel_rfl)
  have og2_1 : w.heap.size ≤ g2_1 := Nat.le_trans bl0.size rg2_1
  obtain ⟨g4_1, h4_1, rg4_1, lg4_1_1, kg4_1_1⟩ := T.al 1 4 _ _ rfl rfl rfl (by kernel_rfl)
  have og4_1 : w.heap.size ≤ g4_1 := Nat.le_trans bl0.size rg4_1
  have ne_g4_1_g2_1 : g2_1 ≠ g4_1 := T.ne 0 1 2 4 rfl rfl rfl rfl rfl rfl h2_1 h4_1 rfl
  have h5_1 : act1.eval (.tmp 5) = .int .i64 0 := T.done 2 5 rfl rfl
  have d1 := T.defers.trans d0
  have s1 := T.size.trans s0
  have bl1 := bl0.trans (T.below.mono bl0.size)
  clear T
  refine Eng.tail_nil ?_
  first | show Code.wp Tryd.prog _ _ _ _ | skip
  refine wp_seq ?_
  refine wp_seq ?_
  obtain ⟨q14, Bq14⟩ : ∃ b : Bool, b = (Lpr.mayB l0 l1) := ⟨_, rfl⟩
  obtain ⟨q15, Bq15⟩ : ∃ b : Bool, b = (!q14) := ⟨_, rfl⟩
  refine Eng.regionS (Eng.still [fun u_ => u_ = .agg #[na, nb], fun u_ => u_ = .bool q14, fun u_ => u_ = .bool q15]) (fun i => ([.plain, .plain, .plain] : List Eng.Kind).getD i .plain) 3 0 86 s1 rfl (by kernel_rfl) (Eng.still_stable _) (Or.inr (Eng.still_any _)) ?_ ?_
  · refine Eng.Steps.cons (fun _ => ?_) (Eng.Steps.cons (fun _ => ?_) (Eng.Steps.cons (fun _ => ?_) (Eng.Steps.nil)))
    · refine Eng.plain rfl rfl fun a w' H => ?_
      have kb := (H.below.block _ lg2_1_1).trans kg2_1_1
      have z0 : w'.cell? ⟨g2_1, 0, none⟩ = some (na) := (Eng.cells kb 0).trans rfl
      have z1 : w'.cell? ⟨g2_1, 1, none⟩ = some (nb) := (Eng.cells kb 1).trans rfl
      refine Eng.val (w1 := w') (v := .agg #[na, nb]) ?_ (Below.refl _ _) rfl
      have e0 : a.eval (.tmp 2) = .pointer (some ⟨g2_1, 0, none⟩) := ((H.kept 2 (by kernel_rfl)).trans h2_1)
      simp only [execOp, resolve, List.map_toArray, List.map_cons, List.map_nil, e0]
      go_simp
      all_goals first | rfl | (simp; done) | (rw [Bool.eq_iff_iff]; simp; done) | omega | (split <;> first | (simp_all; done) | (split <;> simp_all; done)) | skip
    · refine Eng.plain rfl rfl fun a w' H => ?_
      refine Eng.call Tryd.func32 (by kernel_rfl) (by kernel_rfl) rfl #[.agg #[na, nb]] ?_ ?_
      · have e0 : a.eval (.tmp 13) = .agg #[na, nb] := (H.dep 0 13 (by kernel_rfl) rfl); simp only [List.map_toArray, List.map_cons, List.map_nil, e0]
      refine (Lnm.may_calls na nb l0 l1 _ (Eng.Reads.below Fn0_1 H.below) (Eng.Reads.below Fn1_1 H.below)).mono ?_
      rintro e w'' ⟨rfl, hb⟩
      exact ⟨_, rfl, (by show _ = Value.bool q14; rw [Bq14]), hb⟩
    · refine Eng.plain rfl rfl fun a w' H => ?_
      exact Eng.val (w1 := w') (v := .bool (!q14)) (Eng.run_not rfl (H.dep 1 14 (by kernel_rfl) rfl)) (Below.refl _ _) (by show _ = Value.bool q15; rw [Bq15])
  intro act2 w2 T
  have h0_2 : act2.eval (.tmp 0) = .agg #[na, nb] := (T.rest 0 (by kernel_rfl)).trans h0_1
  have h1_2 : act2.eval (.tmp 1) = .string s := (T.rest 1 (by kernel_rfl)).trans h1_1
  have h2_2 : act2.eval (.tmp 2) = .pointer (some ⟨g2_1, 0, none⟩) := (T.rest 2 (by kernel_rfl)).trans h2_1
  have h4_2 : act2.eval (.tmp 4) = .pointer (some ⟨g4_1, 0, none⟩) := (T.rest 4 (by kernel_rfl)).trans h4_1
  have h5_2 : act2.eval (.tmp 5) = .int .i64 0 := (T.rest 5 (by kernel_rfl)).trans h5_1
  have kg2_1_2 := (T.below.block _ lg2_1_1).trans kg2_1_1
  have lg2_1_2 := Nat.lt_of_lt_of_le lg2_1_1 T.below.size
  have kg4_1_2 := (T.below.block _ lg4_1_1).trans kg4_1_1
  have lg4_1_2 := Nat.lt_of_lt_of_le lg4_1_1 T.below.size
  have Fn0_2 := Eng.Reads.below Fn0_1 T.below
  have Fn1_2 := Eng.Reads.below Fn1_1 T.below
  have h15_2 : act2.eval (.tmp 15) = .bool q15 := T.done 2 15 rfl rfl
  have d2 := T.defers.trans d1
  have s2 := T.size.trans s1
  have bl2 := bl1.trans (T.below.mono bl1.size)
  clear T
  refine Eng.tail_nil ?_
  first | show Code.wp Tryd.prog _ _ _ _ | skip
  have n15 : q15 = true := by
    try simp only [Bq15, Bq14]
    rw [hm]
    rfl
  refine wp_cond_true (h15_2.trans (by rw [n15])) ?_
  refine wp_seq ?_
  refine Eng.regionS (Eng.still [fun u_ => u_ = .agg #[.int .i64 0, .int .u64 0]]) (fun i => ([.plain] : List Eng.Kind).getD i .plain) 1 2 86 s2 rfl (by kernel_rfl) (Eng.still_stable _) (Or.inr (Eng.still_any _)) ?_ ?_
  · refine Eng.Steps.cons (fun _ => ?_) (Eng.Steps.cons (fun hlt => ?_) (Eng.Steps.cons (fun hlt => ?_) (Eng.Steps.nil)))
    · refine Eng.plain rfl rfl fun a w' H => ?_
      refine Eng.val (w1 := w') (v := .agg #[.int .i64 0, .int .u64 0]) ?_ (Below.refl _ _) rfl
      simp only [execOp, resolve, List.map_toArray, List.map_cons, List.map_nil]
      go_simp
      all_goals first | rfl | (simp; done) | (rw [Bool.eq_iff_iff]; simp; done) | omega | skip
    · exact absurd hlt (by decide)
    · exact absurd hlt (by decide)
  intro act3 w3 T
  have h0_3 : act3.eval (.tmp 0) = .agg #[na, nb] := (T.rest 0 (by kernel_rfl)).trans h0_2
  have h1_3 : act3.eval (.tmp 1) = .string s := (T.rest 1 (by kernel_rfl)).trans h1_2
  have h2_3 : act3.eval (.tmp 2) = .pointer (some ⟨g2_1, 0, none⟩) := (T.rest 2 (by kernel_rfl)).trans h2_2
  have h4_3 : act3.eval (.tmp 4) = .pointer (some ⟨g4_1, 0, none⟩) := (T.rest 4 (by kernel_rfl)).trans h4_2
  have h5_3 : act3.eval (.tmp 5) = .int .i64 0 := (T.rest 5 (by kernel_rfl)).trans h5_2
  have h15_3 : act3.eval (.tmp 15) = .bool q15 := (T.rest 15 (by kernel_rfl)).trans h15_2
  have kg2_1_3 := (T.below.block _ lg2_1_2).trans kg2_1_2
  have lg2_1_3 := Nat.lt_of_lt_of_le lg2_1_2 T.below.size
  have kg4_1_3 := (T.below.block _ lg4_1_2).trans kg4_1_2
  have lg4_1_3 := Nat.lt_of_lt_of_le lg4_1_2 T.below.size
  have Fn0_3 := Eng.Reads.below Fn0_2 T.below
  have Fn1_3 := Eng.Reads.below Fn1_2 T.below
  have h16_3 : act3.eval (.tmp 16) = .agg #[.int .i64 0, .int .u64 0] := T.done 0 16 rfl rfl
  have d3 := T.defers.trans d2
  have s3 := T.size.trans s2
  have bl3 := bl2.trans (T.below.mono bl2.size)
  clear T
  refine Eng.tail_put [.int .i64 0, .int .u64 0] (n := 0) (new := #[.int .i64 0, .int .u64 0]) rfl rfl rfl kg4_1_3 rfl ?_ fun w4 S => ?_
  · have e0 : act3.eval (.tmp 4) = .pointer (some ⟨g4_1, 0, none⟩) := h4_3
    have e1 : act3.eval (.tmp 16) = .agg #[.int .i64 0, .int .u64 0] := h16_3
    have z0 := (Eng.cells kg4_1_3 (0)).trans (rfl)
    have f0 := Eng.unfrozen kg4_1_3 (0)
    have z1 := (Eng.cells kg4_1_3 (1)).trans (rfl)
    have f1 := Eng.unfrozen kg4_1_3 (1)
    simp only [execOp]
    rw [e0, e1]
    go_simp
    try rfl
  have kg2_1_4 := (S.far _ ne_g4_1_g2_1).trans kg2_1_3
  have lg2_1_4 := Nat.lt_of_lt_of_eq lg2_1_3 S.size.symm
  have kg4_1_4 := S.new
  have lg4_1_4 := Nat.lt_of_lt_of_eq lg4_1_3 S.size.symm
  have bl4 := S.below bl3 og4_1
  have Fn0_4 := Eng.Reads.below F0 bl4
  have Fn1_4 := Eng.Reads.below F1 bl4
  clear S
  refine Eng.tail_val rfl rfl rfl (Eng.run_assign rfl (rfl : act3.eval (.const (.int .i64 2)) = .int .i64 2)) s3 rfl fun act5 d5 s5 hv hr => ?_
  have h0_5 : act5.eval (.tmp 0) = .agg #[na, nb] := (hr 0 rfl).trans h0_3
  have h1_5 : act5.eval (.tmp 1) = .string s := (hr 1 rfl).trans h1_3
  have h2_5 : act5.eval (.tmp 2) = .pointer (some ⟨g2_1, 0, none⟩) := (hr 2 rfl).trans h2_3
  have h4_5 : act5.eval (.tmp 4) = .pointer (some ⟨g4_1, 0, none⟩) := (hr 4 rfl).trans h4_3
  have h15_5 : act5.eval (.tmp 15) = .bool q15 := (hr 15 rfl).trans h15_3
  have h16_5 : act5.eval (.tmp 16) = .agg #[.int .i64 0, .int .u64 0] := (hr 16 rfl).trans h16_3
  have h5_5 : act5.eval (.tmp 5) = .int .i64 2 := hv
  have d5 := d5.trans d3
  clear hv hr
  refine Eng.tail_nil ?_
  first | show Code.wp Tryd.prog _ _ _ _ | skip
  refine wp_ret ?_
  repeat (first | refine Eng.in_ret ?_ | refine Eng.then_ret ?_)
  exact Eng.retct rfl d5 h4_5 kg4_1_4 Tryd.underlying28 rfl (by kernel_rfl) h5_5 ⟨by rw [hres], bl4⟩
set_option maxHeartbeats 4000000 in
set_option maxRecDepth 100000 in
theorem Lnm.rparse_may (na nb : Value) (l0 l1 : List ByteArray) (s : ByteArray) (w : World) (F0 : Eng.Reads w na l0.length 1 (Nfa.strs l0)) (F1 : Eng.Reads w nb l1.length 1 (Nfa.strs l1)) (hm : Lpr.mayB l0 l1 = true) (hs : s.size ≤ 1000000) : Calls Tryd.prog 30 #[.agg #[na, nb], .string s] w fun e w' => e = .returned (.tuple #[.agg #[.int .i64 (Lnm.parseR l0 l1 (Lpr.bl s)).1, .int .u64 (Lnm.parseR l0 l1 (Lpr.bl s)).2.1], .int .i64 (Lnm.parseR l0 l1 (Lpr.bl s)).2.2]) ∧ Below w.heap.size w w' := by
  have hu28 := Tryd.underlying28
  have hal := Lnm.allW_len s
  have hlim := (Lpr.may_ok hm).1
  have hpar : Lnm.parseR l0 l1 (Lpr.bl s) = if Lpr.bl s = [] ∨ Lpr.printB l0 l1 (place l0 ((Lnm.wordsOf (Lpr.bl s)).getD 0 [])) (Lat.ofL (Lnm.inB l1 (List.replicate 64 false) ((Lnm.wordsOf (Lpr.bl s)).drop 1))) ≠ Lpr.bl s then (0, 0, 17) else (place l0 ((Lnm.wordsOf (Lpr.bl s)).getD 0 []), Lat.ofL (Lnm.inB l1 (List.replicate 64 false) ((Lnm.wordsOf (Lpr.bl s)).drop 1)), 0) := by unfold Lnm.parseR; rw [if_neg (by rw [hm]; simp)]
  refine Eng.enter Tryd.func30 rfl fun act0 d0 s0 v0 => ?_
  have s0 : act0.tmps.size = 86 := s0
  have h0_0 : act0.eval (.tmp 0) = .agg #[na, nb] := v0 0 (by simp)
  have h1_0 : act0.eval (.tmp 1) = .string s := v0 1 (by simp)
  clear v0
  have bl0 : Below w.heap.size w w := Below.refl _ _
  refine wp_seq ?_
  refine Eng.regionS (Eng.still [fun u_ => True, fun u_ => True, fun u_ => u_ = .int .i64 0]) (fun i => ([.alloc 45 #[na, nb], .alloc 28 #[.int .i64 0, .int .u64 0], .plain] : List Eng.Kind).getD i .plain) 3 0 86 s0 rfl (by kernel_rfl) (Eng.still_stable _) (Or.inr (Eng.still_any _)) ?_ ?_
  · refine Eng.Steps.cons (fun _ => ?_) (Eng.Steps.cons (fun _ => ?_) (Eng.Steps.cons (fun _ => ?_) (Eng.Steps.nil)))
    · refine Eng.made rfl (by simp) rfl (fun a w' hd ho => ?_) (fun _ _ => trivial)
      exact Eng.run_box rfl ((ho 0 (by kernel_rfl)).trans h0_0)
    · refine Eng.made rfl (by simp) rfl (fun a w' hd ho => ?_) (fun _ _ => trivial)
      simp only [execOp]
      go_simp
    · refine Eng.plain rfl rfl fun a w' H => ?_
      exact Eng.val (w1 := w') (v := .int .i64 0) (Eng.run_assign rfl (rfl : a.eval (.const (.int .i64 0)) = .int .i64 0)) (Below.refl _ _) rfl
  intro act1 w1 T
  have h0_1 : act1.eval (.tmp 0) = .agg #[na, nb] := (T.rest 0 (by kernel_rfl)).trans h0_0
  have h1_1 : act1.eval (.tmp 1) = .string s := (T.rest 1 (by kernel_rfl)).trans h1_0
  have Fn0_1 := Eng.Reads.below F0 T.below
  have Fn1_1 := Eng.Reads.below F1 T.below
  obtain ⟨g2_1, h2_1, rg2_1, lg2_1_1, kg2_1_1⟩ := T.al 0 2 _ _ rfl rfl rfl (by kernel_rfl)
  have og2_1 : w.heap.size ≤ g2_1 := Nat.le_trans bl0.size rg2_1
  obtain ⟨g4_1, h4_1, rg4_1, lg4_1_1, kg4_1_1⟩ := T.al 1 4 _ _ rfl rfl rfl (by kernel_rfl)
  have og4_1 : w.heap.size ≤ g4_1 := Nat.le_trans bl0.size rg4_1
  have ne_g4_1_g2_1 : g2_1 ≠ g4_1 := T.ne 0 1 2 4 rfl rfl rfl rfl rfl rfl h2_1 h4_1 rfl
  have h5_1 : act1.eval (.tmp 5) = .int .i64 0 := T.done 2 5 rfl rfl
  have d1 := T.defers.trans d0
  have s1 := T.size.trans s0
  have bl1 := bl0.trans (T.below.mono bl0.size)
  clear T
  refine Eng.tail_nil ?_
  first | show Code.wp Tryd.prog _ _ _ _ | skip
  refine wp_seq ?_
  refine wp_seq ?_
  obtain ⟨q14, Bq14⟩ : ∃ b : Bool, b = (Lpr.mayB l0 l1) := ⟨_, rfl⟩
  obtain ⟨q15, Bq15⟩ : ∃ b : Bool, b = (!q14) := ⟨_, rfl⟩
  refine Eng.regionS (Eng.still [fun u_ => u_ = .agg #[na, nb], fun u_ => u_ = .bool q14, fun u_ => u_ = .bool q15]) (fun i => ([.plain, .plain, .plain] : List Eng.Kind).getD i .plain) 3 0 86 s1 rfl (by kernel_rfl) (Eng.still_stable _) (Or.inr (Eng.still_any _)) ?_ ?_
  · refine Eng.Steps.cons (fun _ => ?_) (Eng.Steps.cons (fun _ => ?_) (Eng.Steps.cons (fun _ => ?_) (Eng.Steps.nil)))
    · refine Eng.plain rfl rfl fun a w' H => ?_
      have kb := (H.below.block _ lg2_1_1).trans kg2_1_1
      have z0 : w'.cell? ⟨g2_1, 0, none⟩ = some (na) := (Eng.cells kb 0).trans rfl
      have z1 : w'.cell? ⟨g2_1, 1, none⟩ = some (nb) := (Eng.cells kb 1).trans rfl
      refine Eng.val (w1 := w') (v := .agg #[na, nb]) ?_ (Below.refl _ _) rfl
      have e0 : a.eval (.tmp 2) = .pointer (some ⟨g2_1, 0, none⟩) := ((H.kept 2 (by kernel_rfl)).trans h2_1)
      simp only [execOp, resolve, List.map_toArray, List.map_cons, List.map_nil, e0]
      go_simp
      all_goals first | rfl | (simp; done) | (rw [Bool.eq_iff_iff]; simp; done) | omega | (split <;> first | (simp_all; done) | (split <;> simp_all; done)) | skip
    · refine Eng.plain rfl rfl fun a w' H => ?_
      refine Eng.call Tryd.func32 (by kernel_rfl) (by kernel_rfl) rfl #[.agg #[na, nb]] ?_ ?_
      · have e0 : a.eval (.tmp 13) = .agg #[na, nb] := (H.dep 0 13 (by kernel_rfl) rfl); simp only [List.map_toArray, List.map_cons, List.map_nil, e0]
      refine (Lnm.may_calls na nb l0 l1 _ (Eng.Reads.below Fn0_1 H.below) (Eng.Reads.below Fn1_1 H.below)).mono ?_
      rintro e w'' ⟨rfl, hb⟩
      exact ⟨_, rfl, (by show _ = Value.bool q14; rw [Bq14]), hb⟩
    · refine Eng.plain rfl rfl fun a w' H => ?_
      exact Eng.val (w1 := w') (v := .bool (!q14)) (Eng.run_not rfl (H.dep 1 14 (by kernel_rfl) rfl)) (Below.refl _ _) (by show _ = Value.bool q15; rw [Bq15])
  intro act2 w2 T
  have h0_2 : act2.eval (.tmp 0) = .agg #[na, nb] := (T.rest 0 (by kernel_rfl)).trans h0_1
  have h1_2 : act2.eval (.tmp 1) = .string s := (T.rest 1 (by kernel_rfl)).trans h1_1
  have h2_2 : act2.eval (.tmp 2) = .pointer (some ⟨g2_1, 0, none⟩) := (T.rest 2 (by kernel_rfl)).trans h2_1
  have h4_2 : act2.eval (.tmp 4) = .pointer (some ⟨g4_1, 0, none⟩) := (T.rest 4 (by kernel_rfl)).trans h4_1
  have h5_2 : act2.eval (.tmp 5) = .int .i64 0 := (T.rest 5 (by kernel_rfl)).trans h5_1
  have kg2_1_2 := (T.below.block _ lg2_1_1).trans kg2_1_1
  have lg2_1_2 := Nat.lt_of_lt_of_le lg2_1_1 T.below.size
  have kg4_1_2 := (T.below.block _ lg4_1_1).trans kg4_1_1
  have lg4_1_2 := Nat.lt_of_lt_of_le lg4_1_1 T.below.size
  have Fn0_2 := Eng.Reads.below Fn0_1 T.below
  have Fn1_2 := Eng.Reads.below Fn1_1 T.below
  have h15_2 : act2.eval (.tmp 15) = .bool q15 := T.done 2 15 rfl rfl
  have d2 := T.defers.trans d1
  have s2 := T.size.trans s1
  have bl2 := bl1.trans (T.below.mono bl1.size)
  clear T
  refine Eng.tail_nil ?_
  first | show Code.wp Tryd.prog _ _ _ _ | skip
  have n15 : q15 = false := by
    try simp only [Bq15, Bq14]
    rw [hm]
    rfl
  refine wp_cond_false (h15_2.trans (by rw [n15])) ?_
  refine wp_skip ?_
  first | show Code.wp Tryd.prog _ _ _ _ | skip
  refine wp_seq ?_
  refine Eng.regionS (Eng.still [fun u_ => u_ = .slice none 0 0]) (fun i => ([.plain] : List Eng.Kind).getD i .plain) 1 0 86 s2 rfl (by kernel_rfl) (Eng.still_stable _) (Or.inr (Eng.still_any _)) ?_ ?_
  · refine Eng.Steps.cons (fun _ => ?_) (Eng.Steps.nil)
    · refine Eng.plain rfl rfl fun a w' H => ?_
      exact Eng.val (w1 := w') (v := .slice none 0 0) (Eng.run_assign rfl (rfl : a.eval (.const (.slice none 0 0)) = .slice none 0 0)) (Below.refl _ _) rfl
  intro act3 w3 T
  have h0_3 : act3.eval (.tmp 0) = .agg #[na, nb] := (T.rest 0 (by kernel_rfl)).trans h0_2
  have h1_3 : act3.eval (.tmp 1) = .string s := (T.rest 1 (by kernel_rfl)).trans h1_2
  have h2_3 : act3.eval (.tmp 2) = .pointer (some ⟨g2_1, 0, none⟩) := (T.rest 2 (by kernel_rfl)).trans h2_2
  have h4_3 : act3.eval (.tmp 4) = .pointer (some ⟨g4_1, 0, none⟩) := (T.rest 4 (by kernel_rfl)).trans h4_2
  have h5_3 : act3.eval (.tmp 5) = .int .i64 0 := (T.rest 5 (by kernel_rfl)).trans h5_2
  have h15_3 : act3.eval (.tmp 15) = .bool q15 := (T.rest 15 (by kernel_rfl)).trans h15_2
  have kg2_1_3 := (T.below.block _ lg2_1_2).trans kg2_1_2
  have lg2_1_3 := Nat.lt_of_lt_of_le lg2_1_2 T.below.size
  have kg4_1_3 := (T.below.block _ lg4_1_2).trans kg4_1_2
  have lg4_1_3 := Nat.lt_of_lt_of_le lg4_1_2 T.below.size
  have Fn0_3 := Eng.Reads.below Fn0_2 T.below
  have Fn1_3 := Eng.Reads.below Fn1_2 T.below
  have h6_3 : act3.eval (.tmp 6) = .slice none 0 0 := T.done 0 6 rfl rfl
  have d3 := T.defers.trans d2
  have s3 := T.size.trans s2
  have bl3 := bl2.trans (T.below.mono bl2.size)
  clear T
  refine Eng.tail_nil ?_
  first | show Code.wp Tryd.prog _ _ _ _ | skip
  refine wp_seq ?_
  refine Eng.regionS (Eng.still [fun u_ => u_ = .string ⟨#[]⟩]) (fun i => ([.plain] : List Eng.Kind).getD i .plain) 1 0 86 s3 rfl (by kernel_rfl) (Eng.still_stable _) (Or.inr (Eng.still_any _)) ?_ ?_
  · refine Eng.Steps.cons (fun _ => ?_) (Eng.Steps.nil)
    · refine Eng.plain rfl rfl fun a w' H => ?_
      exact Eng.val (w1 := w') (v := .string ⟨#[]⟩) (Eng.run_assign rfl (rfl : a.eval (.const (.string ⟨#[]⟩)) = .string ⟨#[]⟩)) (Below.refl _ _) rfl
  intro act4 w4 T
  have h0_4 : act4.eval (.tmp 0) = .agg #[na, nb] := (T.rest 0 (by kernel_rfl)).trans h0_3
  have h1_4 : act4.eval (.tmp 1) = .string s := (T.rest 1 (by kernel_rfl)).trans h1_3
  have h2_4 : act4.eval (.tmp 2) = .pointer (some ⟨g2_1, 0, none⟩) := (T.rest 2 (by kernel_rfl)).trans h2_3
  have h4_4 : act4.eval (.tmp 4) = .pointer (some ⟨g4_1, 0, none⟩) := (T.rest 4 (by kernel_rfl)).trans h4_3
  have h5_4 : act4.eval (.tmp 5) = .int .i64 0 := (T.rest 5 (by kernel_rfl)).trans h5_3
  have h6_4 : act4.eval (.tmp 6) = .slice none 0 0 := (T.rest 6 (by kernel_rfl)).trans h6_3
  have h15_4 : act4.eval (.tmp 15) = .bool q15 := (T.rest 15 (by kernel_rfl)).trans h15_3
  have kg2_1_4 := (T.below.block _ lg2_1_3).trans kg2_1_3
  have lg2_1_4 := Nat.lt_of_lt_of_le lg2_1_3 T.below.size
  have kg4_1_4 := (T.below.block _ lg4_1_3).trans kg4_1_3
  have lg4_1_4 := Nat.lt_of_lt_of_le lg4_1_3 T.below.size
  have Fn0_4 := Eng.Reads.below Fn0_3 T.below
  have Fn1_4 := Eng.Reads.below Fn1_3 T.below
  have h7_4 : act4.eval (.tmp 7) = .string ⟨#[]⟩ := T.done 0 7 rfl rfl
  have d4 := T.defers.trans d3
  have s4 := T.size.trans s3
  have bl4 := bl3.trans (T.below.mono bl3.size)
  clear T
  refine Eng.tail_nil ?_
  first | show Code.wp Tryd.prog _ _ _ _ | skip
  refine wp_seq ?_
  refine wp_seq ?_
  refine Eng.regionS (Eng.still [fun u_ => u_ = .int .i64 0]) (fun i => ([.plain] : List Eng.Kind).getD i .plain) 1 0 86 s4 rfl (by kernel_rfl) (Eng.still_stable _) (Or.inr (Eng.still_any _)) ?_ ?_
  · refine Eng.Steps.cons (fun _ => ?_) (Eng.Steps.nil)
    · refine Eng.plain rfl rfl fun a w' H => ?_
      exact Eng.val (w1 := w') (v := .int .i64 0) (Eng.run_assign rfl (rfl : a.eval (.const (.int .i64 0)) = .int .i64 0)) (Below.refl _ _) rfl
  intro act5 w5 T
  have h0_5 : act5.eval (.tmp 0) = .agg #[na, nb] := (T.rest 0 (by kernel_rfl)).trans h0_4
  have h1_5 : act5.eval (.tmp 1) = .string s := (T.rest 1 (by kernel_rfl)).trans h1_4
  have h2_5 : act5.eval (.tmp 2) = .pointer (some ⟨g2_1, 0, none⟩) := (T.rest 2 (by kernel_rfl)).trans h2_4
  have h4_5 : act5.eval (.tmp 4) = .pointer (some ⟨g4_1, 0, none⟩) := (T.rest 4 (by kernel_rfl)).trans h4_4
  have h5_5 : act5.eval (.tmp 5) = .int .i64 0 := (T.rest 5 (by kernel_rfl)).trans h5_4
  have h6_5 : act5.eval (.tmp 6) = .slice none 0 0 := (T.rest 6 (by kernel_rfl)).trans h6_4
  have h7_5 : act5.eval (.tmp 7) = .string ⟨#[]⟩ := (T.rest 7 (by kernel_rfl)).trans h7_4
  have h15_5 : act5.eval (.tmp 15) = .bool q15 := (T.rest 15 (by kernel_rfl)).trans h15_4
  have kg2_1_5 := (T.below.block _ lg2_1_4).trans kg2_1_4
  have lg2_1_5 := Nat.lt_of_lt_of_le lg2_1_4 T.below.size
  have kg4_1_5 := (T.below.block _ lg4_1_4).trans kg4_1_4
  have lg4_1_5 := Nat.lt_of_lt_of_le lg4_1_4 T.below.size
  have Fn0_5 := Eng.Reads.below Fn0_4 T.below
  have Fn1_5 := Eng.Reads.below Fn1_4 T.below
  have h8_5 : act5.eval (.tmp 8) = .int .i64 0 := T.done 0 8 rfl rfl
  have d5 := T.defers.trans d4
  have s5 := T.size.trans s4
  have bl5 := bl4.trans (T.below.mono bl4.size)
  clear T
  refine Eng.tail_nil ?_
  first | show Code.wp Tryd.prog _ _ _ _ | skip
  refine wp_block ?_
  refine Eng.loopN (fun n a w' => ∃ (k : Nat) (v6 : Value), s.size - k = n ∧ (k ≤ s.size) ∧ (w'.ownsRow w.heap.size 9 1 v6 (Lnm.ws s k).length (Nfa.strs (Lnm.ws s k))) ∧ a.defers = [] ∧ a.tmps.size = 86 ∧ Below w.heap.size w w' ∧ a.eval (.tmp 0) = .agg #[na, nb] ∧ a.eval (.tmp 1) = .string s ∧ a.eval (.tmp 2) = .pointer (some ⟨g2_1, 0, none⟩) ∧ a.eval (.tmp 4) = .pointer (some ⟨g4_1, 0, none⟩) ∧ a.eval (.tmp 5) = .int .i64 0 ∧ a.eval (.tmp 6) = v6 ∧ a.eval (.tmp 7) = .string (Lnm.wd s k) ∧ a.eval (.tmp 8) = .int .i64 (k : Nat) ∧ a.eval (.tmp 15) = .bool q15 ∧ w'.heap[g2_1]? = some (.cells (#[na, nb]) 45 (0, 0)) ∧ g2_1 < w'.heap.size ∧ w'.heap[g4_1]? = some (.cells (#[.int .i64 0, .int .u64 0]) 28 (0, 0)) ∧ g4_1 < w'.heap.size) (n0 := s.size - 0) ?_ ?_
  · exact ⟨0, .slice none 0 0, rfl, by omega, World.ownsRow_nil _ _ _ _, d5, s5, bl5, h0_5, h1_5, h2_5, h4_5, h5_5, (h6_5.trans (by first | rfl | (congr 1; rw [Eng.i64_id (by omega) (by omega)]; omega) | (rw [Lnm.wd_put hk0 hsep]; done) | (rw [Lnm.wd_not hk0 hsep]; done) | (simp; done))), (h7_5.trans (by first | rfl | (congr 1; rw [Eng.i64_id (by omega) (by omega)]; omega) | (rw [Lnm.wd_put hk0 hsep]; done) | (rw [Lnm.wd_not hk0 hsep]; done) | (simp; done))), (h8_5.trans (by first | rfl | (congr 1; rw [Eng.i64_id (by omega) (by omega)]; omega) | (rw [Lnm.wd_put hk0 hsep]; done) | (rw [Lnm.wd_not hk0 hsep]; done) | (simp; done))), h15_5, kg2_1_5, lg2_1_5, kg4_1_5, lg4_1_5⟩
  rintro n act6 w6 ⟨k, v6, rfl, hc0_6, hc1_6, d6, s6, bl6, h0_6, h1_6, h2_6, h4_6, h5_6, h6_6, h7_6, h8_6, h15_6, kg2_1_6, lg2_1_6, kg4_1_6, lg4_1_6⟩
  have Fn0_6 := Eng.Reads.below F0 bl6
  have Fn1_6 := Eng.Reads.below F1 bl6
  have hk1 := hc0_6
  have Ft_6 := Eng.Reads.of_own hc1_6
  refine wp_seq ?_
  refine wp_seq ?_
  obtain ⟨q20, Bq20⟩ : ∃ b : Bool, b = (decide ((k : Nat) < (s.size : Int))) := ⟨_, rfl⟩
  refine Eng.regionS (Eng.still [fun u_ => u_ = .int .i64 (k : Nat), fun u_ => u_ = .string s, fun u_ => u_ = .int .i64 (s.size : Int), fun u_ => u_ = .bool q20]) (fun i => ([.plain, .plain, .plain, .plain] : List Eng.Kind).getD i .plain) 4 0 86 s6 rfl (by kernel_rfl) (Eng.still_stable _) (Or.inr (Eng.still_any _)) ?_ ?_
  · refine Eng.Steps.cons (fun _ => ?_) (Eng.Steps.cons (fun _ => ?_) (Eng.Steps.cons (fun _ => ?_) (Eng.Steps.cons (fun _ => ?_) (Eng.Steps.nil))))
    · refine Eng.plain rfl rfl fun a w' H => ?_
      exact Eng.val (w1 := w') (v := .int .i64 (k : Nat)) (Eng.run_move rfl ((H.kept 8 (by kernel_rfl)).trans h8_6)) (Below.refl _ _) rfl
    · refine Eng.plain rfl rfl fun a w' H => ?_
      exact Eng.val (w1 := w') (v := .string s) (Eng.run_move rfl ((H.kept 1 (by kernel_rfl)).trans h1_6)) (Below.refl _ _) rfl
    · refine Eng.plain rfl rfl fun a w' H => ?_
      refine Eng.val (w1 := w') (v := .int .i64 (s.size : Int)) ?_ (Below.refl _ _) rfl
      have e0 : a.eval (.tmp 18) = .string s := (H.dep 1 18 (by kernel_rfl) rfl)
      simp only [execOp, resolve, List.map_toArray, List.map_cons, List.map_nil, e0]
      go_simp
      all_goals first | rfl | (simp; done) | (rw [Bool.eq_iff_iff]; simp; done) | omega | (split <;> first | (simp_all; done) | (split <;> simp_all; done)) | skip
    · refine Eng.plain rfl rfl fun a w' H => ?_
      refine Eng.val (w1 := w') (v := .bool (decide ((k : Nat) < (s.size : Int)))) ?_ (Below.refl _ _) (by show _ = Value.bool q20; rw [Bq20])
      have e0 : a.eval (.tmp 17) = .int .i64 (k : Nat) := (H.dep 0 17 (by kernel_rfl) rfl)
      have e1 : a.eval (.tmp 19) = .int .i64 (s.size : Int) := (H.dep 2 19 (by kernel_rfl) rfl)
      simp only [execOp, resolve, List.map_toArray, List.map_cons, List.map_nil, e0, e1]
      go_simp
      all_goals first | rfl | (simp; done) | (rw [Bool.eq_iff_iff]; simp; done) | omega | (split <;> first | (simp_all; done) | (split <;> simp_all; done)) | skip
  intro act7 w7 T
  have h0_7 : act7.eval (.tmp 0) = .agg #[na, nb] := (T.rest 0 (by kernel_rfl)).trans h0_6
  have h1_7 : act7.eval (.tmp 1) = .string s := (T.rest 1 (by kernel_rfl)).trans h1_6
  have h2_7 : act7.eval (.tmp 2) = .pointer (some ⟨g2_1, 0, none⟩) := (T.rest 2 (by kernel_rfl)).trans h2_6
  have h4_7 : act7.eval (.tmp 4) = .pointer (some ⟨g4_1, 0, none⟩) := (T.rest 4 (by kernel_rfl)).trans h4_6
  have h5_7 : act7.eval (.tmp 5) = .int .i64 0 := (T.rest 5 (by kernel_rfl)).trans h5_6
  have h6_7 : act7.eval (.tmp 6) = v6 := (T.rest 6 (by kernel_rfl)).trans h6_6
  have h7_7 : act7.eval (.tmp 7) = .string (Lnm.wd s k) := (T.rest 7 (by kernel_rfl)).trans h7_6
  have h8_7 : act7.eval (.tmp 8) = .int .i64 (k : Nat) := (T.rest 8 (by kernel_rfl)).trans h8_6
  have h15_7 : act7.eval (.tmp 15) = .bool q15 := (T.rest 15 (by kernel_rfl)).trans h15_6
  have kg2_1_7 := (T.below.block _ lg2_1_6).trans kg2_1_6
  have lg2_1_7 := Nat.lt_of_lt_of_le lg2_1_6 T.below.size
  have kg4_1_7 := (T.below.block _ lg4_1_6).trans kg4_1_6
  have lg4_1_7 := Nat.lt_of_lt_of_le lg4_1_6 T.below.size
  have Fn0_7 := Eng.Reads.below Fn0_6 T.below
  have Fn1_7 := Eng.Reads.below Fn1_6 T.below
  have Ft_7 := Eng.Reads.below Ft_6 T.below
  have Ot_7 := Eng.own_below hc1_6 T.below
  have h20_7 : act7.eval (.tmp 20) = .bool q20 := T.done 3 20 rfl rfl
  have d7 := T.defers.trans d6
  have s7 := T.size.trans s6
  have bl7 := bl6.trans (T.below.mono bl6.size)
  clear T
  refine Eng.tail_nil ?_
  first | show Code.wp Tryd.prog _ _ _ _ | skip
  refine wp_cond_split h20_7 (fun hq => ?_) (fun hq => ?_)
  ·
    have kn8 := hq
    have c20 := Bq20.symm.trans hq
    clear hq
    have c20 := of_decide_eq_true c20
    have hk0 : k < s.size := by omega
    refine wp_skip ?_
    first | show Code.wp Tryd.prog _ _ _ _ | skip
    refine wp_seq ?_
    refine wp_block ?_
    refine wp_seq ?_
    obtain ⟨q26, Bq26⟩ : ∃ b : Bool, b = (((Lnm.byteAt s k : Nat) : Int) == 58) := ⟨_, rfl⟩
    obtain ⟨q31, Bq31⟩ : ∃ b : Bool, b = (((Lnm.byteAt s k : Nat) : Int) == 44) := ⟨_, rfl⟩
    obtain ⟨q32, Bq32⟩ : ∃ b : Bool, b = (q26 || q31) := ⟨_, rfl⟩
    refine Eng.regionS (Eng.still [fun u_ => u_ = .string s, fun u_ => u_ = .int .i64 (k : Nat), fun u_ => u_ = .int .u8 ((Lnm.byteAt s k : Nat) : Int), fun u_ => u_ = .bool q26, fun u_ => u_ = .bool q26, fun u_ => u_ = bif (q26 == false) then (.string s) else undef, fun u_ => u_ = bif (q26 == false) then (.int .i64 (k : Nat)) else undef, fun u_ => u_ = bif (q26 == false) then (.int .u8 ((Lnm.byteAt s k : Nat) : Int)) else undef, fun u_ => u_ = bif (q26 == false) then (.bool q31) else undef, fun u_ => u_ = .bool q32]) (fun i => ([.plain, .plain, .plain, .plain, .plain, .plain, .plain, .plain, .plain, .plain] : List Eng.Kind).getD i .plain) 10 0 86 s7 rfl (by kernel_rfl) (Eng.still_stable _) (Or.inr (Eng.still_any _)) ?_ ?_
    · refine Eng.Steps.cons (fun _ => ?_) (Eng.Steps.cons (fun _ => ?_) (Eng.Steps.cons (fun _ => ?_) (Eng.Steps.cons (fun _ => ?_) (Eng.Steps.cons (fun _ => ?_) (Eng.Steps.cons (fun _ => ?_) (Eng.Steps.cons (fun _ => ?_) (Eng.Steps.cons (fun _ => ?_) (Eng.Steps.cons (fun _ => ?_) (Eng.Steps.cons (fun _ => ?_) (Eng.Steps.nil))))))))))
      · refine Eng.plain rfl rfl fun a w' H => ?_
        exact Eng.val (w1 := w') (v := .string s) (Eng.run_move rfl ((H.kept 1 (by kernel_rfl)).trans h1_7)) (Below.refl _ _) rfl
      · refine Eng.plain rfl rfl fun a w' H => ?_
        exact Eng.val (w1 := w') (v := .int .i64 (k : Nat)) (Eng.run_move rfl ((H.kept 8 (by kernel_rfl)).trans h8_7)) (Below.refl _ _) rfl
      · refine Eng.plain rfl rfl fun a w' H => ?_
        refine Eng.val (w1 := w') (v := .int .u8 ((Lnm.byteAt s k : Nat) : Int)) ?_ (Below.refl _ _) rfl
        exact Lnm.run_index_str rfl (show a.eval (.tmp 23) = .string s from (H.dep 0 23 (by kernel_rfl) rfl)) ((H.dep 1 24 (by kernel_rfl) rfl).trans (congrArg (Value.int _) (show (k : Nat) = ((k : Nat) : Int) from by first | rfl | omega))) (by first | rfl | omega)
      · refine Eng.plain rfl rfl fun a w' H => ?_
        refine Eng.val (w1 := w') (v := .bool (((Lnm.byteAt s k : Nat) : Int) == 58)) ?_ (Below.refl _ _) (by show _ = Value.bool q26; rw [Bq26])
        have e0 : a.eval (.tmp 25) = .int .u8 ((Lnm.byteAt s k : Nat) : Int) := (H.dep 2 25 (by kernel_rfl) rfl)
        have e1 : a.eval (.const (.int .u8 58)) = .int .u8 58 := (rfl : a.eval (.const (.int .u8 58)) = .int .u8 58)
        simp only [execOp, resolve, List.map_toArray, List.map_cons, List.map_nil, e0, e1]
        go_simp
        all_goals first | rfl | (simp; done) | (rw [Bool.eq_iff_iff]; simp; done) | omega | (split <;> first | (simp_all; done) | (split <;> simp_all; done)) | skip
      · refine Eng.plain rfl rfl fun a w' H => ?_
        exact Eng.val (w1 := w') (v := .bool q26) (Eng.run_move rfl (H.dep 3 26 (by kernel_rfl) rfl)) (Below.refl _ _) rfl
      · refine Eng.guarded1 (j := 4) (d := 27) (b := q26) rfl rfl (by kernel_rfl) rfl (fun v w h => h) (fun hG w => Eng.off hG) fun hG a w' H => ?_
        exact Eng.val (w1 := w') (v := .string s) (Eng.run_move rfl ((H.kept 1 (by kernel_rfl)).trans h1_7)) (Below.refl _ _) (Eng.off' hG rfl)
      · refine Eng.guarded1 (j := 4) (d := 27) (b := q26) rfl rfl (by kernel_rfl) rfl (fun v w h => h) (fun hG w => Eng.off hG) fun hG a w' H => ?_
        exact Eng.val (w1 := w') (v := .int .i64 (k : Nat)) (Eng.run_move rfl ((H.kept 8 (by kernel_rfl)).trans h8_7)) (Below.refl _ _) (Eng.off' hG rfl)
      · refine Eng.guarded1 (j := 4) (d := 27) (b := q26) rfl rfl (by kernel_rfl) rfl (fun v w h => h) (fun hG w => Eng.off hG) fun hG a w' H => ?_
        refine Eng.val (w1 := w') (v := .int .u8 ((Lnm.byteAt s k : Nat) : Int)) ?_ (Below.refl _ _) (Eng.off' hG rfl)
        exact Lnm.run_index_str rfl (show a.eval (.tmp 28) = .string s from (Eng.on (H.dep 5 28 (by kernel_rfl) rfl) hG)) ((Eng.on (H.dep 6 29 (by kernel_rfl) rfl) hG).trans (congrArg (Value.int _) (show (k : Nat) = ((k : Nat) : Int) from by first | rfl | omega))) (by first | rfl | omega)
      · refine Eng.guarded1 (j := 4) (d := 27) (b := q26) rfl rfl (by kernel_rfl) rfl (fun v w h => h) (fun hG w => Eng.off hG) fun hG a w' H => ?_
        refine Eng.val (w1 := w') (v := .bool (((Lnm.byteAt s k : Nat) : Int) == 44)) ?_ (Below.refl _ _) (Eng.off' hG (by rw [Bq31]))
        have e0 : a.eval (.tmp 30) = .int .u8 ((Lnm.byteAt s k : Nat) : Int) := (Eng.on (H.dep 7 30 (by kernel_rfl) rfl) hG)
        have e1 : a.eval (.const (.int .u8 44)) = .int .u8 44 := (rfl : a.eval (.const (.int .u8 44)) = .int .u8 44)
        simp only [execOp, resolve, List.map_toArray, List.map_cons, List.map_nil, e0, e1]
        go_simp
        all_goals first | rfl | (simp; done) | (rw [Bool.eq_iff_iff]; simp; done) | omega | (split <;> first | (simp_all; done) | (split <;> simp_all; done)) | skip
      · refine Eng.plain rfl rfl fun a w' H => ?_
        exact Eng.val (w1 := w') (v := .bool (q26 || q31)) (Eng.run_or rfl rfl (G := true) (H.dep 4 27 (by kernel_rfl) rfl) (fun hb => (Eng.on (H.dep 8 31 (by kernel_rfl) rfl) (Eng.mk1 hb)))) (Below.refl _ _) (by show _ = Value.bool q32; rw [Bq32])
    intro act9 w9 T
    have h0_9 : act9.eval (.tmp 0) = .agg #[na, nb] := (T.rest 0 (by kernel_rfl)).trans h0_7
    have h1_9 : act9.eval (.tmp 1) = .string s := (T.rest 1 (by kernel_rfl)).trans h1_7
    have h2_9 : act9.eval (.tmp 2) = .pointer (some ⟨g2_1, 0, none⟩) := (T.rest 2 (by kernel_rfl)).trans h2_7
    have h4_9 : act9.eval (.tmp 4) = .pointer (some ⟨g4_1, 0, none⟩) := (T.rest 4 (by kernel_rfl)).trans h4_7
    have h5_9 : act9.eval (.tmp 5) = .int .i64 0 := (T.rest 5 (by kernel_rfl)).trans h5_7
    have h6_9 : act9.eval (.tmp 6) = v6 := (T.rest 6 (by kernel_rfl)).trans h6_7
    have h7_9 : act9.eval (.tmp 7) = .string (Lnm.wd s k) := (T.rest 7 (by kernel_rfl)).trans h7_7
    have h8_9 : act9.eval (.tmp 8) = .int .i64 (k : Nat) := (T.rest 8 (by kernel_rfl)).trans h8_7
    have h15_9 : act9.eval (.tmp 15) = .bool q15 := (T.rest 15 (by kernel_rfl)).trans h15_7
    have h20_9 : act9.eval (.tmp 20) = .bool q20 := (T.rest 20 (by kernel_rfl)).trans h20_7
    have kg2_1_9 := (T.below.block _ lg2_1_7).trans kg2_1_7
    have lg2_1_9 := Nat.lt_of_lt_of_le lg2_1_7 T.below.size
    have kg4_1_9 := (T.below.block _ lg4_1_7).trans kg4_1_7
    have lg4_1_9 := Nat.lt_of_lt_of_le lg4_1_7 T.below.size
    have Fn0_9 := Eng.Reads.below Fn0_7 T.below
    have Fn1_9 := Eng.Reads.below Fn1_7 T.below
    have Ft_9 := Eng.Reads.below Ft_7 T.below
    have Ot_9 := Eng.own_below Ot_7 T.below
    have h32_9 : act9.eval (.tmp 32) = .bool q32 := T.done 9 32 rfl rfl
    have d9 := T.defers.trans d7
    have s9 := T.size.trans s7
    have bl9 := bl7.trans (T.below.mono bl7.size)
    clear T
    refine Eng.tail_nil ?_
    first | show Code.wp Tryd.prog _ _ _ _ | skip
    refine wp_cond_split h32_9 (fun hq => ?_) (fun hq => ?_)
    ·
      have kn10 := hq
      have c32 := Bq32.symm.trans hq
      clear hq
      have hsep : Lnm.sep ((Lpr.bl s).getD k 0) = true := by rw [Bq31, Bq26, Lnm.byte_sep] at c32; exact c32
      refine wp_seq ?_
      refine Eng.regionT (n := 5) rfl ?_
      refine Eng.tail_val rfl rfl rfl (Eng.run_move rfl h6_9) s9 rfl fun act11 d11 s11 hv hr => ?_
      have h0_11 : act11.eval (.tmp 0) = .agg #[na, nb] := (hr 0 rfl).trans h0_9
      have h1_11 : act11.eval (.tmp 1) = .string s := (hr 1 rfl).trans h1_9
      have h2_11 : act11.eval (.tmp 2) = .pointer (some ⟨g2_1, 0, none⟩) := (hr 2 rfl).trans h2_9
      have h4_11 : act11.eval (.tmp 4) = .pointer (some ⟨g4_1, 0, none⟩) := (hr 4 rfl).trans h4_9
      have h5_11 : act11.eval (.tmp 5) = .int .i64 0 := (hr 5 rfl).trans h5_9
      have h6_11 : act11.eval (.tmp 6) = v6 := (hr 6 rfl).trans h6_9
      have h7_11 : act11.eval (.tmp 7) = .string (Lnm.wd s k) := (hr 7 rfl).trans h7_9
      have h8_11 : act11.eval (.tmp 8) = .int .i64 (k : Nat) := (hr 8 rfl).trans h8_9
      have h15_11 : act11.eval (.tmp 15) = .bool q15 := (hr 15 rfl).trans h15_9
      have h20_11 : act11.eval (.tmp 20) = .bool q20 := (hr 20 rfl).trans h20_9
      have h32_11 : act11.eval (.tmp 32) = .bool q32 := (hr 32 rfl).trans h32_9
      have h33_11 : act11.eval (.tmp 33) = v6 := hv
      have d11 := d11.trans d9
      clear hv hr
      refine Eng.tail_val rfl rfl rfl (Eng.run_move rfl h7_11) s11 rfl fun act12 d12 s12 hv hr => ?_
      have h0_12 : act12.eval (.tmp 0) = .agg #[na, nb] := (hr 0 rfl).trans h0_11
      have h1_12 : act12.eval (.tmp 1) = .string s := (hr 1 rfl).trans h1_11
      have h2_12 : act12.eval (.tmp 2) = .pointer (some ⟨g2_1, 0, none⟩) := (hr 2 rfl).trans h2_11
      have h4_12 : act12.eval (.tmp 4) = .pointer (some ⟨g4_1, 0, none⟩) := (hr 4 rfl).trans h4_11
      have h5_12 : act12.eval (.tmp 5) = .int .i64 0 := (hr 5 rfl).trans h5_11
      have h6_12 : act12.eval (.tmp 6) = v6 := (hr 6 rfl).trans h6_11
      have h7_12 : act12.eval (.tmp 7) = .string (Lnm.wd s k) := (hr 7 rfl).trans h7_11
      have h8_12 : act12.eval (.tmp 8) = .int .i64 (k : Nat) := (hr 8 rfl).trans h8_11
      have h15_12 : act12.eval (.tmp 15) = .bool q15 := (hr 15 rfl).trans h15_11
      have h20_12 : act12.eval (.tmp 20) = .bool q20 := (hr 20 rfl).trans h20_11
      have h32_12 : act12.eval (.tmp 32) = .bool q32 := (hr 32 rfl).trans h32_11
      have h33_12 : act12.eval (.tmp 33) = v6 := (hr 33 rfl).trans h33_11
      have h34_12 : act12.eval (.tmp 34) = .string (Lnm.wd s k) := hv
      have d12 := d12.trans d11
      clear hv hr
      refine Eng.tail_ex rfl rfl rfl (Eng.run_buildN1 (z := .string ⟨#[]⟩) [.string (Lnm.wd s k)] rfl Tryd.underlying43 (by kernel_rfl) rfl rfl rfl rfl (by intro v hv; have h := List.mem_singleton.1 hv; rw [h]; exact rfl) (by have e0 : act12.eval (.tmp 34) = .string (Lnm.wd s k) := h34_12; simp [e0])) s12 rfl fun v_13 w13 act13 R d13 s13 hv hr => ?_
      obtain ⟨F_13, b_13⟩ := R
      have h0_13 : act13.eval (.tmp 0) = .agg #[na, nb] := (hr 0 rfl).trans h0_12
      have h1_13 : act13.eval (.tmp 1) = .string s := (hr 1 rfl).trans h1_12
      have h2_13 : act13.eval (.tmp 2) = .pointer (some ⟨g2_1, 0, none⟩) := (hr 2 rfl).trans h2_12
      have h4_13 : act13.eval (.tmp 4) = .pointer (some ⟨g4_1, 0, none⟩) := (hr 4 rfl).trans h4_12
      have h5_13 : act13.eval (.tmp 5) = .int .i64 0 := (hr 5 rfl).trans h5_12
      have h6_13 : act13.eval (.tmp 6) = v6 := (hr 6 rfl).trans h6_12
      have h7_13 : act13.eval (.tmp 7) = .string (Lnm.wd s k) := (hr 7 rfl).trans h7_12
      have h8_13 : act13.eval (.tmp 8) = .int .i64 (k : Nat) := (hr 8 rfl).trans h8_12
      have h15_13 : act13.eval (.tmp 15) = .bool q15 := (hr 15 rfl).trans h15_12
      have h20_13 : act13.eval (.tmp 20) = .bool q20 := (hr 20 rfl).trans h20_12
      have h32_13 : act13.eval (.tmp 32) = .bool q32 := (hr 32 rfl).trans h32_12
      have h33_13 : act13.eval (.tmp 33) = v6 := (hr 33 rfl).trans h33_12
      have h34_13 : act13.eval (.tmp 34) = .string (Lnm.wd s k) := (hr 34 rfl).trans h34_12
      have h35_13 : act13.eval (.tmp 35) = v_13 := hv
      have d13 := d13.trans d12
      clear hv hr
      have kg2_1_13 := (b_13.block _ lg2_1_9).trans kg2_1_9
      have lg2_1_13 := Nat.lt_of_lt_of_le lg2_1_9 b_13.size
      have kg4_1_13 := (b_13.block _ lg4_1_9).trans kg4_1_9
      have lg4_1_13 := Nat.lt_of_lt_of_le lg4_1_9 b_13.size
      have Fn0_13 := Eng.Reads.below Fn0_9 b_13
      have Fn1_13 := Eng.Reads.below Fn1_9 b_13
      have Ft_13 := Eng.Reads.below Ft_9 b_13
      have Ot_13 := Eng.own_below Ot_9 b_13
      have bl13 := bl9.trans (b_13.mono bl9.size)
      refine Eng.tail_ex rfl rfl rfl (Eng.run_appendI (z := .string ⟨#[]⟩) rfl Tryd.underlying43 (by kernel_rfl) rfl rfl h33_13 Ot_13 h35_13 F_13 (Nfa.strs_one [Lnm.wd s k]) (by have := (Lnm.ws_len s k).1; omega) bl13.size) s13 rfl fun v_14 w14 act14 R d14 s14 hv hr => ?_
      obtain ⟨O_14, _, b_14, G_14, EO_14⟩ := R
      have h0_14 : act14.eval (.tmp 0) = .agg #[na, nb] := (hr 0 rfl).trans h0_13
      have h1_14 : act14.eval (.tmp 1) = .string s := (hr 1 rfl).trans h1_13
      have h2_14 : act14.eval (.tmp 2) = .pointer (some ⟨g2_1, 0, none⟩) := (hr 2 rfl).trans h2_13
      have h4_14 : act14.eval (.tmp 4) = .pointer (some ⟨g4_1, 0, none⟩) := (hr 4 rfl).trans h4_13
      have h5_14 : act14.eval (.tmp 5) = .int .i64 0 := (hr 5 rfl).trans h5_13
      have h6_14 : act14.eval (.tmp 6) = v6 := (hr 6 rfl).trans h6_13
      have h7_14 : act14.eval (.tmp 7) = .string (Lnm.wd s k) := (hr 7 rfl).trans h7_13
      have h8_14 : act14.eval (.tmp 8) = .int .i64 (k : Nat) := (hr 8 rfl).trans h8_13
      have h15_14 : act14.eval (.tmp 15) = .bool q15 := (hr 15 rfl).trans h15_13
      have h20_14 : act14.eval (.tmp 20) = .bool q20 := (hr 20 rfl).trans h20_13
      have h32_14 : act14.eval (.tmp 32) = .bool q32 := (hr 32 rfl).trans h32_13
      have h33_14 : act14.eval (.tmp 33) = v6 := (hr 33 rfl).trans h33_13
      have h34_14 : act14.eval (.tmp 34) = .string (Lnm.wd s k) := (hr 34 rfl).trans h34_13
      have h35_14 : act14.eval (.tmp 35) = v_13 := (hr 35 rfl).trans h35_13
      have h36_14 : act14.eval (.tmp 36) = v_14 := hv
      have d14 := d14.trans d13
      clear hv hr
      have kg2_1_14 := (G_14.block _ lg2_1_13 (Eng.own_ne Ot_13 kg2_1_13 rfl)).trans kg2_1_13
      have lg2_1_14 := Nat.lt_of_lt_of_le lg2_1_13 G_14.size
      have kg4_1_14 := (G_14.block _ lg4_1_13 (Eng.own_ne Ot_13 kg4_1_13 rfl)).trans kg4_1_13
      have lg4_1_14 := Nat.lt_of_lt_of_le lg4_1_13 G_14.size
      have bl14 := bl13.trans b_14
      have Fn0_14 := Eng.Reads.below F0 bl14
      have Fn1_14 := Eng.Reads.below F1 bl14
      have Oa14 : w14.ownsRow w.heap.size 9 1 v_14 ((Lnm.ws s k) ++ [Lnm.wd s k]).length (Nfa.strs ((Lnm.ws s k) ++ [Lnm.wd s k])) := (Nfa.strs_cat (r := [_]) O_14)
      have Fa14 := Eng.Reads.of_own Oa14
      refine Eng.tail_val rfl rfl rfl (Eng.run_assign rfl h36_14) s14 rfl fun act15 d15 s15 hv hr => ?_
      have h0_15 : act15.eval (.tmp 0) = .agg #[na, nb] := (hr 0 rfl).trans h0_14
      have h1_15 : act15.eval (.tmp 1) = .string s := (hr 1 rfl).trans h1_14
      have h2_15 : act15.eval (.tmp 2) = .pointer (some ⟨g2_1, 0, none⟩) := (hr 2 rfl).trans h2_14
      have h4_15 : act15.eval (.tmp 4) = .pointer (some ⟨g4_1, 0, none⟩) := (hr 4 rfl).trans h4_14
      have h5_15 : act15.eval (.tmp 5) = .int .i64 0 := (hr 5 rfl).trans h5_14
      have h7_15 : act15.eval (.tmp 7) = .string (Lnm.wd s k) := (hr 7 rfl).trans h7_14
      have h8_15 : act15.eval (.tmp 8) = .int .i64 (k : Nat) := (hr 8 rfl).trans h8_14
      have h15_15 : act15.eval (.tmp 15) = .bool q15 := (hr 15 rfl).trans h15_14
      have h20_15 : act15.eval (.tmp 20) = .bool q20 := (hr 20 rfl).trans h20_14
      have h32_15 : act15.eval (.tmp 32) = .bool q32 := (hr 32 rfl).trans h32_14
      have h33_15 : act15.eval (.tmp 33) = v6 := (hr 33 rfl).trans h33_14
      have h34_15 : act15.eval (.tmp 34) = .string (Lnm.wd s k) := (hr 34 rfl).trans h34_14
      have h35_15 : act15.eval (.tmp 35) = v_13 := (hr 35 rfl).trans h35_14
      have h36_15 : act15.eval (.tmp 36) = v_14 := (hr 36 rfl).trans h36_14
      have h6_15 : act15.eval (.tmp 6) = v_14 := hv
      have d15 := d15.trans d14
      clear hv hr
      refine Eng.tail_nil ?_
      first | show Code.wp Tryd.prog _ _ _ _ | skip
      refine Eng.regionS (Eng.still [fun u_ => u_ = .string ⟨#[]⟩]) (fun i => ([.plain] : List Eng.Kind).getD i .plain) 1 0 86 s15 rfl (by kernel_rfl) (Eng.still_stable _) (Or.inr (Eng.still_any _)) ?_ ?_
      · refine Eng.Steps.cons (fun _ => ?_) (Eng.Steps.nil)
        · refine Eng.plain rfl rfl fun a w' H => ?_
          exact Eng.val (w1 := w') (v := .string ⟨#[]⟩) (Eng.run_assign rfl (rfl : a.eval (.const (.string ⟨#[]⟩)) = .string ⟨#[]⟩)) (Below.refl _ _) rfl
      intro act16 w16 T
      have h0_16 : act16.eval (.tmp 0) = .agg #[na, nb] := (T.rest 0 (by kernel_rfl)).trans h0_15
      have h1_16 : act16.eval (.tmp 1) = .string s := (T.rest 1 (by kernel_rfl)).trans h1_15
      have h2_16 : act16.eval (.tmp 2) = .pointer (some ⟨g2_1, 0, none⟩) := (T.rest 2 (by kernel_rfl)).trans h2_15
      have h4_16 : act16.eval (.tmp 4) = .pointer (some ⟨g4_1, 0, none⟩) := (T.rest 4 (by kernel_rfl)).trans h4_15
      have h5_16 : act16.eval (.tmp 5) = .int .i64 0 := (T.rest 5 (by kernel_rfl)).trans h5_15
      have h6_16 : act16.eval (.tmp 6) = v_14 := (T.rest 6 (by kernel_rfl)).trans h6_15
      have h8_16 : act16.eval (.tmp 8) = .int .i64 (k : Nat) := (T.rest 8 (by kernel_rfl)).trans h8_15
      have h15_16 : act16.eval (.tmp 15) = .bool q15 := (T.rest 15 (by kernel_rfl)).trans h15_15
      have h20_16 : act16.eval (.tmp 20) = .bool q20 := (T.rest 20 (by kernel_rfl)).trans h20_15
      have h32_16 : act16.eval (.tmp 32) = .bool q32 := (T.rest 32 (by kernel_rfl)).trans h32_15
      have kg2_1_16 := (T.below.block _ lg2_1_14).trans kg2_1_14
      have lg2_1_16 := Nat.lt_of_lt_of_le lg2_1_14 T.below.size
      have kg4_1_16 := (T.below.block _ lg4_1_14).trans kg4_1_14
      have lg4_1_16 := Nat.lt_of_lt_of_le lg4_1_14 T.below.size
      have Fn0_16 := Eng.Reads.below Fn0_14 T.below
      have Fn1_16 := Eng.Reads.below Fn1_14 T.below
      have Fa14_16 := Eng.Reads.below Fa14 T.below
      have Oa14_16 := Eng.own_below Oa14 T.below
      have h7_16 : act16.eval (.tmp 7) = .string ⟨#[]⟩ := T.done 0 7 rfl rfl
      have d16 := T.defers.trans d15
      have s16 := T.size.trans s15
      have bl16 := bl14.trans (T.below.mono bl14.size)
      clear T
      refine Eng.tail_nil ?_
      first | show Code.wp Tryd.prog _ _ _ _ | skip
      refine Eng.regionS (Eng.still [fun u_ => u_ = .int .i64 (k : Nat), fun u_ => u_ = .int .i64 (IntKind.i64.wrap ((k : Nat) + 1)), fun u_ => u_ = .int .i64 (IntKind.i64.wrap ((k : Nat) + 1))]) (fun i => ([.plain, .plain, .plain] : List Eng.Kind).getD i .plain) 3 0 86 s16 rfl (by kernel_rfl) (Eng.still_stable _) (Or.inr (Eng.still_any _)) ?_ ?_
      · refine Eng.Steps.cons (fun _ => ?_) (Eng.Steps.cons (fun _ => ?_) (Eng.Steps.cons (fun _ => ?_) (Eng.Steps.nil)))
        · refine Eng.plain rfl rfl fun a w' H => ?_
          exact Eng.val (w1 := w') (v := .int .i64 (k : Nat)) (Eng.run_move rfl ((H.kept 8 (by kernel_rfl)).trans h8_16)) (Below.refl _ _) rfl
        · refine Eng.plain rfl rfl fun a w' H => ?_
          refine Eng.val (w1 := w') (v := .int .i64 (IntKind.i64.wrap ((k : Nat) + 1))) ?_ (Below.refl _ _) rfl
          have e0 : a.eval (.tmp 21) = .int .i64 (k : Nat) := (H.dep 0 21 (by kernel_rfl) rfl)
          have e1 : a.eval (.const (.int .i64 1)) = .int .i64 1 := (rfl : a.eval (.const (.int .i64 1)) = .int .i64 1)
          simp only [execOp, resolve, List.map_toArray, List.map_cons, List.map_nil, e0, e1]
          go_simp
          all_goals first | rfl | (simp; done) | (rw [Bool.eq_iff_iff]; simp; done) | omega | (split <;> first | (simp_all; done) | (split <;> simp_all; done)) | skip
        · refine Eng.plain rfl rfl fun a w' H => ?_
          exact Eng.val (w1 := w') (v := .int .i64 (IntKind.i64.wrap ((k : Nat) + 1))) (Eng.run_assign rfl (H.dep 1 22 (by kernel_rfl) rfl)) (Below.refl _ _) rfl
      intro act17 w17 T
      have h0_17 : act17.eval (.tmp 0) = .agg #[na, nb] := (T.rest 0 (by kernel_rfl)).trans h0_16
      have h1_17 : act17.eval (.tmp 1) = .string s := (T.rest 1 (by kernel_rfl)).trans h1_16
      have h2_17 : act17.eval (.tmp 2) = .pointer (some ⟨g2_1, 0, none⟩) := (T.rest 2 (by kernel_rfl)).trans h2_16
      have h4_17 : act17.eval (.tmp 4) = .pointer (some ⟨g4_1, 0, none⟩) := (T.rest 4 (by kernel_rfl)).trans h4_16
      have h5_17 : act17.eval (.tmp 5) = .int .i64 0 := (T.rest 5 (by kernel_rfl)).trans h5_16
      have h6_17 : act17.eval (.tmp 6) = v_14 := (T.rest 6 (by kernel_rfl)).trans h6_16
      have h7_17 : act17.eval (.tmp 7) = .string ⟨#[]⟩ := (T.rest 7 (by kernel_rfl)).trans h7_16
      have h15_17 : act17.eval (.tmp 15) = .bool q15 := (T.rest 15 (by kernel_rfl)).trans h15_16
      have h20_17 : act17.eval (.tmp 20) = .bool q20 := (T.rest 20 (by kernel_rfl)).trans h20_16
      have h32_17 : act17.eval (.tmp 32) = .bool q32 := (T.rest 32 (by kernel_rfl)).trans h32_16
      have kg2_1_17 := (T.below.block _ lg2_1_16).trans kg2_1_16
      have lg2_1_17 := Nat.lt_of_lt_of_le lg2_1_16 T.below.size
      have kg4_1_17 := (T.below.block _ lg4_1_16).trans kg4_1_16
      have lg4_1_17 := Nat.lt_of_lt_of_le lg4_1_16 T.below.size
      have Fn0_17 := Eng.Reads.below Fn0_16 T.below
      have Fn1_17 := Eng.Reads.below Fn1_16 T.below
      have Fa14_17 := Eng.Reads.below Fa14_16 T.below
      have Oa14_17 := Eng.own_below Oa14_16 T.below
      have h8_17 : act17.eval (.tmp 8) = .int .i64 (IntKind.i64.wrap ((k : Nat) + 1)) := T.done 2 8 rfl rfl
      have d17 := T.defers.trans d16
      have s17 := T.size.trans s16
      have bl17 := bl16.trans (T.below.mono bl16.size)
      clear T
      refine Eng.tail_nil ?_
      exact ⟨_, by omega, k + 1, v_14, rfl, by omega, by first | (rw [Lnm.ws_put hk0 hsep]; exact Oa14_17) | (rw [Lnm.ws_not hk0 hsep]; exact Oa14_17), d17, s17, bl17, h0_17, h1_17, h2_17, h4_17, h5_17, (h6_17.trans (by first | rfl | (congr 1; rw [Eng.i64_id (by omega) (by omega)]; omega) | (rw [Lnm.wd_put hk0 hsep]; done) | (rw [Lnm.wd_not hk0 hsep]; done) | (simp; done))), (h7_17.trans (by first | rfl | (congr 1; rw [Eng.i64_id (by omega) (by omega)]; omega) | (rw [Lnm.wd_put hk0 hsep]; done) | (rw [Lnm.wd_not hk0 hsep]; done) | (simp; done))), (h8_17.trans (by first | rfl | (congr 1; rw [Eng.i64_id (by omega) (by omega)]; omega) | (rw [Lnm.wd_put hk0 hsep]; done) | (rw [Lnm.wd_not hk0 hsep]; done) | (simp; done))), h15_17, kg2_1_17, lg2_1_17, kg4_1_17, lg4_1_17⟩
    ·
      have kn18 := hq
      have c32 := Bq32.symm.trans hq
      clear hq
      have hsep : Lnm.sep ((Lpr.bl s).getD k 0) = false := by rw [Bq31, Bq26, Lnm.byte_sep] at c32; exact c32
      refine Eng.regionS (Eng.still [fun u_ => u_ = .string (Lnm.wd s k), fun u_ => u_ = .string s, fun u_ => u_ = .int .i64 (k : Nat), fun u_ => u_ = .int .i64 (k : Nat), fun u_ => u_ = .int .i64 (IntKind.i64.wrap ((k : Nat) + 1)), fun u_ => u_ = .string (s.extract k (k + 1)), fun u_ => u_ = .string ((Lnm.wd s k) ++ (s.extract k (k + 1))), fun u_ => u_ = .string ((Lnm.wd s k) ++ (s.extract k (k + 1)))]) (fun i => ([.plain, .plain, .plain, .plain, .plain, .plain, .plain, .plain] : List Eng.Kind).getD i .plain) 8 0 86 s9 rfl (by kernel_rfl) (Eng.still_stable _) (Or.inr (Eng.still_any _)) ?_ ?_
      · refine Eng.Steps.cons (fun _ => ?_) (Eng.Steps.cons (fun _ => ?_) (Eng.Steps.cons (fun _ => ?_) (Eng.Steps.cons (fun _ => ?_) (Eng.Steps.cons (fun _ => ?_) (Eng.Steps.cons (fun _ => ?_) (Eng.Steps.cons (fun _ => ?_) (Eng.Steps.cons (fun _ => ?_) (Eng.Steps.nil))))))))
        · refine Eng.plain rfl rfl fun a w' H => ?_
          exact Eng.val (w1 := w') (v := .string (Lnm.wd s k)) (Eng.run_move rfl ((H.kept 7 (by kernel_rfl)).trans h7_9)) (Below.refl _ _) rfl
        · refine Eng.plain rfl rfl fun a w' H => ?_
          exact Eng.val (w1 := w') (v := .string s) (Eng.run_move rfl ((H.kept 1 (by kernel_rfl)).trans h1_9)) (Below.refl _ _) rfl
        · refine Eng.plain rfl rfl fun a w' H => ?_
          exact Eng.val (w1 := w') (v := .int .i64 (k : Nat)) (Eng.run_move rfl ((H.kept 8 (by kernel_rfl)).trans h8_9)) (Below.refl _ _) rfl
        · refine Eng.plain rfl rfl fun a w' H => ?_
          exact Eng.val (w1 := w') (v := .int .i64 (k : Nat)) (Eng.run_move rfl ((H.kept 8 (by kernel_rfl)).trans h8_9)) (Below.refl _ _) rfl
        · refine Eng.plain rfl rfl fun a w' H => ?_
          refine Eng.val (w1 := w') (v := .int .i64 (IntKind.i64.wrap ((k : Nat) + 1))) ?_ (Below.refl _ _) rfl
          have e0 : a.eval (.tmp 40) = .int .i64 (k : Nat) := (H.dep 3 40 (by kernel_rfl) rfl)
          have e1 : a.eval (.const (.int .i64 1)) = .int .i64 1 := (rfl : a.eval (.const (.int .i64 1)) = .int .i64 1)
          simp only [execOp, resolve, List.map_toArray, List.map_cons, List.map_nil, e0, e1]
          go_simp
          all_goals first | rfl | (simp; done) | (rw [Bool.eq_iff_iff]; simp; done) | omega | (split <;> first | (simp_all; done) | (split <;> simp_all; done)) | skip
        · refine Eng.plain rfl rfl fun a w' H => ?_
          refine Eng.val (w1 := w') (v := .string (s.extract k (k + 1))) ?_ (Below.refl _ _) rfl
          exact Lnm.run_sub1 rfl (show a.eval (.tmp 38) = .string s from (H.dep 1 38 (by kernel_rfl) rfl)) (H.dep 2 39 (by kernel_rfl) rfl) ((H.dep 4 41 (by kernel_rfl) rfl).trans (congrArg (Value.int _) (show IntKind.i64.wrap ((k : Nat) + 1) = ((k + 1 : Nat) : Int) from by rw [Eng.i64_id (by omega) (by omega)]; omega))) (by omega)
        · refine Eng.plain rfl rfl fun a w' H => ?_
          refine Eng.val (w1 := w') (v := .string ((Lnm.wd s k) ++ (s.extract k (k + 1)))) ?_ (Below.refl _ _) rfl
          exact (Lnm.run_add_str rfl (show a.eval (.tmp 37) = .string (Lnm.wd s k) from (H.dep 0 37 (by kernel_rfl) rfl)) (show a.eval (.tmp 42) = .string (s.extract k (k + 1)) from (H.dep 5 42 (by kernel_rfl) rfl)) (by have := (Lnm.ws_len s k).2; have := Lnm.sub_size (s := s) (k := k); omega)).trans (by rfl)
        · refine Eng.plain rfl rfl fun a w' H => ?_
          exact Eng.val (w1 := w') (v := .string ((Lnm.wd s k) ++ (s.extract k (k + 1)))) (Eng.run_assign rfl (H.dep 6 43 (by kernel_rfl) rfl)) (Below.refl _ _) rfl
      intro act19 w19 T
      have h0_19 : act19.eval (.tmp 0) = .agg #[na, nb] := (T.rest 0 (by kernel_rfl)).trans h0_9
      have h1_19 : act19.eval (.tmp 1) = .string s := (T.rest 1 (by kernel_rfl)).trans h1_9
      have h2_19 : act19.eval (.tmp 2) = .pointer (some ⟨g2_1, 0, none⟩) := (T.rest 2 (by kernel_rfl)).trans h2_9
      have h4_19 : act19.eval (.tmp 4) = .pointer (some ⟨g4_1, 0, none⟩) := (T.rest 4 (by kernel_rfl)).trans h4_9
      have h5_19 : act19.eval (.tmp 5) = .int .i64 0 := (T.rest 5 (by kernel_rfl)).trans h5_9
      have h6_19 : act19.eval (.tmp 6) = v6 := (T.rest 6 (by kernel_rfl)).trans h6_9
      have h8_19 : act19.eval (.tmp 8) = .int .i64 (k : Nat) := (T.rest 8 (by kernel_rfl)).trans h8_9
      have h15_19 : act19.eval (.tmp 15) = .bool q15 := (T.rest 15 (by kernel_rfl)).trans h15_9
      have h20_19 : act19.eval (.tmp 20) = .bool q20 := (T.rest 20 (by kernel_rfl)).trans h20_9
      have h32_19 : act19.eval (.tmp 32) = .bool q32 := (T.rest 32 (by kernel_rfl)).trans h32_9
      have kg2_1_19 := (T.below.block _ lg2_1_9).trans kg2_1_9
      have lg2_1_19 := Nat.lt_of_lt_of_le lg2_1_9 T.below.size
      have kg4_1_19 := (T.below.block _ lg4_1_9).trans kg4_1_9
      have lg4_1_19 := Nat.lt_of_lt_of_le lg4_1_9 T.below.size
      have Fn0_19 := Eng.Reads.below Fn0_9 T.below
      have Fn1_19 := Eng.Reads.below Fn1_9 T.below
      have Ft_19 := Eng.Reads.below Ft_9 T.below
      have Ot_19 := Eng.own_below Ot_9 T.below
      have h7_19 : act19.eval (.tmp 7) = .string ((Lnm.wd s k) ++ (s.extract k (k + 1))) := T.done 7 7 rfl rfl
      have d19 := T.defers.trans d9
      have s19 := T.size.trans s9
      have bl19 := bl9.trans (T.below.mono bl9.size)
      clear T
      refine Eng.tail_nil ?_
      first | show Code.wp Tryd.prog _ _ _ _ | skip
      refine Eng.regionS (Eng.still [fun u_ => u_ = .int .i64 (k : Nat), fun u_ => u_ = .int .i64 (IntKind.i64.wrap ((k : Nat) + 1)), fun u_ => u_ = .int .i64 (IntKind.i64.wrap ((k : Nat) + 1))]) (fun i => ([.plain, .plain, .plain] : List Eng.Kind).getD i .plain) 3 0 86 s19 rfl (by kernel_rfl) (Eng.still_stable _) (Or.inr (Eng.still_any _)) ?_ ?_
      · refine Eng.Steps.cons (fun _ => ?_) (Eng.Steps.cons (fun _ => ?_) (Eng.Steps.cons (fun _ => ?_) (Eng.Steps.nil)))
        · refine Eng.plain rfl rfl fun a w' H => ?_
          exact Eng.val (w1 := w') (v := .int .i64 (k : Nat)) (Eng.run_move rfl ((H.kept 8 (by kernel_rfl)).trans h8_19)) (Below.refl _ _) rfl
        · refine Eng.plain rfl rfl fun a w' H => ?_
          refine Eng.val (w1 := w') (v := .int .i64 (IntKind.i64.wrap ((k : Nat) + 1))) ?_ (Below.refl _ _) rfl
          have e0 : a.eval (.tmp 21) = .int .i64 (k : Nat) := (H.dep 0 21 (by kernel_rfl) rfl)
          have e1 : a.eval (.const (.int .i64 1)) = .int .i64 1 := (rfl : a.eval (.const (.int .i64 1)) = .int .i64 1)
          simp only [execOp, resolve, List.map_toArray, List.map_cons, List.map_nil, e0, e1]
          go_simp
          all_goals first | rfl | (simp; done) | (rw [Bool.eq_iff_iff]; simp; done) | omega | (split <;> first | (simp_all; done) | (split <;> simp_all; done)) | skip
        · refine Eng.plain rfl rfl fun a w' H => ?_
          exact Eng.val (w1 := w') (v := .int .i64 (IntKind.i64.wrap ((k : Nat) + 1))) (Eng.run_assign rfl (H.dep 1 22 (by kernel_rfl) rfl)) (Below.refl _ _) rfl
      intro act20 w20 T
      have h0_20 : act20.eval (.tmp 0) = .agg #[na, nb] := (T.rest 0 (by kernel_rfl)).trans h0_19
      have h1_20 : act20.eval (.tmp 1) = .string s := (T.rest 1 (by kernel_rfl)).trans h1_19
      have h2_20 : act20.eval (.tmp 2) = .pointer (some ⟨g2_1, 0, none⟩) := (T.rest 2 (by kernel_rfl)).trans h2_19
      have h4_20 : act20.eval (.tmp 4) = .pointer (some ⟨g4_1, 0, none⟩) := (T.rest 4 (by kernel_rfl)).trans h4_19
      have h5_20 : act20.eval (.tmp 5) = .int .i64 0 := (T.rest 5 (by kernel_rfl)).trans h5_19
      have h6_20 : act20.eval (.tmp 6) = v6 := (T.rest 6 (by kernel_rfl)).trans h6_19
      have h7_20 : act20.eval (.tmp 7) = .string ((Lnm.wd s k) ++ (s.extract k (k + 1))) := (T.rest 7 (by kernel_rfl)).trans h7_19
      have h15_20 : act20.eval (.tmp 15) = .bool q15 := (T.rest 15 (by kernel_rfl)).trans h15_19
      have h20_20 : act20.eval (.tmp 20) = .bool q20 := (T.rest 20 (by kernel_rfl)).trans h20_19
      have h32_20 : act20.eval (.tmp 32) = .bool q32 := (T.rest 32 (by kernel_rfl)).trans h32_19
      have kg2_1_20 := (T.below.block _ lg2_1_19).trans kg2_1_19
      have lg2_1_20 := Nat.lt_of_lt_of_le lg2_1_19 T.below.size
      have kg4_1_20 := (T.below.block _ lg4_1_19).trans kg4_1_19
      have lg4_1_20 := Nat.lt_of_lt_of_le lg4_1_19 T.below.size
      have Fn0_20 := Eng.Reads.below Fn0_19 T.below
      have Fn1_20 := Eng.Reads.below Fn1_19 T.below
      have Ft_20 := Eng.Reads.below Ft_19 T.below
      have Ot_20 := Eng.own_below Ot_19 T.below
      have h8_20 : act20.eval (.tmp 8) = .int .i64 (IntKind.i64.wrap ((k : Nat) + 1)) := T.done 2 8 rfl rfl
      have d20 := T.defers.trans d19
      have s20 := T.size.trans s19
      have bl20 := bl19.trans (T.below.mono bl19.size)
      clear T
      refine Eng.tail_nil ?_
      exact ⟨_, by omega, k + 1, v6, rfl, by omega, by first | (rw [Lnm.ws_put hk0 hsep]; exact Ot_20) | (rw [Lnm.ws_not hk0 hsep]; exact Ot_20), d20, s20, bl20, h0_20, h1_20, h2_20, h4_20, h5_20, (h6_20.trans (by first | rfl | (congr 1; rw [Eng.i64_id (by omega) (by omega)]; omega) | (rw [Lnm.wd_put hk0 hsep]; done) | (rw [Lnm.wd_not hk0 hsep]; done) | (simp; done))), (h7_20.trans (by first | rfl | (congr 1; rw [Eng.i64_id (by omega) (by omega)]; omega) | (rw [Lnm.wd_put hk0 hsep]; done) | (rw [Lnm.wd_not hk0 hsep]; done) | (simp; done))), (h8_20.trans (by first | rfl | (congr 1; rw [Eng.i64_id (by omega) (by omega)]; omega) | (rw [Lnm.wd_put hk0 hsep]; done) | (rw [Lnm.wd_not hk0 hsep]; done) | (simp; done))), h15_20, kg2_1_20, lg2_1_20, kg4_1_20, lg4_1_20⟩
  ·
    have kn21 := hq
    have c20 := Bq20.symm.trans hq
    clear hq
    have c20 := of_decide_eq_false c20
    have hke : k = s.size := by omega
    refine wp_exit ?_
    first | show Code.wp Tryd.prog _ _ _ _ | skip
    first | show Code.wp Tryd.prog _ _ _ _ | skip
    refine wp_seq ?_
    refine Eng.regionT (n := 5) rfl ?_
    refine Eng.tail_val rfl rfl rfl (Eng.run_move rfl h6_7) s7 rfl fun act22 d22 s22 hv hr => ?_
    have h0_22 : act22.eval (.tmp 0) = .agg #[na, nb] := (hr 0 rfl).trans h0_7
    have h1_22 : act22.eval (.tmp 1) = .string s := (hr 1 rfl).trans h1_7
    have h2_22 : act22.eval (.tmp 2) = .pointer (some ⟨g2_1, 0, none⟩) := (hr 2 rfl).trans h2_7
    have h4_22 : act22.eval (.tmp 4) = .pointer (some ⟨g4_1, 0, none⟩) := (hr 4 rfl).trans h4_7
    have h5_22 : act22.eval (.tmp 5) = .int .i64 0 := (hr 5 rfl).trans h5_7
    have h6_22 : act22.eval (.tmp 6) = v6 := (hr 6 rfl).trans h6_7
    have h7_22 : act22.eval (.tmp 7) = .string (Lnm.wd s k) := (hr 7 rfl).trans h7_7
    have h8_22 : act22.eval (.tmp 8) = .int .i64 (k : Nat) := (hr 8 rfl).trans h8_7
    have h15_22 : act22.eval (.tmp 15) = .bool q15 := (hr 15 rfl).trans h15_7
    have h20_22 : act22.eval (.tmp 20) = .bool q20 := (hr 20 rfl).trans h20_7
    have h44_22 : act22.eval (.tmp 44) = v6 := hv
    have d22 := d22.trans d7
    clear hv hr
    refine Eng.tail_val rfl rfl rfl (Eng.run_move rfl h7_22) s22 rfl fun act23 d23 s23 hv hr => ?_
    have h0_23 : act23.eval (.tmp 0) = .agg #[na, nb] := (hr 0 rfl).trans h0_22
    have h1_23 : act23.eval (.tmp 1) = .string s := (hr 1 rfl).trans h1_22
    have h2_23 : act23.eval (.tmp 2) = .pointer (some ⟨g2_1, 0, none⟩) := (hr 2 rfl).trans h2_22
    have h4_23 : act23.eval (.tmp 4) = .pointer (some ⟨g4_1, 0, none⟩) := (hr 4 rfl).trans h4_22
    have h5_23 : act23.eval (.tmp 5) = .int .i64 0 := (hr 5 rfl).trans h5_22
    have h6_23 : act23.eval (.tmp 6) = v6 := (hr 6 rfl).trans h6_22
    have h7_23 : act23.eval (.tmp 7) = .string (Lnm.wd s k) := (hr 7 rfl).trans h7_22
    have h8_23 : act23.eval (.tmp 8) = .int .i64 (k : Nat) := (hr 8 rfl).trans h8_22
    have h15_23 : act23.eval (.tmp 15) = .bool q15 := (hr 15 rfl).trans h15_22
    have h20_23 : act23.eval (.tmp 20) = .bool q20 := (hr 20 rfl).trans h20_22
    have h44_23 : act23.eval (.tmp 44) = v6 := (hr 44 rfl).trans h44_22
    have h45_23 : act23.eval (.tmp 45) = .string (Lnm.wd s k) := hv
    have d23 := d23.trans d22
    clear hv hr
    refine Eng.tail_ex rfl rfl rfl (Eng.run_buildN1 (z := .string ⟨#[]⟩) [.string (Lnm.wd s k)] rfl Tryd.underlying43 (by kernel_rfl) rfl rfl rfl rfl (by intro v hv; have h := List.mem_singleton.1 hv; rw [h]; exact rfl) (by have e0 : act23.eval (.tmp 45) = .string (Lnm.wd s k) := h45_23; simp [e0])) s23 rfl fun v_24 w24 act24 R d24 s24 hv hr => ?_
    obtain ⟨F_24, b_24⟩ := R
    have h0_24 : act24.eval (.tmp 0) = .agg #[na, nb] := (hr 0 rfl).trans h0_23
    have h1_24 : act24.eval (.tmp 1) = .string s := (hr 1 rfl).trans h1_23
    have h2_24 : act24.eval (.tmp 2) = .pointer (some ⟨g2_1, 0, none⟩) := (hr 2 rfl).trans h2_23
    have h4_24 : act24.eval (.tmp 4) = .pointer (some ⟨g4_1, 0, none⟩) := (hr 4 rfl).trans h4_23
    have h5_24 : act24.eval (.tmp 5) = .int .i64 0 := (hr 5 rfl).trans h5_23
    have h6_24 : act24.eval (.tmp 6) = v6 := (hr 6 rfl).trans h6_23
    have h7_24 : act24.eval (.tmp 7) = .string (Lnm.wd s k) := (hr 7 rfl).trans h7_23
    have h8_24 : act24.eval (.tmp 8) = .int .i64 (k : Nat) := (hr 8 rfl).trans h8_23
    have h15_24 : act24.eval (.tmp 15) = .bool q15 := (hr 15 rfl).trans h15_23
    have h20_24 : act24.eval (.tmp 20) = .bool q20 := (hr 20 rfl).trans h20_23
    have h44_24 : act24.eval (.tmp 44) = v6 := (hr 44 rfl).trans h44_23
    have h45_24 : act24.eval (.tmp 45) = .string (Lnm.wd s k) := (hr 45 rfl).trans h45_23
    have h46_24 : act24.eval (.tmp 46) = v_24 := hv
    have d24 := d24.trans d23
    clear hv hr
    have kg2_1_24 := (b_24.block _ lg2_1_7).trans kg2_1_7
    have lg2_1_24 := Nat.lt_of_lt_of_le lg2_1_7 b_24.size
    have kg4_1_24 := (b_24.block _ lg4_1_7).trans kg4_1_7
    have lg4_1_24 := Nat.lt_of_lt_of_le lg4_1_7 b_24.size
    have Fn0_24 := Eng.Reads.below Fn0_7 b_24
    have Fn1_24 := Eng.Reads.below Fn1_7 b_24
    have Ft_24 := Eng.Reads.below Ft_7 b_24
    have Ot_24 := Eng.own_below Ot_7 b_24
    have bl24 := bl7.trans (b_24.mono bl7.size)
    refine Eng.tail_ex rfl rfl rfl (Eng.run_appendI (z := .string ⟨#[]⟩) rfl Tryd.underlying43 (by kernel_rfl) rfl rfl h44_24 Ot_24 h46_24 F_24 (Nfa.strs_one [Lnm.wd s k]) (by have := (Lnm.ws_len s k).1; omega) bl24.size) s24 rfl fun v_25 w25 act25 R d25 s25 hv hr => ?_
    obtain ⟨O_25, _, b_25, G_25, EO_25⟩ := R
    have h0_25 : act25.eval (.tmp 0) = .agg #[na, nb] := (hr 0 rfl).trans h0_24
    have h1_25 : act25.eval (.tmp 1) = .string s := (hr 1 rfl).trans h1_24
    have h2_25 : act25.eval (.tmp 2) = .pointer (some ⟨g2_1, 0, none⟩) := (hr 2 rfl).trans h2_24
    have h4_25 : act25.eval (.tmp 4) = .pointer (some ⟨g4_1, 0, none⟩) := (hr 4 rfl).trans h4_24
    have h5_25 : act25.eval (.tmp 5) = .int .i64 0 := (hr 5 rfl).trans h5_24
    have h6_25 : act25.eval (.tmp 6) = v6 := (hr 6 rfl).trans h6_24
    have h7_25 : act25.eval (.tmp 7) = .string (Lnm.wd s k) := (hr 7 rfl).trans h7_24
    have h8_25 : act25.eval (.tmp 8) = .int .i64 (k : Nat) := (hr 8 rfl).trans h8_24
    have h15_25 : act25.eval (.tmp 15) = .bool q15 := (hr 15 rfl).trans h15_24
    have h20_25 : act25.eval (.tmp 20) = .bool q20 := (hr 20 rfl).trans h20_24
    have h44_25 : act25.eval (.tmp 44) = v6 := (hr 44 rfl).trans h44_24
    have h45_25 : act25.eval (.tmp 45) = .string (Lnm.wd s k) := (hr 45 rfl).trans h45_24
    have h46_25 : act25.eval (.tmp 46) = v_24 := (hr 46 rfl).trans h46_24
    have h47_25 : act25.eval (.tmp 47) = v_25 := hv
    have d25 := d25.trans d24
    clear hv hr
    have kg2_1_25 := (G_25.block _ lg2_1_24 (Eng.own_ne Ot_24 kg2_1_24 rfl)).trans kg2_1_24
    have lg2_1_25 := Nat.lt_of_lt_of_le lg2_1_24 G_25.size
    have kg4_1_25 := (G_25.block _ lg4_1_24 (Eng.own_ne Ot_24 kg4_1_24 rfl)).trans kg4_1_24
    have lg4_1_25 := Nat.lt_of_lt_of_le lg4_1_24 G_25.size
    have bl25 := bl24.trans b_25
    have Fn0_25 := Eng.Reads.below F0 bl25
    have Fn1_25 := Eng.Reads.below F1 bl25
    have Oa25 : w25.ownsRow w.heap.size 9 1 v_25 ((Lnm.ws s k) ++ [Lnm.wd s k]).length (Nfa.strs ((Lnm.ws s k) ++ [Lnm.wd s k])) := (Nfa.strs_cat (r := [_]) O_25)
    have Fa25 := Eng.Reads.of_own Oa25
    refine Eng.tail_val rfl rfl rfl (Eng.run_assign rfl h47_25) s25 rfl fun act26 d26 s26 hv hr => ?_
    have h0_26 : act26.eval (.tmp 0) = .agg #[na, nb] := (hr 0 rfl).trans h0_25
    have h1_26 : act26.eval (.tmp 1) = .string s := (hr 1 rfl).trans h1_25
    have h2_26 : act26.eval (.tmp 2) = .pointer (some ⟨g2_1, 0, none⟩) := (hr 2 rfl).trans h2_25
    have h4_26 : act26.eval (.tmp 4) = .pointer (some ⟨g4_1, 0, none⟩) := (hr 4 rfl).trans h4_25
    have h5_26 : act26.eval (.tmp 5) = .int .i64 0 := (hr 5 rfl).trans h5_25
    have h7_26 : act26.eval (.tmp 7) = .string (Lnm.wd s k) := (hr 7 rfl).trans h7_25
    have h8_26 : act26.eval (.tmp 8) = .int .i64 (k : Nat) := (hr 8 rfl).trans h8_25
    have h15_26 : act26.eval (.tmp 15) = .bool q15 := (hr 15 rfl).trans h15_25
    have h20_26 : act26.eval (.tmp 20) = .bool q20 := (hr 20 rfl).trans h20_25
    have h44_26 : act26.eval (.tmp 44) = v6 := (hr 44 rfl).trans h44_25
    have h45_26 : act26.eval (.tmp 45) = .string (Lnm.wd s k) := (hr 45 rfl).trans h45_25
    have h46_26 : act26.eval (.tmp 46) = v_24 := (hr 46 rfl).trans h46_25
    have h47_26 : act26.eval (.tmp 47) = v_25 := (hr 47 rfl).trans h47_25
    have h6_26 : act26.eval (.tmp 6) = v_25 := hv
    have d26 := d26.trans d25
    clear hv hr
    refine Eng.tail_nil ?_
    first | show Code.wp Tryd.prog _ _ _ _ | skip
    refine wp_seq ?_
    have Otw_27 : World.ownsRow w25 w.heap.size 9 1 v_25 (Lnm.allW s).length (Nfa.strs (Lnm.allW s)) := by have O := Oa25; rw [hke, Lnm.allW_eq] at O; exact O
    have Ftw_27 := Eng.Reads.of_own Otw_27
    refine Eng.regionD (Eng.still [fun u_ => u_ = .pointer (some ⟨g2_1, 0, none⟩), fun u_ => u_ = na, fun u_ => u_ = v_25, fun u_ => u_ = Eng.elemPtr v_25 (0 * 1), fun u_ => u_ = .string ((Lnm.allW s).getD 0 default), fun u_ => u_ = .int .i64 (place l0 (Lpr.bl ((Lnm.allW s).getD 0 default))), fun u_ => u_ = .agg #[.int .i64 (place l0 (Lpr.bl ((Lnm.allW s).getD 0 default))), .int .u64 0], fun u_ => True, fun u_ => True]) (fun i => ([.plain, .plain, .plain, .plain, .plain, .plain, .plain, .alloc 28 #[.int .i64 0, .int .u64 0], .store 7 #[.int .i64 (place l0 (Lpr.bl ((Lnm.allW s).getD 0 default))), .int .u64 0]] : List Eng.Kind).getD i .plain) 9 0 86 (by kernel_rfl) s26 rfl (by kernel_rfl) (Eng.still_stable _) (Or.inr (Eng.still_any _)) ?_ ?_
    · refine Eng.Steps.cons (fun _ => ?_) (Eng.Steps.cons (fun _ => ?_) (Eng.Steps.cons (fun _ => ?_) (Eng.Steps.cons (fun _ => ?_) (Eng.Steps.cons (fun _ => ?_) (Eng.Steps.cons (fun _ => ?_) (Eng.Steps.cons (fun _ => ?_) (Eng.Steps.cons (fun _ => ?_) (Eng.Steps.cons (fun _ => ?_) (Eng.Steps.nil)))))))))
      · refine Eng.plain rfl rfl fun a w' H => ?_
        refine Eng.val (w1 := w') (v := .pointer (some ⟨g2_1, 0, none⟩)) ?_ (Below.refl _ _) rfl
        have e0 : a.eval (.tmp 2) = .pointer (some ⟨g2_1, 0, none⟩) := ((H.kept 2 (by kernel_rfl)).trans h2_26)
        simp only [execOp, resolve, List.map_toArray, List.map_cons, List.map_nil, e0]
        go_simp
        all_goals first | rfl | (simp; done) | (rw [Bool.eq_iff_iff]; simp; done) | omega | (split <;> first | (simp_all; done) | (split <;> simp_all; done)) | skip
      · refine Eng.plain rfl rfl fun a w' H => ?_
        have kb := (H.below.block _ lg2_1_25).trans kg2_1_25
        have z0 : w'.cell? ⟨g2_1, 0, none⟩ = some (na) := (Eng.cells kb 0).trans rfl
        refine Eng.val (w1 := w') (v := na) ?_ (Below.refl _ _) rfl
        have e0 : a.eval (.tmp 48) = .pointer (some ⟨g2_1, 0, none⟩) := (H.dep 0 48 (by kernel_rfl) rfl)
        simp only [execOp, resolve, List.map_toArray, List.map_cons, List.map_nil, e0]
        go_simp
        all_goals first | rfl | (simp; done) | (rw [Bool.eq_iff_iff]; simp; done) | omega | (split <;> first | (simp_all; done) | (split <;> simp_all; done)) | skip
      · refine Eng.plain rfl rfl fun a w' H => ?_
        exact Eng.val (w1 := w') (v := v_25) (Eng.run_move rfl ((H.kept 6 (by kernel_rfl)).trans h6_26)) (Below.refl _ _) rfl
      · refine Eng.plain rfl rfl fun a w' H => ?_
        refine Eng.val (w1 := w') (v := Eng.elemPtr v_25 (0 * 1)) ?_ (Below.refl _ _) rfl
        exact Eng.run_index_sl rfl Tryd.underlying43 (by kernel_rfl) (show a.eval (.tmp 50) = v_25 from (H.dep 2 50 (by kernel_rfl) rfl)) ((show a.eval (.const (.int .i64 0)) = .int .i64 0 from (rfl : a.eval (.const (.int .i64 0)) = .int .i64 0)).trans (congrArg (Value.int _) (show 0 = ((0 : Nat) : Int) from by first | rfl | exact Lnm.allW_pos s))) (Eng.Reads.below Ftw_27 H.below) (by first | rfl | exact Lnm.allW_pos s) rfl
      · refine Eng.plain rfl rfl fun a w' H => ?_
        refine Eng.val (w1 := w') (v := .string ((Lnm.allW s).getD 0 default)) ?_ (Below.refl _ _) rfl
        exact Eng.run_load_el (.string ((Lnm.allW s).getD 0 default)) rfl (show a.eval (.tmp 51) = Eng.elemPtr v_25 (0 * 1) from (H.dep 3 51 (by kernel_rfl) rfl)) (Eng.Reads.below Ftw_27 H.below) (Nfa.strs_at (Lnm.allW s) 0 (by first | rfl | exact Lnm.allW_pos s)) (by kernel_rfl)
      · refine Eng.plain rfl rfl fun a w' H => ?_
        refine Eng.call Tryd.func73 (by kernel_rfl) (by kernel_rfl) rfl #[na, .string ((Lnm.allW s).getD 0 default)] ?_ ?_
        · have e0 : a.eval (.tmp 49) = na := (H.dep 1 49 (by kernel_rfl) rfl); have e1 : a.eval (.tmp 52) = .string ((Lnm.allW s).getD 0 default) := (H.dep 4 52 (by kernel_rfl) rfl); simp only [List.map_toArray, List.map_cons, List.map_nil, e0, e1]
        refine (Lnm.place_calls na l0 ((Lnm.allW s).getD 0 default) _ (Eng.Reads.below Fn0_25 H.below)).mono ?_
        rintro e w'' ⟨rfl, hb⟩
        exact ⟨_, rfl, rfl, hb⟩
      · refine Eng.plain rfl rfl fun a w' H => ?_
        refine Eng.val (w1 := w') (v := .agg #[.int .i64 (place l0 (Lpr.bl ((Lnm.allW s).getD 0 default))), .int .u64 0]) ?_ (Below.refl _ _) rfl
        have e0 : a.eval (.tmp 53) = .int .i64 (place l0 (Lpr.bl ((Lnm.allW s).getD 0 default))) := (H.dep 5 53 (by kernel_rfl) rfl)
        simp only [execOp, resolve, List.map_toArray, List.map_cons, List.map_nil, e0]
        go_simp
        all_goals first | rfl | (simp; done) | (rw [Bool.eq_iff_iff]; simp; done) | omega | skip
      · refine Eng.made rfl (by simp) rfl (fun a w' hd ho => ?_) (fun _ _ => trivial)
        simp only [execOp]
        go_simp
      · refine Eng.stored [.int .i64 (place l0 (Lpr.bl ((Lnm.allW s).getD 0 default))), .int .u64 0] rfl rfl rfl (j := 7) (d := 9) (by kernel_rfl) rfl rfl (Eng.store_uniq (by kernel_rfl)) rfl rfl fun a w' g e hc hd ho => ?_
        have e0 : a.eval _ = .agg #[.int .i64 (place l0 (Lpr.bl ((Lnm.allW s).getD 0 default))), .int .u64 0] := (hd 6 54 (by kernel_rfl) rfl)
        have z0 := (Eng.cells hc 0).trans rfl
        have z1 := (Eng.cells hc 1).trans rfl
        have f0 := Eng.unfrozen hc 0
        have f1 := Eng.unfrozen hc 1
        simp only [execOp, e, e0]
        go_simp
        rfl
    intro act28 w28 T
    have h0_28 : act28.eval (.tmp 0) = .agg #[na, nb] := (T.rest 0 (by kernel_rfl)).trans h0_26
    have h1_28 : act28.eval (.tmp 1) = .string s := (T.rest 1 (by kernel_rfl)).trans h1_26
    have h2_28 : act28.eval (.tmp 2) = .pointer (some ⟨g2_1, 0, none⟩) := (T.rest 2 (by kernel_rfl)).trans h2_26
    have h4_28 : act28.eval (.tmp 4) = .pointer (some ⟨g4_1, 0, none⟩) := (T.rest 4 (by kernel_rfl)).trans h4_26
    have h5_28 : act28.eval (.tmp 5) = .int .i64 0 := (T.rest 5 (by kernel_rfl)).trans h5_26
    have h6_28 : act28.eval (.tmp 6) = v_25 := (T.rest 6 (by kernel_rfl)).trans h6_26
    have h7_28 : act28.eval (.tmp 7) = .string (Lnm.wd s k) := (T.rest 7 (by kernel_rfl)).trans h7_26
    have h8_28 : act28.eval (.tmp 8) = .int .i64 (k : Nat) := (T.rest 8 (by kernel_rfl)).trans h8_26
    have h15_28 : act28.eval (.tmp 15) = .bool q15 := (T.rest 15 (by kernel_rfl)).trans h15_26
    have h20_28 : act28.eval (.tmp 20) = .bool q20 := (T.rest 20 (by kernel_rfl)).trans h20_26
    have kg2_1_28 := (T.below.block _ lg2_1_25).trans kg2_1_25
    have lg2_1_28 := Nat.lt_of_lt_of_le lg2_1_25 T.below.size
    have kg4_1_28 := (T.below.block _ lg4_1_25).trans kg4_1_25
    have lg4_1_28 := Nat.lt_of_lt_of_le lg4_1_25 T.below.size
    have Fn0_28 := Eng.Reads.below Fn0_25 T.below
    have Fn1_28 := Eng.Reads.below Fn1_25 T.below
    have Fa25_28 := Eng.Reads.below Fa25 T.below
    have Oa25_28 := Eng.own_below Oa25 T.below
    have Ftw_28 := Eng.Reads.below Ftw_27 T.below
    have Otw_28 := Eng.own_below Otw_27 T.below
    obtain ⟨g9_28, h9_28, rg9_28, lg9_28_28, kg9_28_28⟩ := T.st 7 9 8 _ _ _ rfl rfl rfl rfl rfl
    have og9_28 : w.heap.size ≤ g9_28 := Nat.le_trans bl25.size rg9_28
    have ne_g9_28_g2_1 : g2_1 ≠ g9_28 := fun e => Nat.lt_irrefl _ (Nat.lt_of_lt_of_le (e ▸ lg2_1_25) rg9_28)
    have ne_g9_28_g4_1 : g4_1 ≠ g9_28 := fun e => Nat.lt_irrefl _ (Nat.lt_of_lt_of_le (e ▸ lg4_1_25) rg9_28)
    have d28 := T.defers.trans d26
    have s28 := T.size.trans s26
    have bl28 := bl25.trans (T.below.mono bl25.size)
    clear T
    refine Eng.tail_nil ?_
    first | show Code.wp Tryd.prog _ _ _ _ | skip
    refine wp_seq ?_
    refine Eng.regionS (Eng.still [fun u_ => True]) (fun i => ([.alloc 101 ((List.map Value.bool (List.replicate 64 false)).toArray)] : List Eng.Kind).getD i .plain) 1 0 86 s28 rfl (by kernel_rfl) (Eng.still_stable _) (Or.inr (Eng.still_any _)) ?_ ?_
    · refine Eng.Steps.cons (fun _ => ?_) (Eng.Steps.nil)
      · refine Eng.made rfl (by simp) rfl (fun a w' hd ho => ?_) (fun _ _ => trivial)
        exact Eng.run_alloc rfl (by kernel_rfl)
    intro act29 w29 T
    have h0_29 : act29.eval (.tmp 0) = .agg #[na, nb] := (T.rest 0 (by kernel_rfl)).trans h0_28
    have h1_29 : act29.eval (.tmp 1) = .string s := (T.rest 1 (by kernel_rfl)).trans h1_28
    have h2_29 : act29.eval (.tmp 2) = .pointer (some ⟨g2_1, 0, none⟩) := (T.rest 2 (by kernel_rfl)).trans h2_28
    have h4_29 : act29.eval (.tmp 4) = .pointer (some ⟨g4_1, 0, none⟩) := (T.rest 4 (by kernel_rfl)).trans h4_28
    have h5_29 : act29.eval (.tmp 5) = .int .i64 0 := (T.rest 5 (by kernel_rfl)).trans h5_28
    have h6_29 : act29.eval (.tmp 6) = v_25 := (T.rest 6 (by kernel_rfl)).trans h6_28
    have h7_29 : act29.eval (.tmp 7) = .string (Lnm.wd s k) := (T.rest 7 (by kernel_rfl)).trans h7_28
    have h8_29 : act29.eval (.tmp 8) = .int .i64 (k : Nat) := (T.rest 8 (by kernel_rfl)).trans h8_28
    have h9_29 : act29.eval (.tmp 9) = .pointer (some ⟨g9_28, 0, none⟩) := (T.rest 9 (by kernel_rfl)).trans h9_28
    have h15_29 : act29.eval (.tmp 15) = .bool q15 := (T.rest 15 (by kernel_rfl)).trans h15_28
    have h20_29 : act29.eval (.tmp 20) = .bool q20 := (T.rest 20 (by kernel_rfl)).trans h20_28
    have kg2_1_29 := (T.below.block _ lg2_1_28).trans kg2_1_28
    have lg2_1_29 := Nat.lt_of_lt_of_le lg2_1_28 T.below.size
    have kg4_1_29 := (T.below.block _ lg4_1_28).trans kg4_1_28
    have lg4_1_29 := Nat.lt_of_lt_of_le lg4_1_28 T.below.size
    have kg9_28_29 := (T.below.block _ lg9_28_28).trans kg9_28_28
    have lg9_28_29 := Nat.lt_of_lt_of_le lg9_28_28 T.below.size
    have Fn0_29 := Eng.Reads.below Fn0_28 T.below
    have Fn1_29 := Eng.Reads.below Fn1_28 T.below
    have Fa25_29 := Eng.Reads.below Fa25_28 T.below
    have Oa25_29 := Eng.own_below Oa25_28 T.below
    have Ftw_29 := Eng.Reads.below Ftw_28 T.below
    have Otw_29 := Eng.own_below Otw_28 T.below
    obtain ⟨g10_29, h10_29, rg10_29, lg10_29_29, kg10_29_29⟩ := T.al 0 10 _ _ rfl rfl rfl (by kernel_rfl)
    have og10_29 : w.heap.size ≤ g10_29 := Nat.le_trans bl28.size rg10_29
    have ne_g10_29_g2_1 : g2_1 ≠ g10_29 := fun e => Nat.lt_irrefl _ (Nat.lt_of_lt_of_le (e ▸ lg2_1_28) rg10_29)
    have ne_g10_29_g4_1 : g4_1 ≠ g10_29 := fun e => Nat.lt_irrefl _ (Nat.lt_of_lt_of_le (e ▸ lg4_1_28) rg10_29)
    have ne_g10_29_g9_28 : g9_28 ≠ g10_29 := fun e => Nat.lt_irrefl _ (Nat.lt_of_lt_of_le (e ▸ lg9_28_28) rg10_29)
    have d29 := T.defers.trans d28
    have s29 := T.size.trans s28
    have bl29 := bl28.trans (T.below.mono bl28.size)
    clear T
    refine Eng.tail_nil ?_
    first | show Code.wp Tryd.prog _ _ _ _ | skip
    refine wp_seq ?_
    refine wp_seq ?_
    refine Eng.regionS (Eng.still [fun u_ => u_ = .int .i64 1]) (fun i => ([.plain] : List Eng.Kind).getD i .plain) 1 0 86 s29 rfl (by kernel_rfl) (Eng.still_stable _) (Or.inr (Eng.still_any _)) ?_ ?_
    · refine Eng.Steps.cons (fun _ => ?_) (Eng.Steps.nil)
      · refine Eng.plain rfl rfl fun a w' H => ?_
        exact Eng.val (w1 := w') (v := .int .i64 1) (Eng.run_assign rfl (rfl : a.eval (.const (.int .i64 1)) = .int .i64 1)) (Below.refl _ _) rfl
    intro act30 w30 T
    have h0_30 : act30.eval (.tmp 0) = .agg #[na, nb] := (T.rest 0 (by kernel_rfl)).trans h0_29
    have h1_30 : act30.eval (.tmp 1) = .string s := (T.rest 1 (by kernel_rfl)).trans h1_29
    have h2_30 : act30.eval (.tmp 2) = .pointer (some ⟨g2_1, 0, none⟩) := (T.rest 2 (by kernel_rfl)).trans h2_29
    have h4_30 : act30.eval (.tmp 4) = .pointer (some ⟨g4_1, 0, none⟩) := (T.rest 4 (by kernel_rfl)).trans h4_29
    have h5_30 : act30.eval (.tmp 5) = .int .i64 0 := (T.rest 5 (by kernel_rfl)).trans h5_29
    have h6_30 : act30.eval (.tmp 6) = v_25 := (T.rest 6 (by kernel_rfl)).trans h6_29
    have h7_30 : act30.eval (.tmp 7) = .string (Lnm.wd s k) := (T.rest 7 (by kernel_rfl)).trans h7_29
    have h8_30 : act30.eval (.tmp 8) = .int .i64 (k : Nat) := (T.rest 8 (by kernel_rfl)).trans h8_29
    have h9_30 : act30.eval (.tmp 9) = .pointer (some ⟨g9_28, 0, none⟩) := (T.rest 9 (by kernel_rfl)).trans h9_29
    have h10_30 : act30.eval (.tmp 10) = .pointer (some ⟨g10_29, 0, none⟩) := (T.rest 10 (by kernel_rfl)).trans h10_29
    have h15_30 : act30.eval (.tmp 15) = .bool q15 := (T.rest 15 (by kernel_rfl)).trans h15_29
    have h20_30 : act30.eval (.tmp 20) = .bool q20 := (T.rest 20 (by kernel_rfl)).trans h20_29
    have kg2_1_30 := (T.below.block _ lg2_1_29).trans kg2_1_29
    have lg2_1_30 := Nat.lt_of_lt_of_le lg2_1_29 T.below.size
    have kg4_1_30 := (T.below.block _ lg4_1_29).trans kg4_1_29
    have lg4_1_30 := Nat.lt_of_lt_of_le lg4_1_29 T.below.size
    have kg9_28_30 := (T.below.block _ lg9_28_29).trans kg9_28_29
    have lg9_28_30 := Nat.lt_of_lt_of_le lg9_28_29 T.below.size
    have kg10_29_30 := (T.below.block _ lg10_29_29).trans kg10_29_29
    have lg10_29_30 := Nat.lt_of_lt_of_le lg10_29_29 T.below.size
    have Fn0_30 := Eng.Reads.below Fn0_29 T.below
    have Fn1_30 := Eng.Reads.below Fn1_29 T.below
    have Fa25_30 := Eng.Reads.below Fa25_29 T.below
    have Oa25_30 := Eng.own_below Oa25_29 T.below
    have Ftw_30 := Eng.Reads.below Ftw_29 T.below
    have Otw_30 := Eng.own_below Otw_29 T.below
    have h11_30 : act30.eval (.tmp 11) = .int .i64 1 := T.done 0 11 rfl rfl
    have d30 := T.defers.trans d29
    have s30 := T.size.trans s29
    have bl30 := bl29.trans (T.below.mono bl29.size)
    clear T
    refine Eng.tail_nil ?_
    first | show Code.wp Tryd.prog _ _ _ _ | skip
    refine wp_block ?_
    refine Eng.loopN (fun n a w' => ∃ (i : Nat), (Lnm.allW s).length - i = n ∧ (i + 1 ≤ (Lnm.allW s).length) ∧ (w'.ownsRow w.heap.size 9 1 v_25 (Lnm.allW s).length (Nfa.strs (Lnm.allW s))) ∧ a.defers = [] ∧ a.tmps.size = 86 ∧ Below w.heap.size w w' ∧ a.eval (.tmp 0) = .agg #[na, nb] ∧ a.eval (.tmp 1) = .string s ∧ a.eval (.tmp 2) = .pointer (some ⟨g2_1, 0, none⟩) ∧ a.eval (.tmp 4) = .pointer (some ⟨g4_1, 0, none⟩) ∧ a.eval (.tmp 5) = .int .i64 0 ∧ a.eval (.tmp 6) = v_25 ∧ a.eval (.tmp 7) = .string (Lnm.wd s k) ∧ a.eval (.tmp 8) = .int .i64 (k : Nat) ∧ a.eval (.tmp 9) = .pointer (some ⟨g9_28, 0, none⟩) ∧ a.eval (.tmp 10) = .pointer (some ⟨g10_29, 0, none⟩) ∧ a.eval (.tmp 11) = .int .i64 ((i + 1 : Nat) : Int) ∧ a.eval (.tmp 15) = .bool q15 ∧ a.eval (.tmp 20) = .bool q20 ∧ w'.heap[g2_1]? = some (.cells (#[na, nb]) 45 (0, 0)) ∧ g2_1 < w'.heap.size ∧ w'.heap[g4_1]? = some (.cells (#[.int .i64 0, .int .u64 0]) 28 (0, 0)) ∧ g4_1 < w'.heap.size ∧ w'.heap[g9_28]? = some (.cells (#[.int .i64 (place l0 (Lpr.bl ((Lnm.allW s).getD 0 default))), .int .u64 0]) 28 (0, 0)) ∧ g9_28 < w'.heap.size ∧ w'.heap[g10_29]? = some (.cells ((List.map Value.bool (Lnm.inT l1 s i)).toArray) 101 (0, 0)) ∧ g10_29 < w'.heap.size) (n0 := (Lnm.allW s).length - 0) ?_ ?_
    · exact ⟨0, rfl, by have := Lnm.allW_pos s; omega, Otw_30, d30, s30, bl30, h0_30, h1_30, h2_30, h4_30, h5_30, h6_30, h7_30, h8_30, h9_30, h10_30, (h11_30.trans (by first | rfl | (congr 1; rw [Eng.i64_id (by omega) (by omega)]; omega) | (simp; done))), h15_30, h20_30, kg2_1_30, lg2_1_30, kg4_1_30, lg4_1_30, kg9_28_30, lg9_28_30, (kg10_29_30.trans (by first | rfl | (rw [Lnm.inT_succ hi0, if_pos hge, hpn]; done) | (rw [Lnm.inT_succ hi0, if_neg (by omega)]; done))), lg10_29_30⟩
    rintro n act31 w31 ⟨i, rfl, hc0_31, hc1_31, d31, s31, bl31, h0_31, h1_31, h2_31, h4_31, h5_31, h6_31, h7_31, h8_31, h9_31, h10_31, h11_31, h15_31, h20_31, kg2_1_31, lg2_1_31, kg4_1_31, lg4_1_31, kg9_28_31, lg9_28_31, kg10_29_31, lg10_29_31⟩
    have Fn0_31 := Eng.Reads.below F0 bl31
    have Fn1_31 := Eng.Reads.below F1 bl31
    have hi1 := hc0_31
    have Ftw_31 := Eng.Reads.of_own hc1_31
    refine wp_seq ?_
    refine wp_seq ?_
    obtain ⟨q58, Bq58⟩ : ∃ b : Bool, b = (decide (((i + 1 : Nat) : Int) < (((Lnm.allW s).length : Nat) : Int))) := ⟨_, rfl⟩
    refine Eng.regionS (Eng.still [fun u_ => u_ = .int .i64 ((i + 1 : Nat) : Int), fun u_ => u_ = v_25, fun u_ => u_ = .int .i64 (((Lnm.allW s).length : Nat) : Int), fun u_ => u_ = .bool q58]) (fun i => ([.plain, .plain, .plain, .plain] : List Eng.Kind).getD i .plain) 4 0 86 s31 rfl (by kernel_rfl) (Eng.still_stable _) (Or.inr (Eng.still_any _)) ?_ ?_
    · refine Eng.Steps.cons (fun _ => ?_) (Eng.Steps.cons (fun _ => ?_) (Eng.Steps.cons (fun _ => ?_) (Eng.Steps.cons (fun _ => ?_) (Eng.Steps.nil))))
      · refine Eng.plain rfl rfl fun a w' H => ?_
        exact Eng.val (w1 := w') (v := .int .i64 ((i + 1 : Nat) : Int)) (Eng.run_move rfl ((H.kept 11 (by kernel_rfl)).trans h11_31)) (Below.refl _ _) rfl
      · refine Eng.plain rfl rfl fun a w' H => ?_
        exact Eng.val (w1 := w') (v := v_25) (Eng.run_move rfl ((H.kept 6 (by kernel_rfl)).trans h6_31)) (Below.refl _ _) rfl
      · refine Eng.plain rfl rfl fun a w' H => ?_
        refine Eng.val (w1 := w') (v := .int .i64 (((Lnm.allW s).length : Nat) : Int)) ?_ (Below.refl _ _) rfl
        exact Eng.run_len_sl rfl Tryd.underlying43 (show a.eval (.tmp 56) = v_25 from (H.dep 1 56 (by kernel_rfl) rfl)) (Eng.Reads.below Ftw_31 H.below)
      · refine Eng.plain rfl rfl fun a w' H => ?_
        refine Eng.val (w1 := w') (v := .bool (decide (((i + 1 : Nat) : Int) < (((Lnm.allW s).length : Nat) : Int)))) ?_ (Below.refl _ _) (by show _ = Value.bool q58; rw [Bq58])
        have e0 : a.eval (.tmp 55) = .int .i64 ((i + 1 : Nat) : Int) := (H.dep 0 55 (by kernel_rfl) rfl)
        have e1 : a.eval (.tmp 57) = .int .i64 (((Lnm.allW s).length : Nat) : Int) := (H.dep 2 57 (by kernel_rfl) rfl)
        simp only [execOp, resolve, List.map_toArray, List.map_cons, List.map_nil, e0, e1]
        go_simp
        all_goals first | rfl | (simp; done) | (rw [Bool.eq_iff_iff]; simp; done) | omega | (split <;> first | (simp_all; done) | (split <;> simp_all; done)) | skip
    intro act32 w32 T
    have h0_32 : act32.eval (.tmp 0) = .agg #[na, nb] := (T.rest 0 (by kernel_rfl)).trans h0_31
    have h1_32 : act32.eval (.tmp 1) = .string s := (T.rest 1 (by kernel_rfl)).trans h1_31
    have h2_32 : act32.eval (.tmp 2) = .pointer (some ⟨g2_1, 0, none⟩) := (T.rest 2 (by kernel_rfl)).trans h2_31
    have h4_32 : act32.eval (.tmp 4) = .pointer (some ⟨g4_1, 0, none⟩) := (T.rest 4 (by kernel_rfl)).trans h4_31
    have h5_32 : act32.eval (.tmp 5) = .int .i64 0 := (T.rest 5 (by kernel_rfl)).trans h5_31
    have h6_32 : act32.eval (.tmp 6) = v_25 := (T.rest 6 (by kernel_rfl)).trans h6_31
    have h7_32 : act32.eval (.tmp 7) = .string (Lnm.wd s k) := (T.rest 7 (by kernel_rfl)).trans h7_31
    have h8_32 : act32.eval (.tmp 8) = .int .i64 (k : Nat) := (T.rest 8 (by kernel_rfl)).trans h8_31
    have h9_32 : act32.eval (.tmp 9) = .pointer (some ⟨g9_28, 0, none⟩) := (T.rest 9 (by kernel_rfl)).trans h9_31
    have h10_32 : act32.eval (.tmp 10) = .pointer (some ⟨g10_29, 0, none⟩) := (T.rest 10 (by kernel_rfl)).trans h10_31
    have h11_32 : act32.eval (.tmp 11) = .int .i64 ((i + 1 : Nat) : Int) := (T.rest 11 (by kernel_rfl)).trans h11_31
    have h15_32 : act32.eval (.tmp 15) = .bool q15 := (T.rest 15 (by kernel_rfl)).trans h15_31
    have h20_32 : act32.eval (.tmp 20) = .bool q20 := (T.rest 20 (by kernel_rfl)).trans h20_31
    have kg2_1_32 := (T.below.block _ lg2_1_31).trans kg2_1_31
    have lg2_1_32 := Nat.lt_of_lt_of_le lg2_1_31 T.below.size
    have kg4_1_32 := (T.below.block _ lg4_1_31).trans kg4_1_31
    have lg4_1_32 := Nat.lt_of_lt_of_le lg4_1_31 T.below.size
    have kg9_28_32 := (T.below.block _ lg9_28_31).trans kg9_28_31
    have lg9_28_32 := Nat.lt_of_lt_of_le lg9_28_31 T.below.size
    have kg10_29_32 := (T.below.block _ lg10_29_31).trans kg10_29_31
    have lg10_29_32 := Nat.lt_of_lt_of_le lg10_29_31 T.below.size
    have Fn0_32 := Eng.Reads.below Fn0_31 T.below
    have Fn1_32 := Eng.Reads.below Fn1_31 T.below
    have Ftw_32 := Eng.Reads.below Ftw_31 T.below
    have Otw_32 := Eng.own_below hc1_31 T.below
    have h58_32 : act32.eval (.tmp 58) = .bool q58 := T.done 3 58 rfl rfl
    have d32 := T.defers.trans d31
    have s32 := T.size.trans s31
    have bl32 := bl31.trans (T.below.mono bl31.size)
    clear T
    refine Eng.tail_nil ?_
    first | show Code.wp Tryd.prog _ _ _ _ | skip
    refine wp_cond_split h58_32 (fun hq => ?_) (fun hq => ?_)
    ·
      have kn33 := hq
      have c58 := Bq58.symm.trans hq
      clear hq
      have c58 := of_decide_eq_true c58
      have hi0 : i + 1 < (Lnm.allW s).length := by omega
      have hpl := Lnm.place_lt l1 (Lpr.bl ((Lnm.allW s).getD (i + 1) default))
      refine wp_skip ?_
      first | show Code.wp Tryd.prog _ _ _ _ | skip
      refine wp_seq ?_
      refine wp_block ?_
      refine wp_seq ?_
      refine Eng.regionD (Eng.still [fun u_ => u_ = .pointer (some ⟨g2_1, 1, none⟩), fun u_ => u_ = nb, fun u_ => u_ = v_25, fun u_ => u_ = .int .i64 ((i + 1 : Nat) : Int), fun u_ => u_ = Eng.elemPtr v_25 ((i + 1) * 1), fun u_ => u_ = .string ((Lnm.allW s).getD (i + 1) default), fun u_ => u_ = .int .i64 (place l1 (Lpr.bl ((Lnm.allW s).getD (i + 1) default))), fun u_ => u_ = .int .i64 (place l1 (Lpr.bl ((Lnm.allW s).getD (i + 1) default)))]) (fun i => ([.plain, .plain, .plain, .plain, .plain, .plain, .plain, .plain] : List Eng.Kind).getD i .plain) 8 0 86 (by kernel_rfl) s32 rfl (by kernel_rfl) (Eng.still_stable _) (Or.inr (Eng.still_any _)) ?_ ?_
      · refine Eng.Steps.cons (fun _ => ?_) (Eng.Steps.cons (fun _ => ?_) (Eng.Steps.cons (fun _ => ?_) (Eng.Steps.cons (fun _ => ?_) (Eng.Steps.cons (fun _ => ?_) (Eng.Steps.cons (fun _ => ?_) (Eng.Steps.cons (fun _ => ?_) (Eng.Steps.cons (fun _ => ?_) (Eng.Steps.nil))))))))
        · refine Eng.plain rfl rfl fun a w' H => ?_
          refine Eng.val (w1 := w') (v := .pointer (some ⟨g2_1, 1, none⟩)) ?_ (Below.refl _ _) rfl
          have e0 : a.eval (.tmp 2) = .pointer (some ⟨g2_1, 0, none⟩) := ((H.kept 2 (by kernel_rfl)).trans h2_32)
          simp only [execOp, resolve, List.map_toArray, List.map_cons, List.map_nil, e0]
          go_simp
          all_goals first | rfl | (simp; done) | (rw [Bool.eq_iff_iff]; simp; done) | omega | (split <;> first | (simp_all; done) | (split <;> simp_all; done)) | skip
        · refine Eng.plain rfl rfl fun a w' H => ?_
          have kb := (H.below.block _ lg2_1_32).trans kg2_1_32
          have z0 : w'.cell? ⟨g2_1, 1, none⟩ = some (nb) := (Eng.cells kb 1).trans rfl
          refine Eng.val (w1 := w') (v := nb) ?_ (Below.refl _ _) rfl
          have e0 : a.eval (.tmp 61) = .pointer (some ⟨g2_1, 1, none⟩) := (H.dep 0 61 (by kernel_rfl) rfl)
          simp only [execOp, resolve, List.map_toArray, List.map_cons, List.map_nil, e0]
          go_simp
          all_goals first | rfl | (simp; done) | (rw [Bool.eq_iff_iff]; simp; done) | omega | (split <;> first | (simp_all; done) | (split <;> simp_all; done)) | skip
        · refine Eng.plain rfl rfl fun a w' H => ?_
          exact Eng.val (w1 := w') (v := v_25) (Eng.run_move rfl ((H.kept 6 (by kernel_rfl)).trans h6_32)) (Below.refl _ _) rfl
        · refine Eng.plain rfl rfl fun a w' H => ?_
          exact Eng.val (w1 := w') (v := .int .i64 ((i + 1 : Nat) : Int)) (Eng.run_move rfl ((H.kept 11 (by kernel_rfl)).trans h11_32)) (Below.refl _ _) rfl
        · refine Eng.plain rfl rfl fun a w' H => ?_
          refine Eng.val (w1 := w') (v := Eng.elemPtr v_25 ((i + 1) * 1)) ?_ (Below.refl _ _) rfl
          exact Eng.run_index_sl rfl Tryd.underlying43 (by kernel_rfl) (show a.eval (.tmp 63) = v_25 from (H.dep 2 63 (by kernel_rfl) rfl)) ((show a.eval (.tmp 64) = .int .i64 ((i + 1 : Nat) : Int) from (H.dep 3 64 (by kernel_rfl) rfl)).trans (congrArg (Value.int _) (show ((i + 1 : Nat) : Int) = ((i + 1 : Nat) : Int) from by omega))) (Eng.Reads.below Ftw_32 H.below) (by omega) rfl
        · refine Eng.plain rfl rfl fun a w' H => ?_
          refine Eng.val (w1 := w') (v := .string ((Lnm.allW s).getD (i + 1) default)) ?_ (Below.refl _ _) rfl
          exact Eng.run_load_el (.string ((Lnm.allW s).getD (i + 1) default)) rfl (show a.eval (.tmp 65) = Eng.elemPtr v_25 ((i + 1) * 1) from (H.dep 4 65 (by kernel_rfl) rfl)) (Eng.Reads.below Ftw_32 H.below) (Nfa.strs_at (Lnm.allW s) (i + 1) (by omega)) (by kernel_rfl)
        · refine Eng.plain rfl rfl fun a w' H => ?_
          refine Eng.call Tryd.func73 (by kernel_rfl) (by kernel_rfl) rfl #[nb, .string ((Lnm.allW s).getD (i + 1) default)] ?_ ?_
          · have e0 : a.eval (.tmp 62) = nb := (H.dep 1 62 (by kernel_rfl) rfl); have e1 : a.eval (.tmp 66) = .string ((Lnm.allW s).getD (i + 1) default) := (H.dep 5 66 (by kernel_rfl) rfl); simp only [List.map_toArray, List.map_cons, List.map_nil, e0, e1]
          refine (Lnm.place_calls nb l1 ((Lnm.allW s).getD (i + 1) default) _ (Eng.Reads.below Fn1_32 H.below)).mono ?_
          rintro e w'' ⟨rfl, hb⟩
          exact ⟨_, rfl, rfl, hb⟩
        · refine Eng.plain rfl rfl fun a w' H => ?_
          exact Eng.val (w1 := w') (v := .int .i64 (place l1 (Lpr.bl ((Lnm.allW s).getD (i + 1) default)))) (Eng.run_assign rfl (H.dep 6 67 (by kernel_rfl) rfl)) (Below.refl _ _) rfl
      intro act34 w34 T
      have h0_34 : act34.eval (.tmp 0) = .agg #[na, nb] := (T.rest 0 (by kernel_rfl)).trans h0_32
      have h1_34 : act34.eval (.tmp 1) = .string s := (T.rest 1 (by kernel_rfl)).trans h1_32
      have h2_34 : act34.eval (.tmp 2) = .pointer (some ⟨g2_1, 0, none⟩) := (T.rest 2 (by kernel_rfl)).trans h2_32
      have h4_34 : act34.eval (.tmp 4) = .pointer (some ⟨g4_1, 0, none⟩) := (T.rest 4 (by kernel_rfl)).trans h4_32
      have h5_34 : act34.eval (.tmp 5) = .int .i64 0 := (T.rest 5 (by kernel_rfl)).trans h5_32
      have h6_34 : act34.eval (.tmp 6) = v_25 := (T.rest 6 (by kernel_rfl)).trans h6_32
      have h7_34 : act34.eval (.tmp 7) = .string (Lnm.wd s k) := (T.rest 7 (by kernel_rfl)).trans h7_32
      have h8_34 : act34.eval (.tmp 8) = .int .i64 (k : Nat) := (T.rest 8 (by kernel_rfl)).trans h8_32
      have h9_34 : act34.eval (.tmp 9) = .pointer (some ⟨g9_28, 0, none⟩) := (T.rest 9 (by kernel_rfl)).trans h9_32
      have h10_34 : act34.eval (.tmp 10) = .pointer (some ⟨g10_29, 0, none⟩) := (T.rest 10 (by kernel_rfl)).trans h10_32
      have h11_34 : act34.eval (.tmp 11) = .int .i64 ((i + 1 : Nat) : Int) := (T.rest 11 (by kernel_rfl)).trans h11_32
      have h15_34 : act34.eval (.tmp 15) = .bool q15 := (T.rest 15 (by kernel_rfl)).trans h15_32
      have h20_34 : act34.eval (.tmp 20) = .bool q20 := (T.rest 20 (by kernel_rfl)).trans h20_32
      have h58_34 : act34.eval (.tmp 58) = .bool q58 := (T.rest 58 (by kernel_rfl)).trans h58_32
      have kg2_1_34 := (T.below.block _ lg2_1_32).trans kg2_1_32
      have lg2_1_34 := Nat.lt_of_lt_of_le lg2_1_32 T.below.size
      have kg4_1_34 := (T.below.block _ lg4_1_32).trans kg4_1_32
      have lg4_1_34 := Nat.lt_of_lt_of_le lg4_1_32 T.below.size
      have kg9_28_34 := (T.below.block _ lg9_28_32).trans kg9_28_32
      have lg9_28_34 := Nat.lt_of_lt_of_le lg9_28_32 T.below.size
      have kg10_29_34 := (T.below.block _ lg10_29_32).trans kg10_29_32
      have lg10_29_34 := Nat.lt_of_lt_of_le lg10_29_32 T.below.size
      have Fn0_34 := Eng.Reads.below Fn0_32 T.below
      have Fn1_34 := Eng.Reads.below Fn1_32 T.below
      have Ftw_34 := Eng.Reads.below Ftw_32 T.below
      have Otw_34 := Eng.own_below Otw_32 T.below
      have h12_34 : act34.eval (.tmp 12) = .int .i64 (place l1 (Lpr.bl ((Lnm.allW s).getD (i + 1) default))) := T.done 7 12 rfl rfl
      have d34 := T.defers.trans d32
      have s34 := T.size.trans s32
      have bl34 := bl32.trans (T.below.mono bl32.size)
      clear T
      refine Eng.tail_nil ?_
      first | show Code.wp Tryd.prog _ _ _ _ | skip
      refine wp_seq ?_
      obtain ⟨q69, Bq69⟩ : ∃ b : Bool, b = (decide ((place l1 (Lpr.bl ((Lnm.allW s).getD (i + 1) default))) ≥ 0)) := ⟨_, rfl⟩
      refine Eng.regionS (Eng.still [fun u_ => u_ = .int .i64 (place l1 (Lpr.bl ((Lnm.allW s).getD (i + 1) default))), fun u_ => u_ = .bool q69]) (fun i => ([.plain, .plain] : List Eng.Kind).getD i .plain) 2 0 86 s34 rfl (by kernel_rfl) (Eng.still_stable _) (Or.inr (Eng.still_any _)) ?_ ?_
      · refine Eng.Steps.cons (fun _ => ?_) (Eng.Steps.cons (fun _ => ?_) (Eng.Steps.nil))
        · refine Eng.plain rfl rfl fun a w' H => ?_
          exact Eng.val (w1 := w') (v := .int .i64 (place l1 (Lpr.bl ((Lnm.allW s).getD (i + 1) default)))) (Eng.run_move rfl ((H.kept 12 (by kernel_rfl)).trans h12_34)) (Below.refl _ _) rfl
        · refine Eng.plain rfl rfl fun a w' H => ?_
          refine Eng.val (w1 := w') (v := .bool (decide ((place l1 (Lpr.bl ((Lnm.allW s).getD (i + 1) default))) ≥ 0))) ?_ (Below.refl _ _) (by show _ = Value.bool q69; rw [Bq69])
          have e0 : a.eval (.tmp 68) = .int .i64 (place l1 (Lpr.bl ((Lnm.allW s).getD (i + 1) default))) := (H.dep 0 68 (by kernel_rfl) rfl)
          have e1 : a.eval (.const (.int .i64 0)) = .int .i64 0 := (rfl : a.eval (.const (.int .i64 0)) = .int .i64 0)
          simp only [execOp, resolve, List.map_toArray, List.map_cons, List.map_nil, e0, e1]
          go_simp
          all_goals first | rfl | (simp; done) | (rw [Bool.eq_iff_iff]; simp; done) | omega | (split <;> first | (simp_all; done) | (split <;> simp_all; done)) | skip
      intro act35 w35 T
      have h0_35 : act35.eval (.tmp 0) = .agg #[na, nb] := (T.rest 0 (by kernel_rfl)).trans h0_34
      have h1_35 : act35.eval (.tmp 1) = .string s := (T.rest 1 (by kernel_rfl)).trans h1_34
      have h2_35 : act35.eval (.tmp 2) = .pointer (some ⟨g2_1, 0, none⟩) := (T.rest 2 (by kernel_rfl)).trans h2_34
      have h4_35 : act35.eval (.tmp 4) = .pointer (some ⟨g4_1, 0, none⟩) := (T.rest 4 (by kernel_rfl)).trans h4_34
      have h5_35 : act35.eval (.tmp 5) = .int .i64 0 := (T.rest 5 (by kernel_rfl)).trans h5_34
      have h6_35 : act35.eval (.tmp 6) = v_25 := (T.rest 6 (by kernel_rfl)).trans h6_34
      have h7_35 : act35.eval (.tmp 7) = .string (Lnm.wd s k) := (T.rest 7 (by kernel_rfl)).trans h7_34
      have h8_35 : act35.eval (.tmp 8) = .int .i64 (k : Nat) := (T.rest 8 (by kernel_rfl)).trans h8_34
      have h9_35 : act35.eval (.tmp 9) = .pointer (some ⟨g9_28, 0, none⟩) := (T.rest 9 (by kernel_rfl)).trans h9_34
      have h10_35 : act35.eval (.tmp 10) = .pointer (some ⟨g10_29, 0, none⟩) := (T.rest 10 (by kernel_rfl)).trans h10_34
      have h11_35 : act35.eval (.tmp 11) = .int .i64 ((i + 1 : Nat) : Int) := (T.rest 11 (by kernel_rfl)).trans h11_34
      have h12_35 : act35.eval (.tmp 12) = .int .i64 (place l1 (Lpr.bl ((Lnm.allW s).getD (i + 1) default))) := (T.rest 12 (by kernel_rfl)).trans h12_34
      have h15_35 : act35.eval (.tmp 15) = .bool q15 := (T.rest 15 (by kernel_rfl)).trans h15_34
      have h20_35 : act35.eval (.tmp 20) = .bool q20 := (T.rest 20 (by kernel_rfl)).trans h20_34
      have h58_35 : act35.eval (.tmp 58) = .bool q58 := (T.rest 58 (by kernel_rfl)).trans h58_34
      have kg2_1_35 := (T.below.block _ lg2_1_34).trans kg2_1_34
      have lg2_1_35 := Nat.lt_of_lt_of_le lg2_1_34 T.below.size
      have kg4_1_35 := (T.below.block _ lg4_1_34).trans kg4_1_34
      have lg4_1_35 := Nat.lt_of_lt_of_le lg4_1_34 T.below.size
      have kg9_28_35 := (T.below.block _ lg9_28_34).trans kg9_28_34
      have lg9_28_35 := Nat.lt_of_lt_of_le lg9_28_34 T.below.size
      have kg10_29_35 := (T.below.block _ lg10_29_34).trans kg10_29_34
      have lg10_29_35 := Nat.lt_of_lt_of_le lg10_29_34 T.below.size
      have Fn0_35 := Eng.Reads.below Fn0_34 T.below
      have Fn1_35 := Eng.Reads.below Fn1_34 T.below
      have Ftw_35 := Eng.Reads.below Ftw_34 T.below
      have Otw_35 := Eng.own_below Otw_34 T.below
      have h69_35 : act35.eval (.tmp 69) = .bool q69 := T.done 1 69 rfl rfl
      have d35 := T.defers.trans d34
      have s35 := T.size.trans s34
      have bl35 := bl34.trans (T.below.mono bl34.size)
      clear T
      refine Eng.tail_nil ?_
      first | show Code.wp Tryd.prog _ _ _ _ | skip
      refine wp_cond_split h69_35 (fun hq => ?_) (fun hq => ?_)
      ·
        have kn36 := hq
        have c69 := Bq69.symm.trans hq
        clear hq
        have c69 := of_decide_eq_true c69
        have hge := c69
        obtain ⟨pn, hpn⟩ : ∃ pn : Nat, (place l1 (Lpr.bl ((Lnm.allW s).getD (i + 1) default))).toNat = pn := ⟨_, rfl⟩
        refine Eng.regionS (Eng.still [fun u_ => u_ = .int .i64 (place l1 (Lpr.bl ((Lnm.allW s).getD (i + 1) default))), fun u_ => u_ = .pointer (some ⟨g10_29, pn, none⟩)]) (fun i => ([.plain, .plain] : List Eng.Kind).getD i .plain) 2 1 86 s35 rfl (by kernel_rfl) (Eng.still_stable _) (Or.inr (Eng.still_any _)) ?_ ?_
        · refine Eng.Steps.cons (fun _ => ?_) (Eng.Steps.cons (fun _ => ?_) (Eng.Steps.cons (fun hlt => ?_) (Eng.Steps.nil)))
          · refine Eng.plain rfl rfl fun a w' H => ?_
            exact Eng.val (w1 := w') (v := .int .i64 (place l1 (Lpr.bl ((Lnm.allW s).getD (i + 1) default)))) (Eng.run_move rfl ((H.kept 12 (by kernel_rfl)).trans h12_35)) (Below.refl _ _) rfl
          · refine Eng.plain rfl rfl fun a w' H => ?_
            refine Eng.val (w1 := w') (v := .pointer (some ⟨g10_29, pn, none⟩)) ?_ (Below.refl _ _) rfl
            exact Eng.run_indexAddr rfl Tryd.underlying101 (by kernel_rfl) ((H.kept 10 (by kernel_rfl)).trans h10_35) ((H.dep 0 70 (by kernel_rfl) rfl).trans (congrArg (Value.int _) (show place l1 (Lpr.bl ((Lnm.allW s).getD (i + 1) default)) = ((pn : Nat) : Int) from by omega))) (by decide) (by omega)
          · exact absurd hlt (by decide)
        intro act37 w37 T
        have h0_37 : act37.eval (.tmp 0) = .agg #[na, nb] := (T.rest 0 (by kernel_rfl)).trans h0_35
        have h1_37 : act37.eval (.tmp 1) = .string s := (T.rest 1 (by kernel_rfl)).trans h1_35
        have h2_37 : act37.eval (.tmp 2) = .pointer (some ⟨g2_1, 0, none⟩) := (T.rest 2 (by kernel_rfl)).trans h2_35
        have h4_37 : act37.eval (.tmp 4) = .pointer (some ⟨g4_1, 0, none⟩) := (T.rest 4 (by kernel_rfl)).trans h4_35
        have h5_37 : act37.eval (.tmp 5) = .int .i64 0 := (T.rest 5 (by kernel_rfl)).trans h5_35
        have h6_37 : act37.eval (.tmp 6) = v_25 := (T.rest 6 (by kernel_rfl)).trans h6_35
        have h7_37 : act37.eval (.tmp 7) = .string (Lnm.wd s k) := (T.rest 7 (by kernel_rfl)).trans h7_35
        have h8_37 : act37.eval (.tmp 8) = .int .i64 (k : Nat) := (T.rest 8 (by kernel_rfl)).trans h8_35
        have h9_37 : act37.eval (.tmp 9) = .pointer (some ⟨g9_28, 0, none⟩) := (T.rest 9 (by kernel_rfl)).trans h9_35
        have h10_37 : act37.eval (.tmp 10) = .pointer (some ⟨g10_29, 0, none⟩) := (T.rest 10 (by kernel_rfl)).trans h10_35
        have h11_37 : act37.eval (.tmp 11) = .int .i64 ((i + 1 : Nat) : Int) := (T.rest 11 (by kernel_rfl)).trans h11_35
        have h12_37 : act37.eval (.tmp 12) = .int .i64 (place l1 (Lpr.bl ((Lnm.allW s).getD (i + 1) default))) := (T.rest 12 (by kernel_rfl)).trans h12_35
        have h15_37 : act37.eval (.tmp 15) = .bool q15 := (T.rest 15 (by kernel_rfl)).trans h15_35
        have h20_37 : act37.eval (.tmp 20) = .bool q20 := (T.rest 20 (by kernel_rfl)).trans h20_35
        have h58_37 : act37.eval (.tmp 58) = .bool q58 := (T.rest 58 (by kernel_rfl)).trans h58_35
        have h69_37 : act37.eval (.tmp 69) = .bool q69 := (T.rest 69 (by kernel_rfl)).trans h69_35
        have kg2_1_37 := (T.below.block _ lg2_1_35).trans kg2_1_35
        have lg2_1_37 := Nat.lt_of_lt_of_le lg2_1_35 T.below.size
        have kg4_1_37 := (T.below.block _ lg4_1_35).trans kg4_1_35
        have lg4_1_37 := Nat.lt_of_lt_of_le lg4_1_35 T.below.size
        have kg9_28_37 := (T.below.block _ lg9_28_35).trans kg9_28_35
        have lg9_28_37 := Nat.lt_of_lt_of_le lg9_28_35 T.below.size
        have kg10_29_37 := (T.below.block _ lg10_29_35).trans kg10_29_35
        have lg10_29_37 := Nat.lt_of_lt_of_le lg10_29_35 T.below.size
        have Fn0_37 := Eng.Reads.below Fn0_35 T.below
        have Fn1_37 := Eng.Reads.below Fn1_35 T.below
        have Ftw_37 := Eng.Reads.below Ftw_35 T.below
        have Otw_37 := Eng.own_below Otw_35 T.below
        have h71_37 : act37.eval (.tmp 71) = .pointer (some ⟨g10_29, pn, none⟩) := T.done 1 71 rfl rfl
        have d37 := T.defers.trans d35
        have s37 := T.size.trans s35
        have bl37 := bl35.trans (T.below.mono bl35.size)
        clear T
        refine Eng.tail_set (n := pn) (v := .bool true) (new := (List.map Value.bool ((Lnm.inT l1 s i).set (pn) true)).toArray) rfl rfl rfl kg10_29_37 (Lat.bits_set (Lnm.inT l1 s i) (pn) true) ?_ fun w38 S => ?_
        · have e0 : act37.eval (.tmp 71) = .pointer (some ⟨g10_29, pn, none⟩) := h71_37
          have e1 : act37.eval (.const (.bool true)) = .bool true := (rfl : act37.eval (.const (.bool true)) = .bool true)
          have z0 := (Eng.cells kg10_29_37 (pn)).trans (Lat.bit_at (Lnm.inT_len _ _ _) (by omega))
          have f0 := Eng.unfrozen kg10_29_37 (pn)
          simp only [execOp]
          rw [e0, e1]
          go_simp
        have kg2_1_38 := (S.far _ ne_g10_29_g2_1).trans kg2_1_37
        have lg2_1_38 := Nat.lt_of_lt_of_eq lg2_1_37 S.size.symm
        have kg4_1_38 := (S.far _ ne_g10_29_g4_1).trans kg4_1_37
        have lg4_1_38 := Nat.lt_of_lt_of_eq lg4_1_37 S.size.symm
        have kg9_28_38 := (S.far _ ne_g10_29_g9_28).trans kg9_28_37
        have lg9_28_38 := Nat.lt_of_lt_of_eq lg9_28_37 S.size.symm
        have kg10_29_38 := S.new
        have lg10_29_38 := Nat.lt_of_lt_of_eq lg10_29_37 S.size.symm
        have bl38 := S.below bl37 og10_29
        have Fn0_38 := Eng.Reads.below F0 bl38
        have Fn1_38 := Eng.Reads.below F1 bl38
        have Otw_38 := Eng.own_sets Otw_37 S kg10_29_37 rfl
        have Ftw_38 := Eng.Reads.of_own Otw_38
        clear S
        refine Eng.tail_nil ?_
        first | show Code.wp Tryd.prog _ _ _ _ | skip
        refine Eng.regionS (Eng.still [fun u_ => u_ = .int .i64 ((i + 1 : Nat) : Int), fun u_ => u_ = .int .i64 (IntKind.i64.wrap (((i + 1 : Nat) : Int) + 1)), fun u_ => u_ = .int .i64 (IntKind.i64.wrap (((i + 1 : Nat) : Int) + 1))]) (fun i => ([.plain, .plain, .plain] : List Eng.Kind).getD i .plain) 3 0 86 s37 rfl (by kernel_rfl) (Eng.still_stable _) (Or.inr (Eng.still_any _)) ?_ ?_
        · refine Eng.Steps.cons (fun _ => ?_) (Eng.Steps.cons (fun _ => ?_) (Eng.Steps.cons (fun _ => ?_) (Eng.Steps.nil)))
          · refine Eng.plain rfl rfl fun a w' H => ?_
            exact Eng.val (w1 := w') (v := .int .i64 ((i + 1 : Nat) : Int)) (Eng.run_move rfl ((H.kept 11 (by kernel_rfl)).trans h11_37)) (Below.refl _ _) rfl
          · refine Eng.plain rfl rfl fun a w' H => ?_
            refine Eng.val (w1 := w') (v := .int .i64 (IntKind.i64.wrap (((i + 1 : Nat) : Int) + 1))) ?_ (Below.refl _ _) rfl
            have e0 : a.eval (.tmp 59) = .int .i64 ((i + 1 : Nat) : Int) := (H.dep 0 59 (by kernel_rfl) rfl)
            have e1 : a.eval (.const (.int .i64 1)) = .int .i64 1 := (rfl : a.eval (.const (.int .i64 1)) = .int .i64 1)
            simp only [execOp, resolve, List.map_toArray, List.map_cons, List.map_nil, e0, e1]
            go_simp
            all_goals first | rfl | (simp; done) | (rw [Bool.eq_iff_iff]; simp; done) | omega | (split <;> first | (simp_all; done) | (split <;> simp_all; done)) | skip
          · refine Eng.plain rfl rfl fun a w' H => ?_
            exact Eng.val (w1 := w') (v := .int .i64 (IntKind.i64.wrap (((i + 1 : Nat) : Int) + 1))) (Eng.run_assign rfl (H.dep 1 60 (by kernel_rfl) rfl)) (Below.refl _ _) rfl
        intro act39 w39 T
        have h0_39 : act39.eval (.tmp 0) = .agg #[na, nb] := (T.rest 0 (by kernel_rfl)).trans h0_37
        have h1_39 : act39.eval (.tmp 1) = .string s := (T.rest 1 (by kernel_rfl)).trans h1_37
        have h2_39 : act39.eval (.tmp 2) = .pointer (some ⟨g2_1, 0, none⟩) := (T.rest 2 (by kernel_rfl)).trans h2_37
        have h4_39 : act39.eval (.tmp 4) = .pointer (some ⟨g4_1, 0, none⟩) := (T.rest 4 (by kernel_rfl)).trans h4_37
        have h5_39 : act39.eval (.tmp 5) = .int .i64 0 := (T.rest 5 (by kernel_rfl)).trans h5_37
        have h6_39 : act39.eval (.tmp 6) = v_25 := (T.rest 6 (by kernel_rfl)).trans h6_37
        have h7_39 : act39.eval (.tmp 7) = .string (Lnm.wd s k) := (T.rest 7 (by kernel_rfl)).trans h7_37
        have h8_39 : act39.eval (.tmp 8) = .int .i64 (k : Nat) := (T.rest 8 (by kernel_rfl)).trans h8_37
        have h9_39 : act39.eval (.tmp 9) = .pointer (some ⟨g9_28, 0, none⟩) := (T.rest 9 (by kernel_rfl)).trans h9_37
        have h10_39 : act39.eval (.tmp 10) = .pointer (some ⟨g10_29, 0, none⟩) := (T.rest 10 (by kernel_rfl)).trans h10_37
        have h12_39 : act39.eval (.tmp 12) = .int .i64 (place l1 (Lpr.bl ((Lnm.allW s).getD (i + 1) default))) := (T.rest 12 (by kernel_rfl)).trans h12_37
        have h15_39 : act39.eval (.tmp 15) = .bool q15 := (T.rest 15 (by kernel_rfl)).trans h15_37
        have h20_39 : act39.eval (.tmp 20) = .bool q20 := (T.rest 20 (by kernel_rfl)).trans h20_37
        have h58_39 : act39.eval (.tmp 58) = .bool q58 := (T.rest 58 (by kernel_rfl)).trans h58_37
        have h69_39 : act39.eval (.tmp 69) = .bool q69 := (T.rest 69 (by kernel_rfl)).trans h69_37
        have kg2_1_39 := (T.below.block _ lg2_1_38).trans kg2_1_38
        have lg2_1_39 := Nat.lt_of_lt_of_le lg2_1_38 T.below.size
        have kg4_1_39 := (T.below.block _ lg4_1_38).trans kg4_1_38
        have lg4_1_39 := Nat.lt_of_lt_of_le lg4_1_38 T.below.size
        have kg9_28_39 := (T.below.block _ lg9_28_38).trans kg9_28_38
        have lg9_28_39 := Nat.lt_of_lt_of_le lg9_28_38 T.below.size
        have kg10_29_39 := (T.below.block _ lg10_29_38).trans kg10_29_38
        have lg10_29_39 := Nat.lt_of_lt_of_le lg10_29_38 T.below.size
        have Fn0_39 := Eng.Reads.below Fn0_38 T.below
        have Fn1_39 := Eng.Reads.below Fn1_38 T.below
        have Ftw_39 := Eng.Reads.below Ftw_38 T.below
        have Otw_39 := Eng.own_below Otw_38 T.below
        have h11_39 : act39.eval (.tmp 11) = .int .i64 (IntKind.i64.wrap (((i + 1 : Nat) : Int) + 1)) := T.done 2 11 rfl rfl
        have d39 := T.defers.trans d37
        have s39 := T.size.trans s37
        have bl39 := bl38.trans (T.below.mono bl38.size)
        clear T
        refine Eng.tail_nil ?_
        exact ⟨_, by omega, i + 1, rfl, by omega, Otw_39, d39, s39, bl39, h0_39, h1_39, h2_39, h4_39, h5_39, h6_39, h7_39, h8_39, h9_39, h10_39, (h11_39.trans (by first | rfl | (congr 1; rw [Eng.i64_id (by omega) (by omega)]; omega) | (simp; done))), h15_39, h20_39, kg2_1_39, lg2_1_39, kg4_1_39, lg4_1_39, kg9_28_39, lg9_28_39, (kg10_29_39.trans (by first | rfl | (rw [Lnm.inT_succ hi0, if_pos hge, hpn]; done) | (rw [Lnm.inT_succ hi0, if_neg (by omega)]; done))), lg10_29_39⟩
      ·
        have kn40 := hq
        have c69 := Bq69.symm.trans hq
        clear hq
        have c69 := of_decide_eq_false c69
        have hge := c69
        refine wp_skip ?_
        first | show Code.wp Tryd.prog _ _ _ _ | skip
        refine Eng.regionS (Eng.still [fun u_ => u_ = .int .i64 ((i + 1 : Nat) : Int), fun u_ => u_ = .int .i64 (IntKind.i64.wrap (((i + 1 : Nat) : Int) + 1)), fun u_ => u_ = .int .i64 (IntKind.i64.wrap (((i + 1 : Nat) : Int) + 1))]) (fun i => ([.plain, .plain, .plain] : List Eng.Kind).getD i .plain) 3 0 86 s35 rfl (by kernel_rfl) (Eng.still_stable _) (Or.inr (Eng.still_any _)) ?_ ?_
        · refine Eng.Steps.cons (fun _ => ?_) (Eng.Steps.cons (fun _ => ?_) (Eng.Steps.cons (fun _ => ?_) (Eng.Steps.nil)))
          · refine Eng.plain rfl rfl fun a w' H => ?_
            exact Eng.val (w1 := w') (v := .int .i64 ((i + 1 : Nat) : Int)) (Eng.run_move rfl ((H.kept 11 (by kernel_rfl)).trans h11_35)) (Below.refl _ _) rfl
          · refine Eng.plain rfl rfl fun a w' H => ?_
            refine Eng.val (w1 := w') (v := .int .i64 (IntKind.i64.wrap (((i + 1 : Nat) : Int) + 1))) ?_ (Below.refl _ _) rfl
            have e0 : a.eval (.tmp 59) = .int .i64 ((i + 1 : Nat) : Int) := (H.dep 0 59 (by kernel_rfl) rfl)
            have e1 : a.eval (.const (.int .i64 1)) = .int .i64 1 := (rfl : a.eval (.const (.int .i64 1)) = .int .i64 1)
            simp only [execOp, resolve, List.map_toArray, List.map_cons, List.map_nil, e0, e1]
            go_simp
            all_goals first | rfl | (simp; done) | (rw [Bool.eq_iff_iff]; simp; done) | omega | (split <;> first | (simp_all; done) | (split <;> simp_all; done)) | skip
          · refine Eng.plain rfl rfl fun a w' H => ?_
            exact Eng.val (w1 := w') (v := .int .i64 (IntKind.i64.wrap (((i + 1 : Nat) : Int) + 1))) (Eng.run_assign rfl (H.dep 1 60 (by kernel_rfl) rfl)) (Below.refl _ _) rfl
        intro act41 w41 T
        have h0_41 : act41.eval (.tmp 0) = .agg #[na, nb] := (T.rest 0 (by kernel_rfl)).trans h0_35
        have h1_41 : act41.eval (.tmp 1) = .string s := (T.rest 1 (by kernel_rfl)).trans h1_35
        have h2_41 : act41.eval (.tmp 2) = .pointer (some ⟨g2_1, 0, none⟩) := (T.rest 2 (by kernel_rfl)).trans h2_35
        have h4_41 : act41.eval (.tmp 4) = .pointer (some ⟨g4_1, 0, none⟩) := (T.rest 4 (by kernel_rfl)).trans h4_35
        have h5_41 : act41.eval (.tmp 5) = .int .i64 0 := (T.rest 5 (by kernel_rfl)).trans h5_35
        have h6_41 : act41.eval (.tmp 6) = v_25 := (T.rest 6 (by kernel_rfl)).trans h6_35
        have h7_41 : act41.eval (.tmp 7) = .string (Lnm.wd s k) := (T.rest 7 (by kernel_rfl)).trans h7_35
        have h8_41 : act41.eval (.tmp 8) = .int .i64 (k : Nat) := (T.rest 8 (by kernel_rfl)).trans h8_35
        have h9_41 : act41.eval (.tmp 9) = .pointer (some ⟨g9_28, 0, none⟩) := (T.rest 9 (by kernel_rfl)).trans h9_35
        have h10_41 : act41.eval (.tmp 10) = .pointer (some ⟨g10_29, 0, none⟩) := (T.rest 10 (by kernel_rfl)).trans h10_35
        have h12_41 : act41.eval (.tmp 12) = .int .i64 (place l1 (Lpr.bl ((Lnm.allW s).getD (i + 1) default))) := (T.rest 12 (by kernel_rfl)).trans h12_35
        have h15_41 : act41.eval (.tmp 15) = .bool q15 := (T.rest 15 (by kernel_rfl)).trans h15_35
        have h20_41 : act41.eval (.tmp 20) = .bool q20 := (T.rest 20 (by kernel_rfl)).trans h20_35
        have h58_41 : act41.eval (.tmp 58) = .bool q58 := (T.rest 58 (by kernel_rfl)).trans h58_35
        have h69_41 : act41.eval (.tmp 69) = .bool q69 := (T.rest 69 (by kernel_rfl)).trans h69_35
        have kg2_1_41 := (T.below.block _ lg2_1_35).trans kg2_1_35
        have lg2_1_41 := Nat.lt_of_lt_of_le lg2_1_35 T.below.size
        have kg4_1_41 := (T.below.block _ lg4_1_35).trans kg4_1_35
        have lg4_1_41 := Nat.lt_of_lt_of_le lg4_1_35 T.below.size
        have kg9_28_41 := (T.below.block _ lg9_28_35).trans kg9_28_35
        have lg9_28_41 := Nat.lt_of_lt_of_le lg9_28_35 T.below.size
        have kg10_29_41 := (T.below.block _ lg10_29_35).trans kg10_29_35
        have lg10_29_41 := Nat.lt_of_lt_of_le lg10_29_35 T.below.size
        have Fn0_41 := Eng.Reads.below Fn0_35 T.below
        have Fn1_41 := Eng.Reads.below Fn1_35 T.below
        have Ftw_41 := Eng.Reads.below Ftw_35 T.below
        have Otw_41 := Eng.own_below Otw_35 T.below
        have h11_41 : act41.eval (.tmp 11) = .int .i64 (IntKind.i64.wrap (((i + 1 : Nat) : Int) + 1)) := T.done 2 11 rfl rfl
        have d41 := T.defers.trans d35
        have s41 := T.size.trans s35
        have bl41 := bl35.trans (T.below.mono bl35.size)
        clear T
        refine Eng.tail_nil ?_
        exact ⟨_, by omega, i + 1, rfl, by omega, Otw_41, d41, s41, bl41, h0_41, h1_41, h2_41, h4_41, h5_41, h6_41, h7_41, h8_41, h9_41, h10_41, (h11_41.trans (by first | rfl | (congr 1; rw [Eng.i64_id (by omega) (by omega)]; omega) | (simp; done))), h15_41, h20_41, kg2_1_41, lg2_1_41, kg4_1_41, lg4_1_41, kg9_28_41, lg9_28_41, (kg10_29_41.trans (by first | rfl | (rw [Lnm.inT_succ hi0, if_pos hge, hpn]; done) | (rw [Lnm.inT_succ hi0, if_neg (by omega)]; done))), lg10_29_41⟩
    ·
      have kn42 := hq
      have c58 := Bq58.symm.trans hq
      clear hq
      have c58 := of_decide_eq_false c58
      have hie : (Lnm.allW s).length ≤ i + 1 := by omega
      have hcr := Lnm.ofL_range (Lnm.inT l1 s i)
      refine wp_exit ?_
      first | show Code.wp Tryd.prog _ _ _ _ | skip
      first | show Code.wp Tryd.prog _ _ _ _ | skip
      refine wp_seq ?_
      refine Eng.regionS (Eng.still [fun u_ => u_ = .agg ((List.map Value.bool (Lnm.inT l1 s i)).toArray), fun u_ => u_ = .int .u64 (Lat.ofL (Lnm.inT l1 s i)), fun u_ => u_ = .pointer (some ⟨g9_28, 1, none⟩)]) (fun i => ([.plain, .plain, .plain] : List Eng.Kind).getD i .plain) 3 1 86 s32 rfl (by kernel_rfl) (Eng.still_stable _) (Or.inr (Eng.still_any _)) ?_ ?_
      · refine Eng.Steps.cons (fun _ => ?_) (Eng.Steps.cons (fun _ => ?_) (Eng.Steps.cons (fun _ => ?_) (Eng.Steps.cons (fun hlt => ?_) (Eng.Steps.nil))))
        · refine Eng.plain rfl rfl fun a w' H => ?_
          have kb := (H.below.block _ lg10_29_32).trans kg10_29_32
          refine Eng.val (w1 := w') (v := .agg ((List.map Value.bool (Lnm.inT l1 s i)).toArray)) ?_ (Below.refl _ _) rfl
          exact Eng.run_load_all rfl ((H.kept 10 (by kernel_rfl)).trans h10_32) kb Tryd.underlying101 rfl (by rw [Lat.bits_size (Lnm.inT_len _ _ _)]; kernel_rfl)
        · refine Eng.plain rfl rfl fun a w' H => ?_
          refine Eng.call Tryd.func67 (by kernel_rfl) (by kernel_rfl) rfl #[.agg ((List.map Value.bool (Lnm.inT l1 s i)).toArray)] ?_ ?_
          · have e0 : a.eval (.tmp 72) = .agg ((List.map Value.bool (Lnm.inT l1 s i)).toArray) := (H.dep 0 72 (by kernel_rfl) rfl); simp only [List.map_toArray, List.map_cons, List.map_nil, e0]
          refine (Lat.of_calls (Lnm.inT l1 s i) _ (Lnm.inT_len _ _ _)).mono ?_
          rintro e w'' ⟨rfl, hb⟩
          exact ⟨_, rfl, rfl, hb⟩
        · refine Eng.plain rfl rfl fun a w' H => ?_
          refine Eng.val (w1 := w') (v := .pointer (some ⟨g9_28, 1, none⟩)) ?_ (Below.refl _ _) rfl
          have e0 : a.eval (.tmp 9) = .pointer (some ⟨g9_28, 0, none⟩) := ((H.kept 9 (by kernel_rfl)).trans h9_32)
          simp only [execOp, resolve, List.map_toArray, List.map_cons, List.map_nil, e0]
          go_simp
          all_goals first | rfl | (simp; done) | (rw [Bool.eq_iff_iff]; simp; done) | omega | (split <;> first | (simp_all; done) | (split <;> simp_all; done)) | skip
        · exact absurd hlt (by decide)
      intro act43 w43 T
      have h0_43 : act43.eval (.tmp 0) = .agg #[na, nb] := (T.rest 0 (by kernel_rfl)).trans h0_32
      have h1_43 : act43.eval (.tmp 1) = .string s := (T.rest 1 (by kernel_rfl)).trans h1_32
      have h2_43 : act43.eval (.tmp 2) = .pointer (some ⟨g2_1, 0, none⟩) := (T.rest 2 (by kernel_rfl)).trans h2_32
      have h4_43 : act43.eval (.tmp 4) = .pointer (some ⟨g4_1, 0, none⟩) := (T.rest 4 (by kernel_rfl)).trans h4_32
      have h5_43 : act43.eval (.tmp 5) = .int .i64 0 := (T.rest 5 (by kernel_rfl)).trans h5_32
      have h6_43 : act43.eval (.tmp 6) = v_25 := (T.rest 6 (by kernel_rfl)).trans h6_32
      have h7_43 : act43.eval (.tmp 7) = .string (Lnm.wd s k) := (T.rest 7 (by kernel_rfl)).trans h7_32
      have h8_43 : act43.eval (.tmp 8) = .int .i64 (k : Nat) := (T.rest 8 (by kernel_rfl)).trans h8_32
      have h9_43 : act43.eval (.tmp 9) = .pointer (some ⟨g9_28, 0, none⟩) := (T.rest 9 (by kernel_rfl)).trans h9_32
      have h10_43 : act43.eval (.tmp 10) = .pointer (some ⟨g10_29, 0, none⟩) := (T.rest 10 (by kernel_rfl)).trans h10_32
      have h11_43 : act43.eval (.tmp 11) = .int .i64 ((i + 1 : Nat) : Int) := (T.rest 11 (by kernel_rfl)).trans h11_32
      have h15_43 : act43.eval (.tmp 15) = .bool q15 := (T.rest 15 (by kernel_rfl)).trans h15_32
      have h20_43 : act43.eval (.tmp 20) = .bool q20 := (T.rest 20 (by kernel_rfl)).trans h20_32
      have h58_43 : act43.eval (.tmp 58) = .bool q58 := (T.rest 58 (by kernel_rfl)).trans h58_32
      have kg2_1_43 := (T.below.block _ lg2_1_32).trans kg2_1_32
      have lg2_1_43 := Nat.lt_of_lt_of_le lg2_1_32 T.below.size
      have kg4_1_43 := (T.below.block _ lg4_1_32).trans kg4_1_32
      have lg4_1_43 := Nat.lt_of_lt_of_le lg4_1_32 T.below.size
      have kg9_28_43 := (T.below.block _ lg9_28_32).trans kg9_28_32
      have lg9_28_43 := Nat.lt_of_lt_of_le lg9_28_32 T.below.size
      have kg10_29_43 := (T.below.block _ lg10_29_32).trans kg10_29_32
      have lg10_29_43 := Nat.lt_of_lt_of_le lg10_29_32 T.below.size
      have Fn0_43 := Eng.Reads.below Fn0_32 T.below
      have Fn1_43 := Eng.Reads.below Fn1_32 T.below
      have Ftw_43 := Eng.Reads.below Ftw_32 T.below
      have Otw_43 := Eng.own_below Otw_32 T.below
      have h73_43 : act43.eval (.tmp 73) = .int .u64 (Lat.ofL (Lnm.inT l1 s i)) := T.done 1 73 rfl rfl
      have h74_43 : act43.eval (.tmp 74) = .pointer (some ⟨g9_28, 1, none⟩) := T.done 2 74 rfl rfl
      have d43 := T.defers.trans d32
      have s43 := T.size.trans s32
      have bl43 := bl32.trans (T.below.mono bl32.size)
      clear T
      refine Eng.tail_set (n := 1) (v := .int .u64 (Lat.ofL (Lnm.inT l1 s i))) (new := #[.int .i64 (place l0 (Lpr.bl ((Lnm.allW s).getD 0 default))), .int .u64 (Lat.ofL (Lnm.inT l1 s i))]) rfl rfl rfl kg9_28_43 rfl ?_ fun w44 S => ?_
      · have e0 : act43.eval (.tmp 74) = .pointer (some ⟨g9_28, 1, none⟩) := h74_43
        have e1 : act43.eval (.tmp 73) = .int .u64 (Lat.ofL (Lnm.inT l1 s i)) := h73_43
        have z0 := (Eng.cells kg9_28_43 (1)).trans (rfl)
        have f0 := Eng.unfrozen kg9_28_43 (1)
        simp only [execOp]
        rw [e0, e1]
        go_simp
      have kg2_1_44 := (S.far _ ne_g9_28_g2_1).trans kg2_1_43
      have lg2_1_44 := Nat.lt_of_lt_of_eq lg2_1_43 S.size.symm
      have kg4_1_44 := (S.far _ ne_g9_28_g4_1).trans kg4_1_43
      have lg4_1_44 := Nat.lt_of_lt_of_eq lg4_1_43 S.size.symm
      have kg9_28_44 := S.new
      have lg9_28_44 := Nat.lt_of_lt_of_eq lg9_28_43 S.size.symm
      have kg10_29_44 := (S.far _ ne_g10_29_g9_28.symm).trans kg10_29_43
      have lg10_29_44 := Nat.lt_of_lt_of_eq lg10_29_43 S.size.symm
      have bl44 := S.below bl43 og9_28
      have Fn0_44 := Eng.Reads.below F0 bl44
      have Fn1_44 := Eng.Reads.below F1 bl44
      have Otw_44 := Eng.own_sets Otw_43 S kg9_28_43 rfl
      have Ftw_44 := Eng.Reads.of_own Otw_44
      clear S
      refine Eng.tail_nil ?_
      first | show Code.wp Tryd.prog _ _ _ _ | skip
      refine wp_seq ?_
      refine wp_seq ?_
      obtain ⟨q76, Bq76⟩ : ∃ b : Bool, b = (s.toList.isEmpty) := ⟨_, rfl⟩
      obtain ⟨q82, Bq82⟩ : ∃ b : Bool, b = (!((Lnm.mkB (Lpr.printB l0 l1 (place l0 (Lpr.bl ((Lnm.allW s).getD 0 default))) (Lat.ofL (Lnm.inT l1 s i)))).toList == s.toList)) := ⟨_, rfl⟩
      obtain ⟨q83, Bq83⟩ : ∃ b : Bool, b = (q76 || q82) := ⟨_, rfl⟩
      refine Eng.regionS (Eng.still [fun u_ => u_ = .string s, fun u_ => u_ = .bool q76, fun u_ => u_ = .bool q76, fun u_ => u_ = bif (q76 == false) then (.agg #[na, nb]) else undef, fun u_ => u_ = bif (q76 == false) then (.agg #[.int .i64 (place l0 (Lpr.bl ((Lnm.allW s).getD 0 default))), .int .u64 (Lat.ofL (Lnm.inT l1 s i))]) else undef, fun u_ => u_ = bif (q76 == false) then (.string (Lnm.mkB (Lpr.printB l0 l1 (place l0 (Lpr.bl ((Lnm.allW s).getD 0 default))) (Lat.ofL (Lnm.inT l1 s i))))) else undef, fun u_ => u_ = bif (q76 == false) then (.string s) else undef, fun u_ => u_ = bif (q76 == false) then (.bool q82) else undef, fun u_ => u_ = .bool q83]) (fun i => ([.plain, .plain, .plain, .plain, .plain, .plain, .plain, .plain, .plain] : List Eng.Kind).getD i .plain) 9 0 86 s43 rfl (by kernel_rfl) (Eng.still_stable _) (Or.inr (Eng.still_any _)) ?_ ?_
      · refine Eng.Steps.cons (fun _ => ?_) (Eng.Steps.cons (fun _ => ?_) (Eng.Steps.cons (fun _ => ?_) (Eng.Steps.cons (fun _ => ?_) (Eng.Steps.cons (fun _ => ?_) (Eng.Steps.cons (fun _ => ?_) (Eng.Steps.cons (fun _ => ?_) (Eng.Steps.cons (fun _ => ?_) (Eng.Steps.cons (fun _ => ?_) (Eng.Steps.nil)))))))))
        · refine Eng.plain rfl rfl fun a w' H => ?_
          exact Eng.val (w1 := w') (v := .string s) (Eng.run_move rfl ((H.kept 1 (by kernel_rfl)).trans h1_43)) (Below.refl _ _) rfl
        · refine Eng.plain rfl rfl fun a w' H => ?_
          refine Eng.val (w1 := w') (v := .bool s.toList.isEmpty) ?_ (Below.refl _ _) (by show _ = Value.bool q76; rw [Bq76])
          have e0 : a.eval (.tmp 75) = .string s := (H.dep 0 75 (by kernel_rfl) rfl)
          have e1 : a.eval (.const (.string ⟨#[]⟩)) = .string ⟨#[]⟩ := (rfl : a.eval (.const (.string ⟨#[]⟩)) = .string ⟨#[]⟩)
          simp only [execOp, resolve, List.map_toArray, List.map_cons, List.map_nil, e0, e1]
          go_simp
          all_goals first | rfl | (simp; done) | (rw [Bool.eq_iff_iff]; simp; done) | omega | (split <;> first | (simp_all; done) | (split <;> simp_all; done)) | skip
        · refine Eng.plain rfl rfl fun a w' H => ?_
          exact Eng.val (w1 := w') (v := .bool q76) (Eng.run_move rfl (H.dep 1 76 (by kernel_rfl) rfl)) (Below.refl _ _) rfl
        · refine Eng.guarded1 (j := 2) (d := 77) (b := q76) rfl rfl (by kernel_rfl) rfl (fun v w h => h) (fun hG w => Eng.off hG) fun hG a w' H => ?_
          have kb := (H.below.block _ lg2_1_44).trans kg2_1_44
          have z0 : w'.cell? ⟨g2_1, 0, none⟩ = some (na) := (Eng.cells kb 0).trans rfl
          have z1 : w'.cell? ⟨g2_1, 1, none⟩ = some (nb) := (Eng.cells kb 1).trans rfl
          refine Eng.val (w1 := w') (v := .agg #[na, nb]) ?_ (Below.refl _ _) (Eng.off' hG rfl)
          have e0 : a.eval (.tmp 2) = .pointer (some ⟨g2_1, 0, none⟩) := ((H.kept 2 (by kernel_rfl)).trans h2_43)
          simp only [execOp, resolve, List.map_toArray, List.map_cons, List.map_nil, e0]
          go_simp
          all_goals first | rfl | (simp; done) | (rw [Bool.eq_iff_iff]; simp; done) | omega | (split <;> first | (simp_all; done) | (split <;> simp_all; done)) | skip
        · refine Eng.guarded1 (j := 2) (d := 77) (b := q76) rfl rfl (by kernel_rfl) rfl (fun v w h => h) (fun hG w => Eng.off hG) fun hG a w' H => ?_
          have kb := (H.below.block _ lg9_28_44).trans kg9_28_44
          have z0 : w'.cell? ⟨g9_28, 0, none⟩ = some (.int .i64 (place l0 (Lpr.bl ((Lnm.allW s).getD 0 default)))) := (Eng.cells kb 0).trans rfl
          have z1 : w'.cell? ⟨g9_28, 1, none⟩ = some (.int .u64 (Lat.ofL (Lnm.inT l1 s i))) := (Eng.cells kb 1).trans rfl
          refine Eng.val (w1 := w') (v := .agg #[.int .i64 (place l0 (Lpr.bl ((Lnm.allW s).getD 0 default))), .int .u64 (Lat.ofL (Lnm.inT l1 s i))]) ?_ (Below.refl _ _) (Eng.off' hG rfl)
          have e0 : a.eval (.tmp 9) = .pointer (some ⟨g9_28, 0, none⟩) := ((H.kept 9 (by kernel_rfl)).trans h9_43)
          simp only [execOp, resolve, List.map_toArray, List.map_cons, List.map_nil, e0]
          go_simp
          all_goals first | rfl | (simp; done) | (rw [Bool.eq_iff_iff]; simp; done) | omega | (split <;> first | (simp_all; done) | (split <;> simp_all; done)) | skip
        · refine Eng.guarded1 (j := 2) (d := 77) (b := q76) rfl rfl (by kernel_rfl) rfl (fun v w h => h) (fun hG w => Eng.off hG) fun hG a w' H => ?_
          refine Eng.call Tryd.func34 (by kernel_rfl) (by kernel_rfl) rfl #[.agg #[na, nb], .agg #[.int .i64 (place l0 (Lpr.bl ((Lnm.allW s).getD 0 default))), .int .u64 (Lat.ofL (Lnm.inT l1 s i))]] ?_ ?_
          · have e0 : a.eval (.tmp 78) = .agg #[na, nb] := (Eng.on (H.dep 3 78 (by kernel_rfl) rfl) hG); have e1 : a.eval (.tmp 79) = .agg #[.int .i64 (place l0 (Lpr.bl ((Lnm.allW s).getD 0 default))), .int .u64 (Lat.ofL (Lnm.inT l1 s i))] := (Eng.on (H.dep 4 79 (by kernel_rfl) rfl) hG); simp only [List.map_toArray, List.map_cons, List.map_nil, e0, e1]
          refine (Lnm.rprint_calls na nb l0 l1 (place l0 (Lpr.bl ((Lnm.allW s).getD 0 default))) (Lat.ofL (Lnm.inT l1 s i)) _ (Eng.Reads.below Fn0_44 H.below) (Eng.Reads.below Fn1_44 H.below) (by omega) (by omega)).mono ?_
          rintro e w'' ⟨rfl, hb⟩
          exact ⟨_, rfl, (Eng.off' hG rfl), hb⟩
        · refine Eng.guarded1 (j := 2) (d := 77) (b := q76) rfl rfl (by kernel_rfl) rfl (fun v w h => h) (fun hG w => Eng.off hG) fun hG a w' H => ?_
          exact Eng.val (w1 := w') (v := .string s) (Eng.run_move rfl ((H.kept 1 (by kernel_rfl)).trans h1_43)) (Below.refl _ _) (Eng.off' hG rfl)
        · refine Eng.guarded1 (j := 2) (d := 77) (b := q76) rfl rfl (by kernel_rfl) rfl (fun v w h => h) (fun hG w => Eng.off hG) fun hG a w' H => ?_
          refine Eng.val (w1 := w') (v := .bool (!((Lnm.mkB (Lpr.printB l0 l1 (place l0 (Lpr.bl ((Lnm.allW s).getD 0 default))) (Lat.ofL (Lnm.inT l1 s i)))).toList == s.toList))) ?_ (Below.refl _ _) (Eng.off' hG (by rw [Bq82]))
          have e0 : a.eval (.tmp 80) = .string (Lnm.mkB (Lpr.printB l0 l1 (place l0 (Lpr.bl ((Lnm.allW s).getD 0 default))) (Lat.ofL (Lnm.inT l1 s i)))) := (Eng.on (H.dep 5 80 (by kernel_rfl) rfl) hG)
          have e1 : a.eval (.tmp 81) = .string s := (Eng.on (H.dep 6 81 (by kernel_rfl) rfl) hG)
          simp only [execOp, resolve, List.map_toArray, List.map_cons, List.map_nil, e0, e1]
          go_simp
          all_goals first | rfl | (simp; done) | (rw [Bool.eq_iff_iff]; simp; done) | omega | (split <;> first | (simp_all; done) | (split <;> simp_all; done)) | skip
        · refine Eng.plain rfl rfl fun a w' H => ?_
          exact Eng.val (w1 := w') (v := .bool (q76 || q82)) (Eng.run_or rfl rfl (G := true) (H.dep 2 77 (by kernel_rfl) rfl) (fun hb => (Eng.on (H.dep 7 82 (by kernel_rfl) rfl) (Eng.mk1 hb)))) (Below.refl _ _) (by show _ = Value.bool q83; rw [Bq83])
      intro act45 w45 T
      have h0_45 : act45.eval (.tmp 0) = .agg #[na, nb] := (T.rest 0 (by kernel_rfl)).trans h0_43
      have h1_45 : act45.eval (.tmp 1) = .string s := (T.rest 1 (by kernel_rfl)).trans h1_43
      have h2_45 : act45.eval (.tmp 2) = .pointer (some ⟨g2_1, 0, none⟩) := (T.rest 2 (by kernel_rfl)).trans h2_43
      have h4_45 : act45.eval (.tmp 4) = .pointer (some ⟨g4_1, 0, none⟩) := (T.rest 4 (by kernel_rfl)).trans h4_43
      have h5_45 : act45.eval (.tmp 5) = .int .i64 0 := (T.rest 5 (by kernel_rfl)).trans h5_43
      have h6_45 : act45.eval (.tmp 6) = v_25 := (T.rest 6 (by kernel_rfl)).trans h6_43
      have h7_45 : act45.eval (.tmp 7) = .string (Lnm.wd s k) := (T.rest 7 (by kernel_rfl)).trans h7_43
      have h8_45 : act45.eval (.tmp 8) = .int .i64 (k : Nat) := (T.rest 8 (by kernel_rfl)).trans h8_43
      have h9_45 : act45.eval (.tmp 9) = .pointer (some ⟨g9_28, 0, none⟩) := (T.rest 9 (by kernel_rfl)).trans h9_43
      have h10_45 : act45.eval (.tmp 10) = .pointer (some ⟨g10_29, 0, none⟩) := (T.rest 10 (by kernel_rfl)).trans h10_43
      have h11_45 : act45.eval (.tmp 11) = .int .i64 ((i + 1 : Nat) : Int) := (T.rest 11 (by kernel_rfl)).trans h11_43
      have h15_45 : act45.eval (.tmp 15) = .bool q15 := (T.rest 15 (by kernel_rfl)).trans h15_43
      have h20_45 : act45.eval (.tmp 20) = .bool q20 := (T.rest 20 (by kernel_rfl)).trans h20_43
      have h58_45 : act45.eval (.tmp 58) = .bool q58 := (T.rest 58 (by kernel_rfl)).trans h58_43
      have kg2_1_45 := (T.below.block _ lg2_1_44).trans kg2_1_44
      have lg2_1_45 := Nat.lt_of_lt_of_le lg2_1_44 T.below.size
      have kg4_1_45 := (T.below.block _ lg4_1_44).trans kg4_1_44
      have lg4_1_45 := Nat.lt_of_lt_of_le lg4_1_44 T.below.size
      have kg9_28_45 := (T.below.block _ lg9_28_44).trans kg9_28_44
      have lg9_28_45 := Nat.lt_of_lt_of_le lg9_28_44 T.below.size
      have kg10_29_45 := (T.below.block _ lg10_29_44).trans kg10_29_44
      have lg10_29_45 := Nat.lt_of_lt_of_le lg10_29_44 T.below.size
      have Fn0_45 := Eng.Reads.below Fn0_44 T.below
      have Fn1_45 := Eng.Reads.below Fn1_44 T.below
      have Ftw_45 := Eng.Reads.below Ftw_44 T.below
      have Otw_45 := Eng.own_below Otw_44 T.below
      have h83_45 : act45.eval (.tmp 83) = .bool q83 := T.done 8 83 rfl rfl
      have d45 := T.defers.trans d43
      have s45 := T.size.trans s43
      have bl45 := bl44.trans (T.below.mono bl44.size)
      clear T
      refine Eng.tail_nil ?_
      first | show Code.wp Tryd.prog _ _ _ _ | skip
      refine wp_cond_split h83_45 (fun hq => ?_) (fun hq => ?_)
      ·
        have kn46 := hq
        have c83 := Bq83.symm.trans hq
        clear hq
        have hres : Lnm.parseR l0 l1 (Lpr.bl s) = (0, 0, 17) := by rw [hpar, if_pos]; rw [Bq82, Bq76] at c83; rw [← Lnm.inT_all l1 s hie, ← Lnm.allW_at s (Lnm.allW_pos s)]; exact Lpr.or_ne c83
        refine wp_seq ?_
        refine Eng.regionS (Eng.still [fun u_ => u_ = .agg #[.int .i64 0, .int .u64 0]]) (fun i => ([.plain] : List Eng.Kind).getD i .plain) 1 2 86 s45 rfl (by kernel_rfl) (Eng.still_stable _) (Or.inr (Eng.still_any _)) ?_ ?_
        · refine Eng.Steps.cons (fun _ => ?_) (Eng.Steps.cons (fun hlt => ?_) (Eng.Steps.cons (fun hlt => ?_) (Eng.Steps.nil)))
          · refine Eng.plain rfl rfl fun a w' H => ?_
            refine Eng.val (w1 := w') (v := .agg #[.int .i64 0, .int .u64 0]) ?_ (Below.refl _ _) rfl
            simp only [execOp, resolve, List.map_toArray, List.map_cons, List.map_nil]
            go_simp
            all_goals first | rfl | (simp; done) | (rw [Bool.eq_iff_iff]; simp; done) | omega | skip
          · exact absurd hlt (by decide)
          · exact absurd hlt (by decide)
        intro act47 w47 T
        have h0_47 : act47.eval (.tmp 0) = .agg #[na, nb] := (T.rest 0 (by kernel_rfl)).trans h0_45
        have h1_47 : act47.eval (.tmp 1) = .string s := (T.rest 1 (by kernel_rfl)).trans h1_45
        have h2_47 : act47.eval (.tmp 2) = .pointer (some ⟨g2_1, 0, none⟩) := (T.rest 2 (by kernel_rfl)).trans h2_45
        have h4_47 : act47.eval (.tmp 4) = .pointer (some ⟨g4_1, 0, none⟩) := (T.rest 4 (by kernel_rfl)).trans h4_45
        have h5_47 : act47.eval (.tmp 5) = .int .i64 0 := (T.rest 5 (by kernel_rfl)).trans h5_45
        have h6_47 : act47.eval (.tmp 6) = v_25 := (T.rest 6 (by kernel_rfl)).trans h6_45
        have h7_47 : act47.eval (.tmp 7) = .string (Lnm.wd s k) := (T.rest 7 (by kernel_rfl)).trans h7_45
        have h8_47 : act47.eval (.tmp 8) = .int .i64 (k : Nat) := (T.rest 8 (by kernel_rfl)).trans h8_45
        have h9_47 : act47.eval (.tmp 9) = .pointer (some ⟨g9_28, 0, none⟩) := (T.rest 9 (by kernel_rfl)).trans h9_45
        have h10_47 : act47.eval (.tmp 10) = .pointer (some ⟨g10_29, 0, none⟩) := (T.rest 10 (by kernel_rfl)).trans h10_45
        have h11_47 : act47.eval (.tmp 11) = .int .i64 ((i + 1 : Nat) : Int) := (T.rest 11 (by kernel_rfl)).trans h11_45
        have h15_47 : act47.eval (.tmp 15) = .bool q15 := (T.rest 15 (by kernel_rfl)).trans h15_45
        have h20_47 : act47.eval (.tmp 20) = .bool q20 := (T.rest 20 (by kernel_rfl)).trans h20_45
        have h58_47 : act47.eval (.tmp 58) = .bool q58 := (T.rest 58 (by kernel_rfl)).trans h58_45
        have h83_47 : act47.eval (.tmp 83) = .bool q83 := (T.rest 83 (by kernel_rfl)).trans h83_45
        have kg2_1_47 := (T.below.block _ lg2_1_45).trans kg2_1_45
        have lg2_1_47 := Nat.lt_of_lt_of_le lg2_1_45 T.below.size
        have kg4_1_47 := (T.below.block _ lg4_1_45).trans kg4_1_45
        have lg4_1_47 := Nat.lt_of_lt_of_le lg4_1_45 T.below.size
        have kg9_28_47 := (T.below.block _ lg9_28_45).trans kg9_28_45
        have lg9_28_47 := Nat.lt_of_lt_of_le lg9_28_45 T.below.size
        have kg10_29_47 := (T.below.block _ lg10_29_45).trans kg10_29_45
        have lg10_29_47 := Nat.lt_of_lt_of_le lg10_29_45 T.below.size
        have Fn0_47 := Eng.Reads.below Fn0_45 T.below
        have Fn1_47 := Eng.Reads.below Fn1_45 T.below
        have Ftw_47 := Eng.Reads.below Ftw_45 T.below
        have Otw_47 := Eng.own_below Otw_45 T.below
        have h84_47 : act47.eval (.tmp 84) = .agg #[.int .i64 0, .int .u64 0] := T.done 0 84 rfl rfl
        have d47 := T.defers.trans d45
        have s47 := T.size.trans s45
        have bl47 := bl45.trans (T.below.mono bl45.size)
        clear T
        refine Eng.tail_put [.int .i64 0, .int .u64 0] (n := 0) (new := #[.int .i64 0, .int .u64 0]) rfl rfl rfl kg4_1_47 rfl ?_ fun w48 S => ?_
        · have e0 : act47.eval (.tmp 4) = .pointer (some ⟨g4_1, 0, none⟩) := h4_47
          have e1 : act47.eval (.tmp 84) = .agg #[.int .i64 0, .int .u64 0] := h84_47
          have z0 := (Eng.cells kg4_1_47 (0)).trans (rfl)
          have f0 := Eng.unfrozen kg4_1_47 (0)
          have z1 := (Eng.cells kg4_1_47 (1)).trans (rfl)
          have f1 := Eng.unfrozen kg4_1_47 (1)
          simp only [execOp]
          rw [e0, e1]
          go_simp
          try rfl
        have kg2_1_48 := (S.far _ ne_g4_1_g2_1).trans kg2_1_47
        have lg2_1_48 := Nat.lt_of_lt_of_eq lg2_1_47 S.size.symm
        have kg4_1_48 := S.new
        have lg4_1_48 := Nat.lt_of_lt_of_eq lg4_1_47 S.size.symm
        have kg9_28_48 := (S.far _ ne_g9_28_g4_1.symm).trans kg9_28_47
        have lg9_28_48 := Nat.lt_of_lt_of_eq lg9_28_47 S.size.symm
        have kg10_29_48 := (S.far _ ne_g10_29_g4_1.symm).trans kg10_29_47
        have lg10_29_48 := Nat.lt_of_lt_of_eq lg10_29_47 S.size.symm
        have bl48 := S.below bl47 og4_1
        have Fn0_48 := Eng.Reads.below F0 bl48
        have Fn1_48 := Eng.Reads.below F1 bl48
        have Otw_48 := Eng.own_sets Otw_47 S kg4_1_47 rfl
        have Ftw_48 := Eng.Reads.of_own Otw_48
        clear S
        refine Eng.tail_val rfl rfl rfl (Eng.run_assign rfl (rfl : act47.eval (.const (.int .i64 17)) = .int .i64 17)) s47 rfl fun act49 d49 s49 hv hr => ?_
        have h0_49 : act49.eval (.tmp 0) = .agg #[na, nb] := (hr 0 rfl).trans h0_47
        have h1_49 : act49.eval (.tmp 1) = .string s := (hr 1 rfl).trans h1_47
        have h2_49 : act49.eval (.tmp 2) = .pointer (some ⟨g2_1, 0, none⟩) := (hr 2 rfl).trans h2_47
        have h4_49 : act49.eval (.tmp 4) = .pointer (some ⟨g4_1, 0, none⟩) := (hr 4 rfl).trans h4_47
        have h6_49 : act49.eval (.tmp 6) = v_25 := (hr 6 rfl).trans h6_47
        have h7_49 : act49.eval (.tmp 7) = .string (Lnm.wd s k) := (hr 7 rfl).trans h7_47
        have h8_49 : act49.eval (.tmp 8) = .int .i64 (k : Nat) := (hr 8 rfl).trans h8_47
        have h9_49 : act49.eval (.tmp 9) = .pointer (some ⟨g9_28, 0, none⟩) := (hr 9 rfl).trans h9_47
        have h10_49 : act49.eval (.tmp 10) = .pointer (some ⟨g10_29, 0, none⟩) := (hr 10 rfl).trans h10_47
        have h11_49 : act49.eval (.tmp 11) = .int .i64 ((i + 1 : Nat) : Int) := (hr 11 rfl).trans h11_47
        have h15_49 : act49.eval (.tmp 15) = .bool q15 := (hr 15 rfl).trans h15_47
        have h20_49 : act49.eval (.tmp 20) = .bool q20 := (hr 20 rfl).trans h20_47
        have h58_49 : act49.eval (.tmp 58) = .bool q58 := (hr 58 rfl).trans h58_47
        have h83_49 : act49.eval (.tmp 83) = .bool q83 := (hr 83 rfl).trans h83_47
        have h84_49 : act49.eval (.tmp 84) = .agg #[.int .i64 0, .int .u64 0] := (hr 84 rfl).trans h84_47
        have h5_49 : act49.eval (.tmp 5) = .int .i64 17 := hv
        have d49 := d49.trans d47
        clear hv hr
        refine Eng.tail_nil ?_
        first | show Code.wp Tryd.prog _ _ _ _ | skip
        refine wp_ret ?_
        repeat (first | refine Eng.in_ret ?_ | refine Eng.then_ret ?_)
        exact Eng.retct rfl d49 h4_49 kg4_1_48 Tryd.underlying28 rfl (by kernel_rfl) h5_49 ⟨by rw [hres], bl48⟩
      ·
        have kn50 := hq
        have c83 := Bq83.symm.trans hq
        clear hq
        have hnc := c83
        rw [Bq82, Bq76] at hnc
        have hres : Lnm.parseR l0 l1 (Lpr.bl s) = (place l0 (Lpr.bl ((Lnm.allW s).getD 0 default)), Lat.ofL (Lnm.inT l1 s i), 0) := by rw [hpar, if_neg (by rw [← Lnm.inT_all l1 s hie, ← Lnm.allW_at s (Lnm.allW_pos s)]; exact Lpr.not_or_ne hnc), ← Lnm.inT_all l1 s hie, ← Lnm.allW_at s (Lnm.allW_pos s)]
        refine wp_skip ?_
        first | show Code.wp Tryd.prog _ _ _ _ | skip
        refine wp_seq ?_
        refine Eng.regionS (Eng.still [fun u_ => u_ = .agg #[.int .i64 (place l0 (Lpr.bl ((Lnm.allW s).getD 0 default))), .int .u64 (Lat.ofL (Lnm.inT l1 s i))]]) (fun i => ([.plain] : List Eng.Kind).getD i .plain) 1 2 86 s45 rfl (by kernel_rfl) (Eng.still_stable _) (Or.inr (Eng.still_any _)) ?_ ?_
        · refine Eng.Steps.cons (fun _ => ?_) (Eng.Steps.cons (fun hlt => ?_) (Eng.Steps.cons (fun hlt => ?_) (Eng.Steps.nil)))
          · refine Eng.plain rfl rfl fun a w' H => ?_
            have kb := (H.below.block _ lg9_28_45).trans kg9_28_45
            have z0 : w'.cell? ⟨g9_28, 0, none⟩ = some (.int .i64 (place l0 (Lpr.bl ((Lnm.allW s).getD 0 default)))) := (Eng.cells kb 0).trans rfl
            have z1 : w'.cell? ⟨g9_28, 1, none⟩ = some (.int .u64 (Lat.ofL (Lnm.inT l1 s i))) := (Eng.cells kb 1).trans rfl
            refine Eng.val (w1 := w') (v := .agg #[.int .i64 (place l0 (Lpr.bl ((Lnm.allW s).getD 0 default))), .int .u64 (Lat.ofL (Lnm.inT l1 s i))]) ?_ (Below.refl _ _) rfl
            have e0 : a.eval (.tmp 9) = .pointer (some ⟨g9_28, 0, none⟩) := ((H.kept 9 (by kernel_rfl)).trans h9_45)
            simp only [execOp, resolve, List.map_toArray, List.map_cons, List.map_nil, e0]
            go_simp
            all_goals first | rfl | (simp; done) | (rw [Bool.eq_iff_iff]; simp; done) | omega | (split <;> first | (simp_all; done) | (split <;> simp_all; done)) | skip
          · exact absurd hlt (by decide)
          · exact absurd hlt (by decide)
        intro act51 w51 T
        have h0_51 : act51.eval (.tmp 0) = .agg #[na, nb] := (T.rest 0 (by kernel_rfl)).trans h0_45
        have h1_51 : act51.eval (.tmp 1) = .string s := (T.rest 1 (by kernel_rfl)).trans h1_45
        have h2_51 : act51.eval (.tmp 2) = .pointer (some ⟨g2_1, 0, none⟩) := (T.rest 2 (by kernel_rfl)).trans h2_45
        have h4_51 : act51.eval (.tmp 4) = .pointer (some ⟨g4_1, 0, none⟩) := (T.rest 4 (by kernel_rfl)).trans h4_45
        have h5_51 : act51.eval (.tmp 5) = .int .i64 0 := (T.rest 5 (by kernel_rfl)).trans h5_45
        have h6_51 : act51.eval (.tmp 6) = v_25 := (T.rest 6 (by kernel_rfl)).trans h6_45
        have h7_51 : act51.eval (.tmp 7) = .string (Lnm.wd s k) := (T.rest 7 (by kernel_rfl)).trans h7_45
        have h8_51 : act51.eval (.tmp 8) = .int .i64 (k : Nat) := (T.rest 8 (by kernel_rfl)).trans h8_45
        have h9_51 : act51.eval (.tmp 9) = .pointer (some ⟨g9_28, 0, none⟩) := (T.rest 9 (by kernel_rfl)).trans h9_45
        have h10_51 : act51.eval (.tmp 10) = .pointer (some ⟨g10_29, 0, none⟩) := (T.rest 10 (by kernel_rfl)).trans h10_45
        have h11_51 : act51.eval (.tmp 11) = .int .i64 ((i + 1 : Nat) : Int) := (T.rest 11 (by kernel_rfl)).trans h11_45
        have h15_51 : act51.eval (.tmp 15) = .bool q15 := (T.rest 15 (by kernel_rfl)).trans h15_45
        have h20_51 : act51.eval (.tmp 20) = .bool q20 := (T.rest 20 (by kernel_rfl)).trans h20_45
        have h58_51 : act51.eval (.tmp 58) = .bool q58 := (T.rest 58 (by kernel_rfl)).trans h58_45
        have h83_51 : act51.eval (.tmp 83) = .bool q83 := (T.rest 83 (by kernel_rfl)).trans h83_45
        have kg2_1_51 := (T.below.block _ lg2_1_45).trans kg2_1_45
        have lg2_1_51 := Nat.lt_of_lt_of_le lg2_1_45 T.below.size
        have kg4_1_51 := (T.below.block _ lg4_1_45).trans kg4_1_45
        have lg4_1_51 := Nat.lt_of_lt_of_le lg4_1_45 T.below.size
        have kg9_28_51 := (T.below.block _ lg9_28_45).trans kg9_28_45
        have lg9_28_51 := Nat.lt_of_lt_of_le lg9_28_45 T.below.size
        have kg10_29_51 := (T.below.block _ lg10_29_45).trans kg10_29_45
        have lg10_29_51 := Nat.lt_of_lt_of_le lg10_29_45 T.below.size
        have Fn0_51 := Eng.Reads.below Fn0_45 T.below
        have Fn1_51 := Eng.Reads.below Fn1_45 T.below
        have Ftw_51 := Eng.Reads.below Ftw_45 T.below
        have Otw_51 := Eng.own_below Otw_45 T.below
        have h85_51 : act51.eval (.tmp 85) = .agg #[.int .i64 (place l0 (Lpr.bl ((Lnm.allW s).getD 0 default))), .int .u64 (Lat.ofL (Lnm.inT l1 s i))] := T.done 0 85 rfl rfl
        have d51 := T.defers.trans d45
        have s51 := T.size.trans s45
        have bl51 := bl45.trans (T.below.mono bl45.size)
        clear T
        refine Eng.tail_put [.int .i64 (place l0 (Lpr.bl ((Lnm.allW s).getD 0 default))), .int .u64 (Lat.ofL (Lnm.inT l1 s i))] (n := 0) (new := #[.int .i64 (place l0 (Lpr.bl ((Lnm.allW s).getD 0 default))), .int .u64 (Lat.ofL (Lnm.inT l1 s i))]) rfl rfl rfl kg4_1_51 rfl ?_ fun w52 S => ?_
        · have e0 : act51.eval (.tmp 4) = .pointer (some ⟨g4_1, 0, none⟩) := h4_51
          have e1 : act51.eval (.tmp 85) = .agg #[.int .i64 (place l0 (Lpr.bl ((Lnm.allW s).getD 0 default))), .int .u64 (Lat.ofL (Lnm.inT l1 s i))] := h85_51
          have z0 := (Eng.cells kg4_1_51 (0)).trans (rfl)
          have f0 := Eng.unfrozen kg4_1_51 (0)
          have z1 := (Eng.cells kg4_1_51 (1)).trans (rfl)
          have f1 := Eng.unfrozen kg4_1_51 (1)
          simp only [execOp]
          rw [e0, e1]
          go_simp
          try rfl
        have kg2_1_52 := (S.far _ ne_g4_1_g2_1).trans kg2_1_51
        have lg2_1_52 := Nat.lt_of_lt_of_eq lg2_1_51 S.size.symm
        have kg4_1_52 := S.new
        have lg4_1_52 := Nat.lt_of_lt_of_eq lg4_1_51 S.size.symm
        have kg9_28_52 := (S.far _ ne_g9_28_g4_1.symm).trans kg9_28_51
        have lg9_28_52 := Nat.lt_of_lt_of_eq lg9_28_51 S.size.symm
        have kg10_29_52 := (S.far _ ne_g10_29_g4_1.symm).trans kg10_29_51
        have lg10_29_52 := Nat.lt_of_lt_of_eq lg10_29_51 S.size.symm
        have bl52 := S.below bl51 og4_1
        have Fn0_52 := Eng.Reads.below F0 bl52
        have Fn1_52 := Eng.Reads.below F1 bl52
        have Otw_52 := Eng.own_sets Otw_51 S kg4_1_51 rfl
        have Ftw_52 := Eng.Reads.of_own Otw_52
        clear S
        refine Eng.tail_val rfl rfl rfl (Eng.run_assign rfl (rfl : act51.eval (.const (.int .i64 0)) = .int .i64 0)) s51 rfl fun act53 d53 s53 hv hr => ?_
        have h0_53 : act53.eval (.tmp 0) = .agg #[na, nb] := (hr 0 rfl).trans h0_51
        have h1_53 : act53.eval (.tmp 1) = .string s := (hr 1 rfl).trans h1_51
        have h2_53 : act53.eval (.tmp 2) = .pointer (some ⟨g2_1, 0, none⟩) := (hr 2 rfl).trans h2_51
        have h4_53 : act53.eval (.tmp 4) = .pointer (some ⟨g4_1, 0, none⟩) := (hr 4 rfl).trans h4_51
        have h6_53 : act53.eval (.tmp 6) = v_25 := (hr 6 rfl).trans h6_51
        have h7_53 : act53.eval (.tmp 7) = .string (Lnm.wd s k) := (hr 7 rfl).trans h7_51
        have h8_53 : act53.eval (.tmp 8) = .int .i64 (k : Nat) := (hr 8 rfl).trans h8_51
        have h9_53 : act53.eval (.tmp 9) = .pointer (some ⟨g9_28, 0, none⟩) := (hr 9 rfl).trans h9_51
        have h10_53 : act53.eval (.tmp 10) = .pointer (some ⟨g10_29, 0, none⟩) := (hr 10 rfl).trans h10_51
        have h11_53 : act53.eval (.tmp 11) = .int .i64 ((i + 1 : Nat) : Int) := (hr 11 rfl).trans h11_51
        have h15_53 : act53.eval (.tmp 15) = .bool q15 := (hr 15 rfl).trans h15_51
        have h20_53 : act53.eval (.tmp 20) = .bool q20 := (hr 20 rfl).trans h20_51
        have h58_53 : act53.eval (.tmp 58) = .bool q58 := (hr 58 rfl).trans h58_51
        have h83_53 : act53.eval (.tmp 83) = .bool q83 := (hr 83 rfl).trans h83_51
        have h85_53 : act53.eval (.tmp 85) = .agg #[.int .i64 (place l0 (Lpr.bl ((Lnm.allW s).getD 0 default))), .int .u64 (Lat.ofL (Lnm.inT l1 s i))] := (hr 85 rfl).trans h85_51
        have h5_53 : act53.eval (.tmp 5) = .int .i64 0 := hv
        have d53 := d53.trans d51
        clear hv hr
        refine Eng.tail_nil ?_
        first | show Code.wp Tryd.prog _ _ _ _ | skip
        refine wp_ret ?_
        repeat (first | refine Eng.in_ret ?_ | refine Eng.then_ret ?_)
        exact Eng.retct rfl d53 h4_53 kg4_1_52 Tryd.underlying28 rfl (by kernel_rfl) h5_53 ⟨by rw [hres], bl52⟩
end Go.Proofs.YthgafcaoibfchaaDoor.X
