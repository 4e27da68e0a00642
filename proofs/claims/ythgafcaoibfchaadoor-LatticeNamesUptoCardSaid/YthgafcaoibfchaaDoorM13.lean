/- Words and walks that the row of LatticeNamesUpto needs: printed by programs, and plain laws. -/
import Derived.Test.YthgafcaoibfchaaDoorM10
import Derived.Test.YthgafcaoibfchaaDoorM12
namespace Go.Proofs.YthgafcaoibfchaaDoor.X
open Go.RowKit Go.Shelf Go.Proofs Go.Proofs.YthgafcaoibfchaaDoorW.PrintWords Go.Proofs.YthgafcaoibfchaaDoorW.PrintLast Go.Proofs.YthgafcaoibfchaaDoorW.PrintMore
set_option linter.unusedVariables false
set_option linter.unusedSimpArgs false
attribute [local go_sem] max2_int min2_int max_two min_two
set_option maxHeartbeats 4000000 in
set_option maxRecDepth 100000 in
theorem Lnm.rprint_calls (na nb : Value) (l0 l1 : List ByteArray) (a0 a1 : Int) (w : World) (F0 : Eng.Reads w na l0.length 1 (Nfa.strs l0)) (F1 : Eng.Reads w nb l1.length 1 (Nfa.strs l1)) (ha0 : 0 ≤ a1) (ha1 : a1 ≤ 18446744073709551615) : Calls Tryd.prog 34 #[.agg #[na, nb], .agg #[.int .i64 a0, .int .u64 a1]] w fun e w' => e = .returned (.string (Lnm.mkB (Lpr.printB l0 l1 a0 a1))) ∧ Below w.heap.size w w' := by
  have hu28 := Tryd.underlying28
  refine Eng.enter Tryd.func34 rfl fun act0 d0 s0 v0 => ?_
  have s0 : act0.tmps.size = 49 := s0
  have h0_0 : act0.eval (.tmp 0) = .agg #[na, nb] := v0 0 (by simp)
  have h1_0 : act0.eval (.tmp 1) = .agg #[.int .i64 a0, .int .u64 a1] := v0 1 (by simp)
  clear v0
  have bl0 : Below w.heap.size w w := Below.refl _ _
  refine wp_seq ?_
  refine Eng.regionS (Eng.still [fun u_ => True, fun u_ => True, fun u_ => u_ = .string ⟨#[]⟩]) (fun i => ([.alloc 45 #[na, nb], .alloc 28 #[.int .i64 a0, .int .u64 a1], .plain] : List Eng.Kind).getD i .plain) 3 0 49 s0 rfl (by kernel_rfl) (Eng.still_stable _) (Or.inr (Eng.still_any _)) ?_ ?_
  · refine Eng.Steps.cons (fun _ => ?_) (Eng.Steps.cons (fun _ => ?_) (Eng.Steps.cons (fun _ => ?_) (Eng.Steps.nil)))
    · refine Eng.made rfl (by simp) rfl (fun a w' hd ho => ?_) (fun _ _ => trivial)
      exact Eng.run_box rfl ((ho 0 (by kernel_rfl)).trans h0_0)
    · refine Eng.made rfl (by simp) rfl (fun a w' hd ho => ?_) (fun _ _ => trivial)
      exact Eng.run_box rfl ((ho 1 (by kernel_rfl)).trans h1_0)
    · refine Eng.plain rfl rfl fun a w' H => ?_
      exact Eng.val (w1 := w') (v := .string ⟨#[]⟩) (Eng.run_assign rfl (rfl : a.eval (.const (.string ⟨#[]⟩)) = .string ⟨#[]⟩)) (Below.refl _ _) rfl
  intro act1 w1 T
  have h0_1 : act1.eval (.tmp 0) = .agg #[na, nb] := (T.rest 0 (by kernel_rfl)).trans h0_0
  have h1_1 : act1.eval (.tmp 1) = .agg #[.int .i64 a0, .int .u64 a1] := (T.rest 1 (by kernel_rfl)).trans h1_0
  have Fn0_1 := Eng.Reads.below F0 T.below
  have Fn1_1 := Eng.Reads.below F1 T.below
  obtain ⟨g2_1, h2_1, rg2_1, lg2_1_1, kg2_1_1⟩ := T.al 0 2 _ _ rfl rfl rfl (by kernel_rfl)
  have og2_1 : w.heap.size ≤ g2_1 := Nat.le_trans bl0.size rg2_1
  obtain ⟨g3_1, h3_1, rg3_1, lg3_1_1, kg3_1_1⟩ := T.al 1 3 _ _ rfl rfl rfl (by kernel_rfl)
  have og3_1 : w.heap.size ≤ g3_1 := Nat.le_trans bl0.size rg3_1
  have h4_1 : act1.eval (.tmp 4) = .string ⟨#[]⟩ := T.done 2 4 rfl rfl
  have d1 := T.defers.trans d0
  have s1 := T.size.trans s0
  have bl1 := bl0.trans (T.below.mono bl0.size)
  clear T
  refine Eng.tail_nil ?_
  first | show Code.wp Tryd.prog _ _ _ _ | skip
  refine wp_seq ?_
  refine wp_seq ?_
  obtain ⟨q9, Bq9⟩ : ∃ b : Bool, b = (Lpr.mayB l0 l1) := ⟨_, rfl⟩
  obtain ⟨q10, Bq10⟩ : ∃ b : Bool, b = (!q9) := ⟨_, rfl⟩
  obtain ⟨q19, Bq19⟩ : ∃ b : Bool, b = (Lpr.rightL l0 l1 a0 a1) := ⟨_, rfl⟩
  obtain ⟨q20, Bq20⟩ : ∃ b : Bool, b = (!q19) := ⟨_, rfl⟩
  obtain ⟨q21, Bq21⟩ : ∃ b : Bool, b = (q10 || q20) := ⟨_, rfl⟩
  refine Eng.regionS (Eng.still [fun u_ => u_ = .agg #[na, nb], fun u_ => u_ = .bool q9, fun u_ => u_ = .bool q10, fun u_ => u_ = .bool q10, fun u_ => u_ = bif (q10 == false) then (.agg #[.int .i64 a0, .int .u64 a1]) else undef, fun u_ => u_ = bif (q10 == false) then (.pointer (some ⟨g2_1, 0, none⟩)) else undef, fun u_ => u_ = bif (q10 == false) then (na) else undef, fun u_ => u_ = bif (q10 == false) then (.int .i64 ((l0.length : Nat) : Int)) else undef, fun u_ => u_ = bif (q10 == false) then (.pointer (some ⟨g2_1, 1, none⟩)) else undef, fun u_ => u_ = bif (q10 == false) then (nb) else undef, fun u_ => u_ = bif (q10 == false) then (.int .i64 ((l1.length : Nat) : Int)) else undef, fun u_ => u_ = bif (q10 == false) then (.bool q19) else undef, fun u_ => u_ = bif (q10 == false) then (.bool q20) else undef, fun u_ => u_ = .bool q21]) (fun i => ([.plain, .plain, .plain, .plain, .plain, .plain, .plain, .plain, .plain, .plain, .plain, .plain, .plain, .plain] : List Eng.Kind).getD i .plain) 14 0 49 s1 rfl (by kernel_rfl) (Eng.still_stable _) (Or.inr (Eng.still_any _)) ?_ ?_
  · refine Eng.Steps.cons (fun _ => ?_) (Eng.Steps.cons (fun _ => ?_) (Eng.Steps.cons (fun _ => ?_) (Eng.Steps.cons (fun _ => ?_) (Eng.Steps.cons (fun _ => ?_) (Eng.Steps.cons (fun _ => ?_) (Eng.Steps.cons (fun _ => ?_) (Eng.Steps.cons (fun _ => ?_) (Eng.Steps.cons (fun _ => ?_) (Eng.Steps.cons (fun _ => ?_) (Eng.Steps.cons (fun _ => ?_) (Eng.Steps.cons (fun _ => ?_) (Eng.Steps.cons (fun _ => ?_) (Eng.Steps.cons (fun _ => ?_) (Eng.Steps.nil))))))))))))))
    · refine Eng.plain rfl rfl fun a w' H => ?_
      have kb := (H.below.block _ lg2_1_1).trans kg2_1_1
      have z0 : w'.cell? ⟨g2_1, 0, none⟩ = some (na) := (Eng.cells kb 0).trans rfl
      have z1 : w'.cell? ⟨g2_1, 1, none⟩ = some (nb) := (Eng.cells kb 1).trans rfl
      refine Eng.val (w1 := w') (v := .agg #[na, nb]) ?_ (Below.refl _ _) rfl
      have e0 : a.eval (.tmp 2) = .pointer (some ⟨g2_1, 0, none⟩) := ((H.kept 2 (by kernel_rfl)).trans h2_1)
      simp only [execOp, resolve, List.map_toArray, List.map_cons, List.map_nil, e0]
      go_simp
      all_goals first | rfl | (simp; done) | (rw [Bool.eq_iff_iff]; simp; done) | omega | (split <;> first | (simp_all; done) | (split <;> simp_all; done)) | skip
    · refine Eng.plain rfl rfl fun a w' H => ?_
      refine Eng.call Tryd.func32 (by kernel_rfl) (by kernel_rfl) rfl #[.agg #[na, nb]] ?_ ?_
      · have e0 : a.eval (.tmp 8) = .agg #[na, nb] := (H.dep 0 8 (by kernel_rfl) rfl); simp only [List.map_toArray, List.map_cons, List.map_nil, e0]
      refine (Lnm.may_calls na nb l0 l1 _ (Eng.Reads.below Fn0_1 H.below) (Eng.Reads.below Fn1_1 H.below)).mono ?_
      rintro e w'' ⟨rfl, hb⟩
      exact ⟨_, rfl, (by show _ = Value.bool q9; rw [Bq9]), hb⟩
    · refine Eng.plain rfl rfl fun a w' H => ?_
      exact Eng.val (w1 := w') (v := .bool (!q9)) (Eng.run_not rfl (H.dep 1 9 (by kernel_rfl) rfl)) (Below.refl _ _) (by show _ = Value.bool q10; rw [Bq10])
    · refine Eng.plain rfl rfl fun a w' H => ?_
      exact Eng.val (w1 := w') (v := .bool q10) (Eng.run_move rfl (H.dep 2 10 (by kernel_rfl) rfl)) (Below.refl _ _) rfl
    · refine Eng.guarded1 (j := 3) (d := 11) (b := q10) rfl rfl (by kernel_rfl) rfl (fun v w h => h) (fun hG w => Eng.off hG) fun hG a w' H => ?_
      have kb := (H.below.block _ lg3_1_1).trans kg3_1_1
      have z0 : w'.cell? ⟨g3_1, 0, none⟩ = some (.int .i64 a0) := (Eng.cells kb 0).trans rfl
      have z1 : w'.cell? ⟨g3_1, 1, none⟩ = some (.int .u64 a1) := (Eng.cells kb 1).trans rfl
      refine Eng.val (w1 := w') (v := .agg #[.int .i64 a0, .int .u64 a1]) ?_ (Below.refl _ _) (Eng.off' hG rfl)
      have e0 : a.eval (.tmp 3) = .pointer (some ⟨g3_1, 0, none⟩) := ((H.kept 3 (by kernel_rfl)).trans h3_1)
      simp only [execOp, resolve, List.map_toArray, List.map_cons, List.map_nil, e0]
      go_simp
      all_goals first | rfl | (simp; done) | (rw [Bool.eq_iff_iff]; simp; done) | omega | (split <;> first | (simp_all; done) | (split <;> simp_all; done)) | skip
    · refine Eng.guarded1 (j := 3) (d := 11) (b := q10) rfl rfl (by kernel_rfl) rfl (fun v w h => h) (fun hG w => Eng.off hG) fun hG a w' H => ?_
      refine Eng.val (w1 := w') (v := .pointer (some ⟨g2_1, 0, none⟩)) ?_ (Below.refl _ _) (Eng.off' hG rfl)
      have e0 : a.eval (.tmp 2) = .pointer (some ⟨g2_1, 0, none⟩) := ((H.kept 2 (by kernel_rfl)).trans h2_1)
      simp only [execOp, resolve, List.map_toArray, List.map_cons, List.map_nil, e0]
      go_simp
      all_goals first | rfl | (simp; done) | (rw [Bool.eq_iff_iff]; simp; done) | omega | (split <;> first | (simp_all; done) | (split <;> simp_all; done)) | skip
    · refine Eng.guarded1 (j := 3) (d := 11) (b := q10) rfl rfl (by kernel_rfl) rfl (fun v w h => h) (fun hG w => Eng.off hG) fun hG a w' H => ?_
      have kb := (H.below.block _ lg2_1_1).trans kg2_1_1
      have z0 : w'.cell? ⟨g2_1, 0, none⟩ = some (na) := (Eng.cells kb 0).trans rfl
      refine Eng.val (w1 := w') (v := na) ?_ (Below.refl _ _) (Eng.off' hG rfl)
      have e0 : a.eval (.tmp 13) = .pointer (some ⟨g2_1, 0, none⟩) := (Eng.on (H.dep 5 13 (by kernel_rfl) rfl) hG)
      simp only [execOp, resolve, List.map_toArray, List.map_cons, List.map_nil, e0]
      go_simp
      all_goals first | rfl | (simp; done) | (rw [Bool.eq_iff_iff]; simp; done) | omega | (split <;> first | (simp_all; done) | (split <;> simp_all; done)) | skip
    · refine Eng.guarded1 (j := 3) (d := 11) (b := q10) rfl rfl (by kernel_rfl) rfl (fun v w h => h) (fun hG w => Eng.off hG) fun hG a w' H => ?_
      refine Eng.val (w1 := w') (v := .int .i64 ((l0.length : Nat) : Int)) ?_ (Below.refl _ _) (Eng.off' hG rfl)
      exact Eng.run_len_sl rfl Tryd.underlying43 (show a.eval (.tmp 14) = na from (Eng.on (H.dep 6 14 (by kernel_rfl) rfl) hG)) (Eng.Reads.below Fn0_1 H.below)
    · refine Eng.guarded1 (j := 3) (d := 11) (b := q10) rfl rfl (by kernel_rfl) rfl (fun v w h => h) (fun hG w => Eng.off hG) fun hG a w' H => ?_
      refine Eng.val (w1 := w') (v := .pointer (some ⟨g2_1, 1, none⟩)) ?_ (Below.refl _ _) (Eng.off' hG rfl)
      have e0 : a.eval (.tmp 2) = .pointer (some ⟨g2_1, 0, none⟩) := ((H.kept 2 (by kernel_rfl)).trans h2_1)
      simp only [execOp, resolve, List.map_toArray, List.map_cons, List.map_nil, e0]
      go_simp
      all_goals first | rfl | (simp; done) | (rw [Bool.eq_iff_iff]; simp; done) | omega | (split <;> first | (simp_all; done) | (split <;> simp_all; done)) | skip
    · refine Eng.guarded1 (j := 3) (d := 11) (b := q10) rfl rfl (by kernel_rfl) rfl (fun v w h => h) (fun hG w => Eng.off hG) fun hG a w' H => ?_
      have kb := (H.below.block _ lg2_1_1).trans kg2_1_1
      have z0 : w'.cell? ⟨g2_1, 1, none⟩ = some (nb) := (Eng.cells kb 1).trans rfl
      refine Eng.val (w1 := w') (v := nb) ?_ (Below.refl _ _) (Eng.off' hG rfl)
      have e0 : a.eval (.tmp 16) = .pointer (some ⟨g2_1, 1, none⟩) := (Eng.on (H.dep 8 16 (by kernel_rfl) rfl) hG)
      simp only [execOp, resolve, List.map_toArray, List.map_cons, List.map_nil, e0]
      go_simp
      all_goals first | rfl | (simp; done) | (rw [Bool.eq_iff_iff]; simp; done) | omega | (split <;> first | (simp_all; done) | (split <;> simp_all; done)) | skip
    · refine Eng.guarded1 (j := 3) (d := 11) (b := q10) rfl rfl (by kernel_rfl) rfl (fun v w h => h) (fun hG w => Eng.off hG) fun hG a w' H => ?_
      refine Eng.val (w1 := w') (v := .int .i64 ((l1.length : Nat) : Int)) ?_ (Below.refl _ _) (Eng.off' hG rfl)
      exact Eng.run_len_sl rfl Tryd.underlying43 (show a.eval (.tmp 17) = nb from (Eng.on (H.dep 9 17 (by kernel_rfl) rfl) hG)) (Eng.Reads.below Fn1_1 H.below)
    · refine Eng.guarded1 (j := 3) (d := 11) (b := q10) rfl rfl (by kernel_rfl) rfl (fun v w h => h) (fun hG w => Eng.off hG) fun hG a w' H => ?_
      refine Eng.call Tryd.func25 (by kernel_rfl) (by kernel_rfl) rfl #[.agg #[.int .i64 a0, .int .u64 a1], .int .i64 ((l0.length : Nat) : Int), .int .i64 ((l1.length : Nat) : Int)] ?_ ?_
      · have e0 : a.eval (.tmp 12) = .agg #[.int .i64 a0, .int .u64 a1] := (Eng.on (H.dep 4 12 (by kernel_rfl) rfl) hG); have e1 : a.eval (.tmp 15) = .int .i64 ((l0.length : Nat) : Int) := (Eng.on (H.dep 7 15 (by kernel_rfl) rfl) hG); have e2 : a.eval (.tmp 18) = .int .i64 ((l1.length : Nat) : Int) := (Eng.on (H.dep 10 18 (by kernel_rfl) rfl) hG); simp only [List.map_toArray, List.map_cons, List.map_nil, e0, e1, e2]
      refine (Lnm.rright_calls l0 l1 a0 a1 _ (by omega) (by omega)).mono ?_
      rintro e w'' ⟨rfl, hb⟩
      exact ⟨_, rfl, (Eng.off' hG (by rw [Bq19])), hb⟩
    · refine Eng.guarded1 (j := 3) (d := 11) (b := q10) rfl rfl (by kernel_rfl) rfl (fun v w h => h) (fun hG w => Eng.off hG) fun hG a w' H => ?_
      exact Eng.val (w1 := w') (v := .bool (!q19)) (Eng.run_not rfl (Eng.on (H.dep 11 19 (by kernel_rfl) rfl) hG)) (Below.refl _ _) (Eng.off' hG (by rw [Bq20]))
    · refine Eng.plain rfl rfl fun a w' H => ?_
      exact Eng.val (w1 := w') (v := .bool (q10 || q20)) (Eng.run_or rfl rfl (G := true) (H.dep 3 11 (by kernel_rfl) rfl) (fun hb => (Eng.on (H.dep 12 20 (by kernel_rfl) rfl) (Eng.mk1 hb)))) (Below.refl _ _) (by show _ = Value.bool q21; rw [Bq21])
  intro act2 w2 T
  have h0_2 : act2.eval (.tmp 0) = .agg #[na, nb] := (T.rest 0 (by kernel_rfl)).trans h0_1
  have h1_2 : act2.eval (.tmp 1) = .agg #[.int .i64 a0, .int .u64 a1] := (T.rest 1 (by kernel_rfl)).trans h1_1
  have h2_2 : act2.eval (.tmp 2) = .pointer (some ⟨g2_1, 0, none⟩) := (T.rest 2 (by kernel_rfl)).trans h2_1
  have h3_2 : act2.eval (.tmp 3) = .pointer (some ⟨g3_1, 0, none⟩) := (T.rest 3 (by kernel_rfl)).trans h3_1
  have h4_2 : act2.eval (.tmp 4) = .string ⟨#[]⟩ := (T.rest 4 (by kernel_rfl)).trans h4_1
  have kg2_1_2 := (T.below.block _ lg2_1_1).trans kg2_1_1
  have lg2_1_2 := Nat.lt_of_lt_of_le lg2_1_1 T.below.size
  have kg3_1_2 := (T.below.block _ lg3_1_1).trans kg3_1_1
  have lg3_1_2 := Nat.lt_of_lt_of_le lg3_1_1 T.below.size
  have Fn0_2 := Eng.Reads.below Fn0_1 T.below
  have Fn1_2 := Eng.Reads.below Fn1_1 T.below
  have h21_2 : act2.eval (.tmp 21) = .bool q21 := T.done 13 21 rfl rfl
  have d2 := T.defers.trans d1
  have s2 := T.size.trans s1
  have bl2 := bl1.trans (T.below.mono bl1.size)
  clear T
  refine Eng.tail_nil ?_
  first | show Code.wp Tryd.prog _ _ _ _ | skip
  refine wp_cond_split h21_2 (fun hq => ?_) (fun hq => ?_)
  ·
    have kn3 := hq
    have c21 := Bq21.symm.trans hq
    clear hq
    have hno : (!Lpr.mayB l0 l1 || !Lpr.rightL l0 l1 a0 a1) = true := by rw [Bq20, Bq19, Bq10, Bq9] at c21; exact c21
    refine wp_seq ?_
    refine Eng.regionS (Eng.still [fun u_ => u_ = .string ⟨#[]⟩]) (fun i => ([.plain] : List Eng.Kind).getD i .plain) 1 0 49 s2 rfl (by kernel_rfl) (Eng.still_stable _) (Or.inr (Eng.still_any _)) ?_ ?_
    · refine Eng.Steps.cons (fun _ => ?_) (Eng.Steps.nil)
      · refine Eng.plain rfl rfl fun a w' H => ?_
        exact Eng.val (w1 := w') (v := .string ⟨#[]⟩) (Eng.run_assign rfl (rfl : a.eval (.const (.string ⟨#[]⟩)) = .string ⟨#[]⟩)) (Below.refl _ _) rfl
    intro act4 w4 T
    have h0_4 : act4.eval (.tmp 0) = .agg #[na, nb] := (T.rest 0 (by kernel_rfl)).trans h0_2
    have h1_4 : act4.eval (.tmp 1) = .agg #[.int .i64 a0, .int .u64 a1] := (T.rest 1 (by kernel_rfl)).trans h1_2
    have h2_4 : act4.eval (.tmp 2) = .pointer (some ⟨g2_1, 0, none⟩) := (T.rest 2 (by kernel_rfl)).trans h2_2
    have h3_4 : act4.eval (.tmp 3) = .pointer (some ⟨g3_1, 0, none⟩) := (T.rest 3 (by kernel_rfl)).trans h3_2
    have h21_4 : act4.eval (.tmp 21) = .bool q21 := (T.rest 21 (by kernel_rfl)).trans h21_2
    have kg2_1_4 := (T.below.block _ lg2_1_2).trans kg2_1_2
    have lg2_1_4 := Nat.lt_of_lt_of_le lg2_1_2 T.below.size
    have kg3_1_4 := (T.below.block _ lg3_1_2).trans kg3_1_2
    have lg3_1_4 := Nat.lt_of_lt_of_le lg3_1_2 T.below.size
    have Fn0_4 := Eng.Reads.below Fn0_2 T.below
    have Fn1_4 := Eng.Reads.below Fn1_2 T.below
    have h4_4 : act4.eval (.tmp 4) = .string ⟨#[]⟩ := T.done 0 4 rfl rfl
    have d4 := T.defers.trans d2
    have s4 := T.size.trans s2
    have bl4 := bl2.trans (T.below.mono bl2.size)
    clear T
    refine Eng.tail_nil ?_
    first | show Code.wp Tryd.prog _ _ _ _ | skip
    refine wp_ret ?_
    repeat (first | refine Eng.in_ret ?_ | refine Eng.then_ret ?_)
    exact Eng.ret1 rfl d4 (h4_4.trans (by rw [Lpr.print_not hno]; rfl)) ⟨rfl, bl4⟩
  ·
    have kn5 := hq
    have c21 := Bq21.symm.trans hq
    clear hq
    have hmr : Lpr.mayB l0 l1 = true ∧ Lpr.rightL l0 l1 a0 a1 = true := by rw [Bq20, Bq19, Bq10, Bq9] at c21; exact Lpr.both_of c21
    obtain ⟨hm, hr⟩ := hmr
    obtain ⟨hr0, hr1⟩ := Lnm.right_ok hr
    have hlim := (Lpr.may_ok hm).1
    refine wp_skip ?_
    first | show Code.wp Tryd.prog _ _ _ _ | skip
    refine wp_seq ?_
    refine Eng.regionS (Eng.still [fun u_ => u_ = .pointer (some ⟨g2_1, 0, none⟩), fun u_ => u_ = na, fun u_ => u_ = .pointer (some ⟨g3_1, 0, none⟩), fun u_ => u_ = .int .i64 a0, fun u_ => u_ = Eng.elemPtr na (a0.toNat * 1), fun u_ => u_ = .string (l0.getD a0.toNat default), fun u_ => u_ = .string (l0.getD a0.toNat default)]) (fun i => ([.plain, .plain, .plain, .plain, .plain, .plain, .plain] : List Eng.Kind).getD i .plain) 7 0 49 s2 rfl (by kernel_rfl) (Eng.still_stable _) (Or.inr (Eng.still_any _)) ?_ ?_
    · refine Eng.Steps.cons (fun _ => ?_) (Eng.Steps.cons (fun _ => ?_) (Eng.Steps.cons (fun _ => ?_) (Eng.Steps.cons (fun _ => ?_) (Eng.Steps.cons (fun _ => ?_) (Eng.Steps.cons (fun _ => ?_) (Eng.Steps.cons (fun _ => ?_) (Eng.Steps.nil)))))))
      · refine Eng.plain rfl rfl fun a w' H => ?_
        refine Eng.val (w1 := w') (v := .pointer (some ⟨g2_1, 0, none⟩)) ?_ (Below.refl _ _) rfl
        have e0 : a.eval (.tmp 2) = .pointer (some ⟨g2_1, 0, none⟩) := ((H.kept 2 (by kernel_rfl)).trans h2_2)
        simp only [execOp, resolve, List.map_toArray, List.map_cons, List.map_nil, e0]
        go_simp
        all_goals first | rfl | (simp; done) | (rw [Bool.eq_iff_iff]; simp; done) | omega | (split <;> first | (simp_all; done) | (split <;> simp_all; done)) | skip
      · refine Eng.plain rfl rfl fun a w' H => ?_
        have kb := (H.below.block _ lg2_1_2).trans kg2_1_2
        have z0 : w'.cell? ⟨g2_1, 0, none⟩ = some (na) := (Eng.cells kb 0).trans rfl
        refine Eng.val (w1 := w') (v := na) ?_ (Below.refl _ _) rfl
        have e0 : a.eval (.tmp 22) = .pointer (some ⟨g2_1, 0, none⟩) := (H.dep 0 22 (by kernel_rfl) rfl)
        simp only [execOp, resolve, List.map_toArray, List.map_cons, List.map_nil, e0]
        go_simp
        all_goals first | rfl | (simp; done) | (rw [Bool.eq_iff_iff]; simp; done) | omega | (split <;> first | (simp_all; done) | (split <;> simp_all; done)) | skip
      · refine Eng.plain rfl rfl fun a w' H => ?_
        refine Eng.val (w1 := w') (v := .pointer (some ⟨g3_1, 0, none⟩)) ?_ (Below.refl _ _) rfl
        have e0 : a.eval (.tmp 3) = .pointer (some ⟨g3_1, 0, none⟩) := ((H.kept 3 (by kernel_rfl)).trans h3_2)
        simp only [execOp, resolve, List.map_toArray, List.map_cons, List.map_nil, e0]
        go_simp
        all_goals first | rfl | (simp; done) | (rw [Bool.eq_iff_iff]; simp; done) | omega | (split <;> first | (simp_all; done) | (split <;> simp_all; done)) | skip
      · refine Eng.plain rfl rfl fun a w' H => ?_
        have kb := (H.below.block _ lg3_1_2).trans kg3_1_2
        have z0 : w'.cell? ⟨g3_1, 0, none⟩ = some (.int .i64 a0) := (Eng.cells kb 0).trans rfl
        refine Eng.val (w1 := w') (v := .int .i64 a0) ?_ (Below.refl _ _) rfl
        have e0 : a.eval (.tmp 24) = .pointer (some ⟨g3_1, 0, none⟩) := (H.dep 2 24 (by kernel_rfl) rfl)
        simp only [execOp, resolve, List.map_toArray, List.map_cons, List.map_nil, e0]
        go_simp
        all_goals first | rfl | (simp; done) | (rw [Bool.eq_iff_iff]; simp; done) | omega | (split <;> first | (simp_all; done) | (split <;> simp_all; done)) | skip
      · refine Eng.plain rfl rfl fun a w' H => ?_
        refine Eng.val (w1 := w') (v := Eng.elemPtr na (a0.toNat * 1)) ?_ (Below.refl _ _) rfl
        exact Eng.run_index_sl rfl Tryd.underlying43 (by kernel_rfl) (show a.eval (.tmp 23) = na from (H.dep 1 23 (by kernel_rfl) rfl)) ((show a.eval (.tmp 25) = .int .i64 a0 from (H.dep 3 25 (by kernel_rfl) rfl)).trans (congrArg (Value.int _) (show a0 = ((a0.toNat : Nat) : Int) from by omega))) (Eng.Reads.below Fn0_2 H.below) (by omega) rfl
      · refine Eng.plain rfl rfl fun a w' H => ?_
        refine Eng.val (w1 := w') (v := .string (l0.getD a0.toNat default)) ?_ (Below.refl _ _) rfl
        exact Eng.run_load_el (.string (l0.getD a0.toNat default)) rfl (show a.eval (.tmp 26) = Eng.elemPtr na (a0.toNat * 1) from (H.dep 4 26 (by kernel_rfl) rfl)) (Eng.Reads.below Fn0_2 H.below) (Nfa.strs_at l0 a0.toNat (by omega)) (by kernel_rfl)
      · refine Eng.plain rfl rfl fun a w' H => ?_
        exact Eng.val (w1 := w') (v := .string (l0.getD a0.toNat default)) (Eng.run_assign rfl (H.dep 5 27 (by kernel_rfl) rfl)) (Below.refl _ _) rfl
    intro act6 w6 T
    have h0_6 : act6.eval (.tmp 0) = .agg #[na, nb] := (T.rest 0 (by kernel_rfl)).trans h0_2
    have h1_6 : act6.eval (.tmp 1) = .agg #[.int .i64 a0, .int .u64 a1] := (T.rest 1 (by kernel_rfl)).trans h1_2
    have h2_6 : act6.eval (.tmp 2) = .pointer (some ⟨g2_1, 0, none⟩) := (T.rest 2 (by kernel_rfl)).trans h2_2
    have h3_6 : act6.eval (.tmp 3) = .pointer (some ⟨g3_1, 0, none⟩) := (T.rest 3 (by kernel_rfl)).trans h3_2
    have h4_6 : act6.eval (.tmp 4) = .string ⟨#[]⟩ := (T.rest 4 (by kernel_rfl)).trans h4_2
    have h21_6 : act6.eval (.tmp 21) = .bool q21 := (T.rest 21 (by kernel_rfl)).trans h21_2
    have kg2_1_6 := (T.below.block _ lg2_1_2).trans kg2_1_2
    have lg2_1_6 := Nat.lt_of_lt_of_le lg2_1_2 T.below.size
    have kg3_1_6 := (T.below.block _ lg3_1_2).trans kg3_1_2
    have lg3_1_6 := Nat.lt_of_lt_of_le lg3_1_2 T.below.size
    have Fn0_6 := Eng.Reads.below Fn0_2 T.below
    have Fn1_6 := Eng.Reads.below Fn1_2 T.below
    have h5_6 : act6.eval (.tmp 5) = .string (l0.getD a0.toNat default) := T.done 6 5 rfl rfl
    have d6 := T.defers.trans d2
    have s6 := T.size.trans s2
    have bl6 := bl2.trans (T.below.mono bl2.size)
    clear T
    refine Eng.tail_nil ?_
    first | show Code.wp Tryd.prog _ _ _ _ | skip
    refine wp_seq ?_
    refine Eng.regionS (Eng.still [fun u_ => u_ = .string ⟨#[58]⟩]) (fun i => ([.plain] : List Eng.Kind).getD i .plain) 1 0 49 s6 rfl (by kernel_rfl) (Eng.still_stable _) (Or.inr (Eng.still_any _)) ?_ ?_
    · refine Eng.Steps.cons (fun _ => ?_) (Eng.Steps.nil)
      · refine Eng.plain rfl rfl fun a w' H => ?_
        exact Eng.val (w1 := w') (v := .string ⟨#[58]⟩) (Eng.run_assign rfl (rfl : a.eval (.const (.string ⟨#[58]⟩)) = .string ⟨#[58]⟩)) (Below.refl _ _) rfl
    intro act7 w7 T
    have h0_7 : act7.eval (.tmp 0) = .agg #[na, nb] := (T.rest 0 (by kernel_rfl)).trans h0_6
    have h1_7 : act7.eval (.tmp 1) = .agg #[.int .i64 a0, .int .u64 a1] := (T.rest 1 (by kernel_rfl)).trans h1_6
    have h2_7 : act7.eval (.tmp 2) = .pointer (some ⟨g2_1, 0, none⟩) := (T.rest 2 (by kernel_rfl)).trans h2_6
    have h3_7 : act7.eval (.tmp 3) = .pointer (some ⟨g3_1, 0, none⟩) := (T.rest 3 (by kernel_rfl)).trans h3_6
    have h4_7 : act7.eval (.tmp 4) = .string ⟨#[]⟩ := (T.rest 4 (by kernel_rfl)).trans h4_6
    have h5_7 : act7.eval (.tmp 5) = .string (l0.getD a0.toNat default) := (T.rest 5 (by kernel_rfl)).trans h5_6
    have h21_7 : act7.eval (.tmp 21) = .bool q21 := (T.rest 21 (by kernel_rfl)).trans h21_6
    have kg2_1_7 := (T.below.block _ lg2_1_6).trans kg2_1_6
    have lg2_1_7 := Nat.lt_of_lt_of_le lg2_1_6 T.below.size
    have kg3_1_7 := (T.below.block _ lg3_1_6).trans kg3_1_6
    have lg3_1_7 := Nat.lt_of_lt_of_le lg3_1_6 T.below.size
    have Fn0_7 := Eng.Reads.below Fn0_6 T.below
    have Fn1_7 := Eng.Reads.below Fn1_6 T.below
    have h6_7 : act7.eval (.tmp 6) = .string ⟨#[58]⟩ := T.done 0 6 rfl rfl
    have d7 := T.defers.trans d6
    have s7 := T.size.trans s6
    have bl7 := bl6.trans (T.below.mono bl6.size)
    clear T
    refine Eng.tail_nil ?_
    first | show Code.wp Tryd.prog _ _ _ _ | skip
    refine wp_seq ?_
    refine wp_seq ?_
    refine Eng.regionS (Eng.still [fun u_ => u_ = .int .i64 0]) (fun i => ([.plain] : List Eng.Kind).getD i .plain) 1 0 49 s7 rfl (by kernel_rfl) (Eng.still_stable _) (Or.inr (Eng.still_any _)) ?_ ?_
    · refine Eng.Steps.cons (fun _ => ?_) (Eng.Steps.nil)
      · refine Eng.plain rfl rfl fun a w' H => ?_
        exact Eng.val (w1 := w') (v := .int .i64 0) (Eng.run_assign rfl (rfl : a.eval (.const (.int .i64 0)) = .int .i64 0)) (Below.refl _ _) rfl
    intro act8 w8 T
    have h0_8 : act8.eval (.tmp 0) = .agg #[na, nb] := (T.rest 0 (by kernel_rfl)).trans h0_7
    have h1_8 : act8.eval (.tmp 1) = .agg #[.int .i64 a0, .int .u64 a1] := (T.rest 1 (by kernel_rfl)).trans h1_7
    have h2_8 : act8.eval (.tmp 2) = .pointer (some ⟨g2_1, 0, none⟩) := (T.rest 2 (by kernel_rfl)).trans h2_7
    have h3_8 : act8.eval (.tmp 3) = .pointer (some ⟨g3_1, 0, none⟩) := (T.rest 3 (by kernel_rfl)).trans h3_7
    have h4_8 : act8.eval (.tmp 4) = .string ⟨#[]⟩ := (T.rest 4 (by kernel_rfl)).trans h4_7
    have h5_8 : act8.eval (.tmp 5) = .string (l0.getD a0.toNat default) := (T.rest 5 (by kernel_rfl)).trans h5_7
    have h6_8 : act8.eval (.tmp 6) = .string ⟨#[58]⟩ := (T.rest 6 (by kernel_rfl)).trans h6_7
    have h21_8 : act8.eval (.tmp 21) = .bool q21 := (T.rest 21 (by kernel_rfl)).trans h21_7
    have kg2_1_8 := (T.below.block _ lg2_1_7).trans kg2_1_7
    have lg2_1_8 := Nat.lt_of_lt_of_le lg2_1_7 T.below.size
    have kg3_1_8 := (T.below.block _ lg3_1_7).trans kg3_1_7
    have lg3_1_8 := Nat.lt_of_lt_of_le lg3_1_7 T.below.size
    have Fn0_8 := Eng.Reads.below Fn0_7 T.below
    have Fn1_8 := Eng.Reads.below Fn1_7 T.below
    have h7_8 : act8.eval (.tmp 7) = .int .i64 0 := T.done 0 7 rfl rfl
    have d8 := T.defers.trans d7
    have s8 := T.size.trans s7
    have bl8 := bl7.trans (T.below.mono bl7.size)
    clear T
    refine Eng.tail_nil ?_
    first | show Code.wp Tryd.prog _ _ _ _ | skip
    refine wp_block ?_
    refine Eng.loopN (fun n a w' => ∃ (k : Nat), l1.length - k = n ∧ (k ≤ l1.length) ∧ a.defers = [] ∧ a.tmps.size = 49 ∧ Below w.heap.size w w' ∧ a.eval (.tmp 0) = .agg #[na, nb] ∧ a.eval (.tmp 1) = .agg #[.int .i64 a0, .int .u64 a1] ∧ a.eval (.tmp 2) = .pointer (some ⟨g2_1, 0, none⟩) ∧ a.eval (.tmp 3) = .pointer (some ⟨g3_1, 0, none⟩) ∧ a.eval (.tmp 4) = .string ⟨#[]⟩ ∧ a.eval (.tmp 5) = .string (Lnm.prT l0 l1 a0 a1 k) ∧ a.eval (.tmp 6) = .string (Lnm.mark (Lpr.selN (List.take k l1) a1.toNat 0)) ∧ a.eval (.tmp 7) = .int .i64 (k : Nat) ∧ a.eval (.tmp 21) = .bool q21 ∧ w'.heap[g2_1]? = some (.cells (#[na, nb]) 45 (0, 0)) ∧ g2_1 < w'.heap.size ∧ w'.heap[g3_1]? = some (.cells (#[.int .i64 a0, .int .u64 a1]) 28 (0, 0)) ∧ g3_1 < w'.heap.size) (n0 := l1.length - 0) ?_ ?_
    · exact ⟨0, rfl, by omega, d8, s8, bl8, h0_8, h1_8, h2_8, h3_8, h4_8, (h5_8.trans (by first | rfl | (congr 1; rw [Eng.i64_id (by omega) (by omega)]; omega) | (rw [← Lnm.prT_zero]; done) | (rw [Lnm.prT_put hk0 hbit]; done) | (rw [Lnm.prT_not hk0 hbit]; done) | (rw [Lnm.mark_put hk0 hbit]; done) | (rw [Lnm.mark_not hk0 hbit]; done) | (simp; done))), (h6_8.trans (by first | rfl | (congr 1; rw [Eng.i64_id (by omega) (by omega)]; omega) | (rw [← Lnm.prT_zero]; done) | (rw [Lnm.prT_put hk0 hbit]; done) | (rw [Lnm.prT_not hk0 hbit]; done) | (rw [Lnm.mark_put hk0 hbit]; done) | (rw [Lnm.mark_not hk0 hbit]; done) | (simp; done))), (h7_8.trans (by first | rfl | (congr 1; rw [Eng.i64_id (by omega) (by omega)]; omega) | (rw [← Lnm.prT_zero]; done) | (rw [Lnm.prT_put hk0 hbit]; done) | (rw [Lnm.prT_not hk0 hbit]; done) | (rw [Lnm.mark_put hk0 hbit]; done) | (rw [Lnm.mark_not hk0 hbit]; done) | (simp; done))), h21_8, kg2_1_8, lg2_1_8, kg3_1_8, lg3_1_8⟩
    rintro n act9 w9 ⟨k, rfl, hc0_9, d9, s9, bl9, h0_9, h1_9, h2_9, h3_9, h4_9, h5_9, h6_9, h7_9, h21_9, kg2_1_9, lg2_1_9, kg3_1_9, lg3_1_9⟩
    have Fn0_9 := Eng.Reads.below F0 bl9
    have Fn1_9 := Eng.Reads.below F1 bl9
    have hk1 := hc0_9
    refine wp_seq ?_
    refine wp_seq ?_
    obtain ⟨q32, Bq32⟩ : ∃ b : Bool, b = (decide ((k : Nat) < ((l1.length : Nat) : Int))) := ⟨_, rfl⟩
    refine Eng.regionS (Eng.still [fun u_ => u_ = .int .i64 (k : Nat), fun u_ => u_ = .pointer (some ⟨g2_1, 1, none⟩), fun u_ => u_ = nb, fun u_ => u_ = .int .i64 ((l1.length : Nat) : Int), fun u_ => u_ = .bool q32]) (fun i => ([.plain, .plain, .plain, .plain, .plain] : List Eng.Kind).getD i .plain) 5 0 49 s9 rfl (by kernel_rfl) (Eng.still_stable _) (Or.inr (Eng.still_any _)) ?_ ?_
    · refine Eng.Steps.cons (fun _ => ?_) (Eng.Steps.cons (fun _ => ?_) (Eng.Steps.cons (fun _ => ?_) (Eng.Steps.cons (fun _ => ?_) (Eng.Steps.cons (fun _ => ?_) (Eng.Steps.nil)))))
      · refine Eng.plain rfl rfl fun a w' H => ?_
        exact Eng.val (w1 := w') (v := .int .i64 (k : Nat)) (Eng.run_move rfl ((H.kept 7 (by kernel_rfl)).trans h7_9)) (Below.refl _ _) rfl
      · refine Eng.plain rfl rfl fun a w' H => ?_
        refine Eng.val (w1 := w') (v := .pointer (some ⟨g2_1, 1, none⟩)) ?_ (Below.refl _ _) rfl
        have e0 : a.eval (.tmp 2) = .pointer (some ⟨g2_1, 0, none⟩) := ((H.kept 2 (by kernel_rfl)).trans h2_9)
        simp only [execOp, resolve, List.map_toArray, List.map_cons, List.map_nil, e0]
        go_simp
        all_goals first | rfl | (simp; done) | (rw [Bool.eq_iff_iff]; simp; done) | omega | (split <;> first | (simp_all; done) | (split <;> simp_all; done)) | skip
      · refine Eng.plain rfl rfl fun a w' H => ?_
        have kb := (H.below.block _ lg2_1_9).trans kg2_1_9
        have z0 : w'.cell? ⟨g2_1, 1, none⟩ = some (nb) := (Eng.cells kb 1).trans rfl
        refine Eng.val (w1 := w') (v := nb) ?_ (Below.refl _ _) rfl
        have e0 : a.eval (.tmp 29) = .pointer (some ⟨g2_1, 1, none⟩) := (H.dep 1 29 (by kernel_rfl) rfl)
        simp only [execOp, resolve, List.map_toArray, List.map_cons, List.map_nil, e0]
        go_simp
        all_goals first | rfl | (simp; done) | (rw [Bool.eq_iff_iff]; simp; done) | omega | (split <;> first | (simp_all; done) | (split <;> simp_all; done)) | skip
      · refine Eng.plain rfl rfl fun a w' H => ?_
        refine Eng.val (w1 := w') (v := .int .i64 ((l1.length : Nat) : Int)) ?_ (Below.refl _ _) rfl
        exact Eng.run_len_sl rfl Tryd.underlying43 (show a.eval (.tmp 30) = nb from (H.dep 2 30 (by kernel_rfl) rfl)) (Eng.Reads.below Fn1_9 H.below)
      · refine Eng.plain rfl rfl fun a w' H => ?_
        refine Eng.val (w1 := w') (v := .bool (decide ((k : Nat) < ((l1.length : Nat) : Int)))) ?_ (Below.refl _ _) (by show _ = Value.bool q32; rw [Bq32])
        have e0 : a.eval (.tmp 28) = .int .i64 (k : Nat) := (H.dep 0 28 (by kernel_rfl) rfl)
        have e1 : a.eval (.tmp 31) = .int .i64 ((l1.length : Nat) : Int) := (H.dep 3 31 (by kernel_rfl) rfl)
        simp only [execOp, resolve, List.map_toArray, List.map_cons, List.map_nil, e0, e1]
        go_simp
        all_goals first | rfl | (simp; done) | (rw [Bool.eq_iff_iff]; simp; done) | omega | (split <;> first | (simp_all; done) | (split <;> simp_all; done)) | skip
    intro act10 w10 T
    have h0_10 : act10.eval (.tmp 0) = .agg #[na, nb] := (T.rest 0 (by kernel_rfl)).trans h0_9
    have h1_10 : act10.eval (.tmp 1) = .agg #[.int .i64 a0, .int .u64 a1] := (T.rest 1 (by kernel_rfl)).trans h1_9
    have h2_10 : act10.eval (.tmp 2) = .pointer (some ⟨g2_1, 0, none⟩) := (T.rest 2 (by kernel_rfl)).trans h2_9
    have h3_10 : act10.eval (.tmp 3) = .pointer (some ⟨g3_1, 0, none⟩) := (T.rest 3 (by kernel_rfl)).trans h3_9
    have h4_10 : act10.eval (.tmp 4) = .string ⟨#[]⟩ := (T.rest 4 (by kernel_rfl)).trans h4_9
    have h5_10 : act10.eval (.tmp 5) = .string (Lnm.prT l0 l1 a0 a1 k) := (T.rest 5 (by kernel_rfl)).trans h5_9
    have h6_10 : act10.eval (.tmp 6) = .string (Lnm.mark (Lpr.selN (List.take k l1) a1.toNat 0)) := (T.rest 6 (by kernel_rfl)).trans h6_9
    have h7_10 : act10.eval (.tmp 7) = .int .i64 (k : Nat) := (T.rest 7 (by kernel_rfl)).trans h7_9
    have h21_10 : act10.eval (.tmp 21) = .bool q21 := (T.rest 21 (by kernel_rfl)).trans h21_9
    have kg2_1_10 := (T.below.block _ lg2_1_9).trans kg2_1_9
    have lg2_1_10 := Nat.lt_of_lt_of_le lg2_1_9 T.below.size
    have kg3_1_10 := (T.below.block _ lg3_1_9).trans kg3_1_9
    have lg3_1_10 := Nat.lt_of_lt_of_le lg3_1_9 T.below.size
    have Fn0_10 := Eng.Reads.below Fn0_9 T.below
    have Fn1_10 := Eng.Reads.below Fn1_9 T.below
    have h32_10 : act10.eval (.tmp 32) = .bool q32 := T.done 4 32 rfl rfl
    have d10 := T.defers.trans d9
    have s10 := T.size.trans s9
    have bl10 := bl9.trans (T.below.mono bl9.size)
    clear T
    refine Eng.tail_nil ?_
    first | show Code.wp Tryd.prog _ _ _ _ | skip
    refine wp_cond_split h32_10 (fun hq => ?_) (fun hq => ?_)
    ·
      have kn11 := hq
      have c32 := Bq32.symm.trans hq
      clear hq
      have c32 := of_decide_eq_true c32
      have hk0 : k < l1.length := by omega
      refine wp_skip ?_
      first | show Code.wp Tryd.prog _ _ _ _ | skip
      refine wp_seq ?_
      refine wp_block ?_
      refine wp_seq ?_
      obtain ⟨q38, Bq38⟩ : ∃ b : Bool, b = (Lat.has a1 (k : Nat)) := ⟨_, rfl⟩
      refine Eng.regionS (Eng.still [fun u_ => u_ = .pointer (some ⟨g3_1, 1, none⟩), fun u_ => u_ = .int .u64 a1, fun u_ => u_ = .int .i64 (k : Nat), fun u_ => u_ = .bool q38]) (fun i => ([.plain, .plain, .plain, .plain] : List Eng.Kind).getD i .plain) 4 0 49 s10 rfl (by kernel_rfl) (Eng.still_stable _) (Or.inr (Eng.still_any _)) ?_ ?_
      · refine Eng.Steps.cons (fun _ => ?_) (Eng.Steps.cons (fun _ => ?_) (Eng.Steps.cons (fun _ => ?_) (Eng.Steps.cons (fun _ => ?_) (Eng.Steps.nil))))
        · refine Eng.plain rfl rfl fun a w' H => ?_
          refine Eng.val (w1 := w') (v := .pointer (some ⟨g3_1, 1, none⟩)) ?_ (Below.refl _ _) rfl
          have e0 : a.eval (.tmp 3) = .pointer (some ⟨g3_1, 0, none⟩) := ((H.kept 3 (by kernel_rfl)).trans h3_10)
          simp only [execOp, resolve, List.map_toArray, List.map_cons, List.map_nil, e0]
          go_simp
          all_goals first | rfl | (simp; done) | (rw [Bool.eq_iff_iff]; simp; done) | omega | (split <;> first | (simp_all; done) | (split <;> simp_all; done)) | skip
        · refine Eng.plain rfl rfl fun a w' H => ?_
          have kb := (H.below.block _ lg3_1_10).trans kg3_1_10
          have z0 : w'.cell? ⟨g3_1, 1, none⟩ = some (.int .u64 a1) := (Eng.cells kb 1).trans rfl
          refine Eng.val (w1 := w') (v := .int .u64 a1) ?_ (Below.refl _ _) rfl
          have e0 : a.eval (.tmp 35) = .pointer (some ⟨g3_1, 1, none⟩) := (H.dep 0 35 (by kernel_rfl) rfl)
          simp only [execOp, resolve, List.map_toArray, List.map_cons, List.map_nil, e0]
          go_simp
          all_goals first | rfl | (simp; done) | (rw [Bool.eq_iff_iff]; simp; done) | omega | (split <;> first | (simp_all; done) | (split <;> simp_all; done)) | skip
        · refine Eng.plain rfl rfl fun a w' H => ?_
          exact Eng.val (w1 := w') (v := .int .i64 (k : Nat)) (Eng.run_move rfl ((H.kept 7 (by kernel_rfl)).trans h7_10)) (Below.refl _ _) rfl
        · refine Eng.plain rfl rfl fun a w' H => ?_
          refine Eng.call Tryd.func66 (by kernel_rfl) (by kernel_rfl) rfl #[.int .u64 a1, .int .i64 (k : Nat)] ?_ ?_
          · have e0 : a.eval (.tmp 36) = .int .u64 a1 := (H.dep 1 36 (by kernel_rfl) rfl); have e1 : a.eval (.tmp 37) = .int .i64 (k : Nat) := (H.dep 2 37 (by kernel_rfl) rfl); simp only [List.map_toArray, List.map_cons, List.map_nil, e0, e1]
          refine (Lat.has_calls a1 (k : Nat) _ (by omega) (by omega) (by omega) (by omega)).mono ?_
          rintro e w'' ⟨rfl, hb⟩
          exact ⟨_, rfl, (by show _ = Value.bool q38; rw [Bq38]), hb⟩
      intro act12 w12 T
      have h0_12 : act12.eval (.tmp 0) = .agg #[na, nb] := (T.rest 0 (by kernel_rfl)).trans h0_10
      have h1_12 : act12.eval (.tmp 1) = .agg #[.int .i64 a0, .int .u64 a1] := (T.rest 1 (by kernel_rfl)).trans h1_10
      have h2_12 : act12.eval (.tmp 2) = .pointer (some ⟨g2_1, 0, none⟩) := (T.rest 2 (by kernel_rfl)).trans h2_10
      have h3_12 : act12.eval (.tmp 3) = .pointer (some ⟨g3_1, 0, none⟩) := (T.rest 3 (by kernel_rfl)).trans h3_10
      have h4_12 : act12.eval (.tmp 4) = .string ⟨#[]⟩ := (T.rest 4 (by kernel_rfl)).trans h4_10
      have h5_12 : act12.eval (.tmp 5) = .string (Lnm.prT l0 l1 a0 a1 k) := (T.rest 5 (by kernel_rfl)).trans h5_10
      have h6_12 : act12.eval (.tmp 6) = .string (Lnm.mark (Lpr.selN (List.take k l1) a1.toNat 0)) := (T.rest 6 (by kernel_rfl)).trans h6_10
      have h7_12 : act12.eval (.tmp 7) = .int .i64 (k : Nat) := (T.rest 7 (by kernel_rfl)).trans h7_10
      have h21_12 : act12.eval (.tmp 21) = .bool q21 := (T.rest 21 (by kernel_rfl)).trans h21_10
      have h32_12 : act12.eval (.tmp 32) = .bool q32 := (T.rest 32 (by kernel_rfl)).trans h32_10
      have kg2_1_12 := (T.below.block _ lg2_1_10).trans kg2_1_10
      have lg2_1_12 := Nat.lt_of_lt_of_le lg2_1_10 T.below.size
      have kg3_1_12 := (T.below.block _ lg3_1_10).trans kg3_1_10
      have lg3_1_12 := Nat.lt_of_lt_of_le lg3_1_10 T.below.size
      have Fn0_12 := Eng.Reads.below Fn0_10 T.below
      have Fn1_12 := Eng.Reads.below Fn1_10 T.below
      have h38_12 : act12.eval (.tmp 38) = .bool q38 := T.done 3 38 rfl rfl
      have d12 := T.defers.trans d10
      have s12 := T.size.trans s10
      have bl12 := bl10.trans (T.below.mono bl10.size)
      clear T
      refine Eng.tail_nil ?_
      first | show Code.wp Tryd.prog _ _ _ _ | skip
      refine wp_cond_split h38_12 (fun hq => ?_) (fun hq => ?_)
      ·
        have kn13 := hq
        have c38 := Bq38.symm.trans hq
        clear hq
        have hbit : a1.toNat.testBit k = true := by rw [← Lnm.has_bit ha0 ha1]; exact c38
        have hz1 := Lnm.prT_size (k := k) hm hr
        have hz2 := Lnm.mark_size (Lpr.selN (List.take k l1) a1.toNat 0)
        have hz3 := Lnm.name_size hm hk0
        refine wp_seq ?_
        refine Eng.regionS (Eng.still [fun u_ => u_ = .string (Lnm.prT l0 l1 a0 a1 k), fun u_ => u_ = .string (Lnm.mark (Lpr.selN (List.take k l1) a1.toNat 0)), fun u_ => u_ = .string ((Lnm.prT l0 l1 a0 a1 k) ++ (Lnm.mark (Lpr.selN (List.take k l1) a1.toNat 0))), fun u_ => u_ = .pointer (some ⟨g2_1, 1, none⟩), fun u_ => u_ = nb, fun u_ => u_ = .int .i64 (k : Nat), fun u_ => u_ = Eng.elemPtr nb (k * 1), fun u_ => u_ = .string (l1.getD k default), fun u_ => u_ = .string (((Lnm.prT l0 l1 a0 a1 k) ++ (Lnm.mark (Lpr.selN (List.take k l1) a1.toNat 0))) ++ (l1.getD k default)), fun u_ => u_ = .string (((Lnm.prT l0 l1 a0 a1 k) ++ (Lnm.mark (Lpr.selN (List.take k l1) a1.toNat 0))) ++ (l1.getD k default))]) (fun i => ([.plain, .plain, .plain, .plain, .plain, .plain, .plain, .plain, .plain, .plain] : List Eng.Kind).getD i .plain) 10 0 49 s12 rfl (by kernel_rfl) (Eng.still_stable _) (Or.inr (Eng.still_any _)) ?_ ?_
        · refine Eng.Steps.cons (fun _ => ?_) (Eng.Steps.cons (fun _ => ?_) (Eng.Steps.cons (fun _ => ?_) (Eng.Steps.cons (fun _ => ?_) (Eng.Steps.cons (fun _ => ?_) (Eng.Steps.cons (fun _ => ?_) (Eng.Steps.cons (fun _ => ?_) (Eng.Steps.cons (fun _ => ?_) (Eng.Steps.cons (fun _ => ?_) (Eng.Steps.cons (fun _ => ?_) (Eng.Steps.nil))))))))))
          · refine Eng.plain rfl rfl fun a w' H => ?_
            exact Eng.val (w1 := w') (v := .string (Lnm.prT l0 l1 a0 a1 k)) (Eng.run_move rfl ((H.kept 5 (by kernel_rfl)).trans h5_12)) (Below.refl _ _) rfl
          · refine Eng.plain rfl rfl fun a w' H => ?_
            exact Eng.val (w1 := w') (v := .string (Lnm.mark (Lpr.selN (List.take k l1) a1.toNat 0))) (Eng.run_move rfl ((H.kept 6 (by kernel_rfl)).trans h6_12)) (Below.refl _ _) rfl
          · refine Eng.plain rfl rfl fun a w' H => ?_
            refine Eng.val (w1 := w') (v := .string ((Lnm.prT l0 l1 a0 a1 k) ++ (Lnm.mark (Lpr.selN (List.take k l1) a1.toNat 0)))) ?_ (Below.refl _ _) rfl
            exact (Lnm.run_add_str rfl (show a.eval (.tmp 39) = .string (Lnm.prT l0 l1 a0 a1 k) from (H.dep 0 39 (by kernel_rfl) rfl)) (show a.eval (.tmp 40) = .string (Lnm.mark (Lpr.selN (List.take k l1) a1.toNat 0)) from (H.dep 1 40 (by kernel_rfl) rfl)) (by omega)).trans (by rfl)
          · refine Eng.plain rfl rfl fun a w' H => ?_
            refine Eng.val (w1 := w') (v := .pointer (some ⟨g2_1, 1, none⟩)) ?_ (Below.refl _ _) rfl
            have e0 : a.eval (.tmp 2) = .pointer (some ⟨g2_1, 0, none⟩) := ((H.kept 2 (by kernel_rfl)).trans h2_12)
            simp only [execOp, resolve, List.map_toArray, List.map_cons, List.map_nil, e0]
            go_simp
            all_goals first | rfl | (simp; done) | (rw [Bool.eq_iff_iff]; simp; done) | omega | (split <;> first | (simp_all; done) | (split <;> simp_all; done)) | skip
          · refine Eng.plain rfl rfl fun a w' H => ?_
            have kb := (H.below.block _ lg2_1_12).trans kg2_1_12
            have z0 : w'.cell? ⟨g2_1, 1, none⟩ = some (nb) := (Eng.cells kb 1).trans rfl
            refine Eng.val (w1 := w') (v := nb) ?_ (Below.refl _ _) rfl
            have e0 : a.eval (.tmp 42) = .pointer (some ⟨g2_1, 1, none⟩) := (H.dep 3 42 (by kernel_rfl) rfl)
            simp only [execOp, resolve, List.map_toArray, List.map_cons, List.map_nil, e0]
            go_simp
            all_goals first | rfl | (simp; done) | (rw [Bool.eq_iff_iff]; simp; done) | omega | (split <;> first | (simp_all; done) | (split <;> simp_all; done)) | skip
          · refine Eng.plain rfl rfl fun a w' H => ?_
            exact Eng.val (w1 := w') (v := .int .i64 (k : Nat)) (Eng.run_move rfl ((H.kept 7 (by kernel_rfl)).trans h7_12)) (Below.refl _ _) rfl
          · refine Eng.plain rfl rfl fun a w' H => ?_
            refine Eng.val (w1 := w') (v := Eng.elemPtr nb (k * 1)) ?_ (Below.refl _ _) rfl
            exact Eng.run_index_sl rfl Tryd.underlying43 (by kernel_rfl) (show a.eval (.tmp 43) = nb from (H.dep 4 43 (by kernel_rfl) rfl)) ((show a.eval (.tmp 44) = .int .i64 (k : Nat) from (H.dep 5 44 (by kernel_rfl) rfl)).trans (congrArg (Value.int _) (show (k : Nat) = ((k : Nat) : Int) from by omega))) (Eng.Reads.below Fn1_12 H.below) (by omega) rfl
          · refine Eng.plain rfl rfl fun a w' H => ?_
            refine Eng.val (w1 := w') (v := .string (l1.getD k default)) ?_ (Below.refl _ _) rfl
            exact Eng.run_load_el (.string (l1.getD k default)) rfl (show a.eval (.tmp 45) = Eng.elemPtr nb (k * 1) from (H.dep 6 45 (by kernel_rfl) rfl)) (Eng.Reads.below Fn1_12 H.below) (Nfa.strs_at l1 k (by omega)) (by kernel_rfl)
          · refine Eng.plain rfl rfl fun a w' H => ?_
            refine Eng.val (w1 := w') (v := .string (((Lnm.prT l0 l1 a0 a1 k) ++ (Lnm.mark (Lpr.selN (List.take k l1) a1.toNat 0))) ++ (l1.getD k default))) ?_ (Below.refl _ _) rfl
            exact (Lnm.run_add_str rfl (show a.eval (.tmp 41) = .string ((Lnm.prT l0 l1 a0 a1 k) ++ (Lnm.mark (Lpr.selN (List.take k l1) a1.toNat 0))) from (H.dep 2 41 (by kernel_rfl) rfl)) (show a.eval (.tmp 46) = .string (l1.getD k default) from (H.dep 7 46 (by kernel_rfl) rfl)) (by rw [Lnm.app_size]; omega)).trans (by rfl)
          · refine Eng.plain rfl rfl fun a w' H => ?_
            exact Eng.val (w1 := w') (v := .string (((Lnm.prT l0 l1 a0 a1 k) ++ (Lnm.mark (Lpr.selN (List.take k l1) a1.toNat 0))) ++ (l1.getD k default))) (Eng.run_assign rfl (H.dep 8 47 (by kernel_rfl) rfl)) (Below.refl _ _) rfl
        intro act14 w14 T
        have h0_14 : act14.eval (.tmp 0) = .agg #[na, nb] := (T.rest 0 (by kernel_rfl)).trans h0_12
        have h1_14 : act14.eval (.tmp 1) = .agg #[.int .i64 a0, .int .u64 a1] := (T.rest 1 (by kernel_rfl)).trans h1_12
        have h2_14 : act14.eval (.tmp 2) = .pointer (some ⟨g2_1, 0, none⟩) := (T.rest 2 (by kernel_rfl)).trans h2_12
        have h3_14 : act14.eval (.tmp 3) = .pointer (some ⟨g3_1, 0, none⟩) := (T.rest 3 (by kernel_rfl)).trans h3_12
        have h4_14 : act14.eval (.tmp 4) = .string ⟨#[]⟩ := (T.rest 4 (by kernel_rfl)).trans h4_12
        have h6_14 : act14.eval (.tmp 6) = .string (Lnm.mark (Lpr.selN (List.take k l1) a1.toNat 0)) := (T.rest 6 (by kernel_rfl)).trans h6_12
        have h7_14 : act14.eval (.tmp 7) = .int .i64 (k : Nat) := (T.rest 7 (by kernel_rfl)).trans h7_12
        have h21_14 : act14.eval (.tmp 21) = .bool q21 := (T.rest 21 (by kernel_rfl)).trans h21_12
        have h32_14 : act14.eval (.tmp 32) = .bool q32 := (T.rest 32 (by kernel_rfl)).trans h32_12
        have h38_14 : act14.eval (.tmp 38) = .bool q38 := (T.rest 38 (by kernel_rfl)).trans h38_12
        have kg2_1_14 := (T.below.block _ lg2_1_12).trans kg2_1_12
        have lg2_1_14 := Nat.lt_of_lt_of_le lg2_1_12 T.below.size
        have kg3_1_14 := (T.below.block _ lg3_1_12).trans kg3_1_12
        have lg3_1_14 := Nat.lt_of_lt_of_le lg3_1_12 T.below.size
        have Fn0_14 := Eng.Reads.below Fn0_12 T.below
        have Fn1_14 := Eng.Reads.below Fn1_12 T.below
        have h5_14 : act14.eval (.tmp 5) = .string (((Lnm.prT l0 l1 a0 a1 k) ++ (Lnm.mark (Lpr.selN (List.take k l1) a1.toNat 0))) ++ (l1.getD k default)) := T.done 9 5 rfl rfl
        have d14 := T.defers.trans d12
        have s14 := T.size.trans s12
        have bl14 := bl12.trans (T.below.mono bl12.size)
        clear T
        refine Eng.tail_nil ?_
        first | show Code.wp Tryd.prog _ _ _ _ | skip
        refine Eng.regionS (Eng.still [fun u_ => u_ = .string ⟨#[44]⟩]) (fun i => ([.plain] : List Eng.Kind).getD i .plain) 1 0 49 s14 rfl (by kernel_rfl) (Eng.still_stable _) (Or.inr (Eng.still_any _)) ?_ ?_
        · refine Eng.Steps.cons (fun _ => ?_) (Eng.Steps.nil)
          · refine Eng.plain rfl rfl fun a w' H => ?_
            exact Eng.val (w1 := w') (v := .string ⟨#[44]⟩) (Eng.run_assign rfl (rfl : a.eval (.const (.string ⟨#[44]⟩)) = .string ⟨#[44]⟩)) (Below.refl _ _) rfl
        intro act15 w15 T
        have h0_15 : act15.eval (.tmp 0) = .agg #[na, nb] := (T.rest 0 (by kernel_rfl)).trans h0_14
        have h1_15 : act15.eval (.tmp 1) = .agg #[.int .i64 a0, .int .u64 a1] := (T.rest 1 (by kernel_rfl)).trans h1_14
        have h2_15 : act15.eval (.tmp 2) = .pointer (some ⟨g2_1, 0, none⟩) := (T.rest 2 (by kernel_rfl)).trans h2_14
        have h3_15 : act15.eval (.tmp 3) = .pointer (some ⟨g3_1, 0, none⟩) := (T.rest 3 (by kernel_rfl)).trans h3_14
        have h4_15 : act15.eval (.tmp 4) = .string ⟨#[]⟩ := (T.rest 4 (by kernel_rfl)).trans h4_14
        have h5_15 : act15.eval (.tmp 5) = .string (((Lnm.prT l0 l1 a0 a1 k) ++ (Lnm.mark (Lpr.selN (List.take k l1) a1.toNat 0))) ++ (l1.getD k default)) := (T.rest 5 (by kernel_rfl)).trans h5_14
        have h7_15 : act15.eval (.tmp 7) = .int .i64 (k : Nat) := (T.rest 7 (by kernel_rfl)).trans h7_14
        have h21_15 : act15.eval (.tmp 21) = .bool q21 := (T.rest 21 (by kernel_rfl)).trans h21_14
        have h32_15 : act15.eval (.tmp 32) = .bool q32 := (T.rest 32 (by kernel_rfl)).trans h32_14
        have h38_15 : act15.eval (.tmp 38) = .bool q38 := (T.rest 38 (by kernel_rfl)).trans h38_14
        have kg2_1_15 := (T.below.block _ lg2_1_14).trans kg2_1_14
        have lg2_1_15 := Nat.lt_of_lt_of_le lg2_1_14 T.below.size
        have kg3_1_15 := (T.below.block _ lg3_1_14).trans kg3_1_14
        have lg3_1_15 := Nat.lt_of_lt_of_le lg3_1_14 T.below.size
        have Fn0_15 := Eng.Reads.below Fn0_14 T.below
        have Fn1_15 := Eng.Reads.below Fn1_14 T.below
        have h6_15 : act15.eval (.tmp 6) = .string ⟨#[44]⟩ := T.done 0 6 rfl rfl
        have d15 := T.defers.trans d14
        have s15 := T.size.trans s14
        have bl15 := bl14.trans (T.below.mono bl14.size)
        clear T
        refine Eng.tail_nil ?_
        first | show Code.wp Tryd.prog _ _ _ _ | skip
        refine Eng.regionS (Eng.still [fun u_ => u_ = .int .i64 (k : Nat), fun u_ => u_ = .int .i64 (IntKind.i64.wrap ((k : Nat) + 1)), fun u_ => u_ = .int .i64 (IntKind.i64.wrap ((k : Nat) + 1))]) (fun i => ([.plain, .plain, .plain] : List Eng.Kind).getD i .plain) 3 0 49 s15 rfl (by kernel_rfl) (Eng.still_stable _) (Or.inr (Eng.still_any _)) ?_ ?_
        · refine Eng.Steps.cons (fun _ => ?_) (Eng.Steps.cons (fun _ => ?_) (Eng.Steps.cons (fun _ => ?_) (Eng.Steps.nil)))
          · refine Eng.plain rfl rfl fun a w' H => ?_
            exact Eng.val (w1 := w') (v := .int .i64 (k : Nat)) (Eng.run_move rfl ((H.kept 7 (by kernel_rfl)).trans h7_15)) (Below.refl _ _) rfl
          · refine Eng.plain rfl rfl fun a w' H => ?_
            refine Eng.val (w1 := w') (v := .int .i64 (IntKind.i64.wrap ((k : Nat) + 1))) ?_ (Below.refl _ _) rfl
            have e0 : a.eval (.tmp 33) = .int .i64 (k : Nat) := (H.dep 0 33 (by kernel_rfl) rfl)
            have e1 : a.eval (.const (.int .i64 1)) = .int .i64 1 := (rfl : a.eval (.const (.int .i64 1)) = .int .i64 1)
            simp only [execOp, resolve, List.map_toArray, List.map_cons, List.map_nil, e0, e1]
            go_simp
            all_goals first | rfl | (simp; done) | (rw [Bool.eq_iff_iff]; simp; done) | omega | (split <;> first | (simp_all; done) | (split <;> simp_all; done)) | skip
          · refine Eng.plain rfl rfl fun a w' H => ?_
            exact Eng.val (w1 := w') (v := .int .i64 (IntKind.i64.wrap ((k : Nat) + 1))) (Eng.run_assign rfl (H.dep 1 34 (by kernel_rfl) rfl)) (Below.refl _ _) rfl
        intro act16 w16 T
        have h0_16 : act16.eval (.tmp 0) = .agg #[na, nb] := (T.rest 0 (by kernel_rfl)).trans h0_15
        have h1_16 : act16.eval (.tmp 1) = .agg #[.int .i64 a0, .int .u64 a1] := (T.rest 1 (by kernel_rfl)).trans h1_15
        have h2_16 : act16.eval (.tmp 2) = .pointer (some ⟨g2_1, 0, none⟩) := (T.rest 2 (by kernel_rfl)).trans h2_15
        have h3_16 : act16.eval (.tmp 3) = .pointer (some ⟨g3_1, 0, none⟩) := (T.rest 3 (by kernel_rfl)).trans h3_15
        have h4_16 : act16.eval (.tmp 4) = .string ⟨#[]⟩ := (T.rest 4 (by kernel_rfl)).trans h4_15
        have h5_16 : act16.eval (.tmp 5) = .string (((Lnm.prT l0 l1 a0 a1 k) ++ (Lnm.mark (Lpr.selN (List.take k l1) a1.toNat 0))) ++ (l1.getD k default)) := (T.rest 5 (by kernel_rfl)).trans h5_15
        have h6_16 : act16.eval (.tmp 6) = .string ⟨#[44]⟩ := (T.rest 6 (by kernel_rfl)).trans h6_15
        have h21_16 : act16.eval (.tmp 21) = .bool q21 := (T.rest 21 (by kernel_rfl)).trans h21_15
        have h32_16 : act16.eval (.tmp 32) = .bool q32 := (T.rest 32 (by kernel_rfl)).trans h32_15
        have h38_16 : act16.eval (.tmp 38) = .bool q38 := (T.rest 38 (by kernel_rfl)).trans h38_15
        have kg2_1_16 := (T.below.block _ lg2_1_15).trans kg2_1_15
        have lg2_1_16 := Nat.lt_of_lt_of_le lg2_1_15 T.below.size
        have kg3_1_16 := (T.below.block _ lg3_1_15).trans kg3_1_15
        have lg3_1_16 := Nat.lt_of_lt_of_le lg3_1_15 T.below.size
        have Fn0_16 := Eng.Reads.below Fn0_15 T.below
        have Fn1_16 := Eng.Reads.below Fn1_15 T.below
        have h7_16 : act16.eval (.tmp 7) = .int .i64 (IntKind.i64.wrap ((k : Nat) + 1)) := T.done 2 7 rfl rfl
        have d16 := T.defers.trans d15
        have s16 := T.size.trans s15
        have bl16 := bl15.trans (T.below.mono bl15.size)
        clear T
        refine Eng.tail_nil ?_
        exact ⟨_, by omega, k + 1, rfl, by omega, d16, s16, bl16, h0_16, h1_16, h2_16, h3_16, h4_16, (h5_16.trans (by first | rfl | (congr 1; rw [Eng.i64_id (by omega) (by omega)]; omega) | (rw [← Lnm.prT_zero]; done) | (rw [Lnm.prT_put hk0 hbit]; done) | (rw [Lnm.prT_not hk0 hbit]; done) | (rw [Lnm.mark_put hk0 hbit]; done) | (rw [Lnm.mark_not hk0 hbit]; done) | (simp; done))), (h6_16.trans (by first | rfl | (congr 1; rw [Eng.i64_id (by omega) (by omega)]; omega) | (rw [← Lnm.prT_zero]; done) | (rw [Lnm.prT_put hk0 hbit]; done) | (rw [Lnm.prT_not hk0 hbit]; done) | (rw [Lnm.mark_put hk0 hbit]; done) | (rw [Lnm.mark_not hk0 hbit]; done) | (simp; done))), (h7_16.trans (by first | rfl | (congr 1; rw [Eng.i64_id (by omega) (by omega)]; omega) | (rw [← Lnm.prT_zero]; done) | (rw [Lnm.prT_put hk0 hbit]; done) | (rw [Lnm.prT_not hk0 hbit]; done) | (rw [Lnm.mark_put hk0 hbit]; done) | (rw [Lnm.mark_not hk0 hbit]; done) | (simp; done))), h21_16, kg2_1_16, lg2_1_16, kg3_1_16, lg3_1_16⟩
      ·
        have kn17 := hq
        have c38 := Bq38.symm.trans hq
        clear hq
        have hbit : a1.toNat.testBit k = false := by rw [← Lnm.has_bit ha0 ha1]; exact c38
        refine wp_skip ?_
        first | show Code.wp Tryd.prog _ _ _ _ | skip
        refine Eng.regionS (Eng.still [fun u_ => u_ = .int .i64 (k : Nat), fun u_ => u_ = .int .i64 (IntKind.i64.wrap ((k : Nat) + 1)), fun u_ => u_ = .int .i64 (IntKind.i64.wrap ((k : Nat) + 1))]) (fun i => ([.plain, .plain, .plain] : List Eng.Kind).getD i .plain) 3 0 49 s12 rfl (by kernel_rfl) (Eng.still_stable _) (Or.inr (Eng.still_any _)) ?_ ?_
        · refine Eng.Steps.cons (fun _ => ?_) (Eng.Steps.cons (fun _ => ?_) (Eng.Steps.cons (fun _ => ?_) (Eng.Steps.nil)))
          · refine Eng.plain rfl rfl fun a w' H => ?_
            exact Eng.val (w1 := w') (v := .int .i64 (k : Nat)) (Eng.run_move rfl ((H.kept 7 (by kernel_rfl)).trans h7_12)) (Below.refl _ _) rfl
          · refine Eng.plain rfl rfl fun a w' H => ?_
            refine Eng.val (w1 := w') (v := .int .i64 (IntKind.i64.wrap ((k : Nat) + 1))) ?_ (Below.refl _ _) rfl
            have e0 : a.eval (.tmp 33) = .int .i64 (k : Nat) := (H.dep 0 33 (by kernel_rfl) rfl)
            have e1 : a.eval (.const (.int .i64 1)) = .int .i64 1 := (rfl : a.eval (.const (.int .i64 1)) = .int .i64 1)
            simp only [execOp, resolve, List.map_toArray, List.map_cons, List.map_nil, e0, e1]
            go_simp
            all_goals first | rfl | (simp; done) | (rw [Bool.eq_iff_iff]; simp; done) | omega | (split <;> first | (simp_all; done) | (split <;> simp_all; done)) | skip
          · refine Eng.plain rfl rfl fun a w' H => ?_
            exact Eng.val (w1 := w') (v := .int .i64 (IntKind.i64.wrap ((k : Nat) + 1))) (Eng.run_assign rfl (H.dep 1 34 (by kernel_rfl) rfl)) (Below.refl _ _) rfl
        intro act18 w18 T
        have h0_18 : act18.eval (.tmp 0) = .agg #[na, nb] := (T.rest 0 (by kernel_rfl)).trans h0_12
        have h1_18 : act18.eval (.tmp 1) = .agg #[.int .i64 a0, .int .u64 a1] := (T.rest 1 (by kernel_rfl)).trans h1_12
        have h2_18 : act18.eval (.tmp 2) = .pointer (some ⟨g2_1, 0, none⟩) := (T.rest 2 (by kernel_rfl)).trans h2_12
        have h3_18 : act18.eval (.tmp 3) = .pointer (some ⟨g3_1, 0, none⟩) := (T.rest 3 (by kernel_rfl)).trans h3_12
        have h4_18 : act18.eval (.tmp 4) = .string ⟨#[]⟩ := (T.rest 4 (by kernel_rfl)).trans h4_12
        have h5_18 : act18.eval (.tmp 5) = .string (Lnm.prT l0 l1 a0 a1 k) := (T.rest 5 (by kernel_rfl)).trans h5_12
        have h6_18 : act18.eval (.tmp 6) = .string (Lnm.mark (Lpr.selN (List.take k l1) a1.toNat 0)) := (T.rest 6 (by kernel_rfl)).trans h6_12
        have h21_18 : act18.eval (.tmp 21) = .bool q21 := (T.rest 21 (by kernel_rfl)).trans h21_12
        have h32_18 : act18.eval (.tmp 32) = .bool q32 := (T.rest 32 (by kernel_rfl)).trans h32_12
        have h38_18 : act18.eval (.tmp 38) = .bool q38 := (T.rest 38 (by kernel_rfl)).trans h38_12
        have kg2_1_18 := (T.below.block _ lg2_1_12).trans kg2_1_12
        have lg2_1_18 := Nat.lt_of_lt_of_le lg2_1_12 T.below.size
        have kg3_1_18 := (T.below.block _ lg3_1_12).trans kg3_1_12
        have lg3_1_18 := Nat.lt_of_lt_of_le lg3_1_12 T.below.size
        have Fn0_18 := Eng.Reads.below Fn0_12 T.below
        have Fn1_18 := Eng.Reads.below Fn1_12 T.below
        have h7_18 : act18.eval (.tmp 7) = .int .i64 (IntKind.i64.wrap ((k : Nat) + 1)) := T.done 2 7 rfl rfl
        have d18 := T.defers.trans d12
        have s18 := T.size.trans s12
        have bl18 := bl12.trans (T.below.mono bl12.size)
        clear T
        refine Eng.tail_nil ?_
        exact ⟨_, by omega, k + 1, rfl, by omega, d18, s18, bl18, h0_18, h1_18, h2_18, h3_18, h4_18, (h5_18.trans (by first | rfl | (congr 1; rw [Eng.i64_id (by omega) (by omega)]; omega) | (rw [← Lnm.prT_zero]; done) | (rw [Lnm.prT_put hk0 hbit]; done) | (rw [Lnm.prT_not hk0 hbit]; done) | (rw [Lnm.mark_put hk0 hbit]; done) | (rw [Lnm.mark_not hk0 hbit]; done) | (simp; done))), (h6_18.trans (by first | rfl | (congr 1; rw [Eng.i64_id (by omega) (by omega)]; omega) | (rw [← Lnm.prT_zero]; done) | (rw [Lnm.prT_put hk0 hbit]; done) | (rw [Lnm.prT_not hk0 hbit]; done) | (rw [Lnm.mark_put hk0 hbit]; done) | (rw [Lnm.mark_not hk0 hbit]; done) | (simp; done))), (h7_18.trans (by first | rfl | (congr 1; rw [Eng.i64_id (by omega) (by omega)]; omega) | (rw [← Lnm.prT_zero]; done) | (rw [Lnm.prT_put hk0 hbit]; done) | (rw [Lnm.prT_not hk0 hbit]; done) | (rw [Lnm.mark_put hk0 hbit]; done) | (rw [Lnm.mark_not hk0 hbit]; done) | (simp; done))), h21_18, kg2_1_18, lg2_1_18, kg3_1_18, lg3_1_18⟩
    ·
      have kn19 := hq
      have c32 := Bq32.symm.trans hq
      clear hq
      have c32 := of_decide_eq_false c32
      refine wp_exit ?_
      first | show Code.wp Tryd.prog _ _ _ _ | skip
      first | show Code.wp Tryd.prog _ _ _ _ | skip
      refine wp_seq ?_
      refine Eng.regionS (Eng.still [fun u_ => u_ = .string (Lnm.prT l0 l1 a0 a1 k), fun u_ => u_ = .string (Lnm.prT l0 l1 a0 a1 k)]) (fun i => ([.plain, .plain] : List Eng.Kind).getD i .plain) 2 0 49 s10 rfl (by kernel_rfl) (Eng.still_stable _) (Or.inr (Eng.still_any _)) ?_ ?_
      · refine Eng.Steps.cons (fun _ => ?_) (Eng.Steps.cons (fun _ => ?_) (Eng.Steps.nil))
        · refine Eng.plain rfl rfl fun a w' H => ?_
          exact Eng.val (w1 := w') (v := .string (Lnm.prT l0 l1 a0 a1 k)) (Eng.run_move rfl ((H.kept 5 (by kernel_rfl)).trans h5_10)) (Below.refl _ _) rfl
        · refine Eng.plain rfl rfl fun a w' H => ?_
          exact Eng.val (w1 := w') (v := .string (Lnm.prT l0 l1 a0 a1 k)) (Eng.run_assign rfl (H.dep 0 48 (by kernel_rfl) rfl)) (Below.refl _ _) rfl
      intro act20 w20 T
      have h0_20 : act20.eval (.tmp 0) = .agg #[na, nb] := (T.rest 0 (by kernel_rfl)).trans h0_10
      have h1_20 : act20.eval (.tmp 1) = .agg #[.int .i64 a0, .int .u64 a1] := (T.rest 1 (by kernel_rfl)).trans h1_10
      have h2_20 : act20.eval (.tmp 2) = .pointer (some ⟨g2_1, 0, none⟩) := (T.rest 2 (by kernel_rfl)).trans h2_10
      have h3_20 : act20.eval (.tmp 3) = .pointer (some ⟨g3_1, 0, none⟩) := (T.rest 3 (by kernel_rfl)).trans h3_10
      have h5_20 : act20.eval (.tmp 5) = .string (Lnm.prT l0 l1 a0 a1 k) := (T.rest 5 (by kernel_rfl)).trans h5_10
      have h6_20 : act20.eval (.tmp 6) = .string (Lnm.mark (Lpr.selN (List.take k l1) a1.toNat 0)) := (T.rest 6 (by kernel_rfl)).trans h6_10
      have h7_20 : act20.eval (.tmp 7) = .int .i64 (k : Nat) := (T.rest 7 (by kernel_rfl)).trans h7_10
      have h21_20 : act20.eval (.tmp 21) = .bool q21 := (T.rest 21 (by kernel_rfl)).trans h21_10
      have h32_20 : act20.eval (.tmp 32) = .bool q32 := (T.rest 32 (by kernel_rfl)).trans h32_10
      have kg2_1_20 := (T.below.block _ lg2_1_10).trans kg2_1_10
      have lg2_1_20 := Nat.lt_of_lt_of_le lg2_1_10 T.below.size
      have kg3_1_20 := (T.below.block _ lg3_1_10).trans kg3_1_10
      have lg3_1_20 := Nat.lt_of_lt_of_le lg3_1_10 T.below.size
      have Fn0_20 := Eng.Reads.below Fn0_10 T.below
      have Fn1_20 := Eng.Reads.below Fn1_10 T.below
      have h4_20 : act20.eval (.tmp 4) = .string (Lnm.prT l0 l1 a0 a1 k) := T.done 1 4 rfl rfl
      have d20 := T.defers.trans d10
      have s20 := T.size.trans s10
      have bl20 := bl10.trans (T.below.mono bl10.size)
      clear T
      refine Eng.tail_nil ?_
      first | show Code.wp Tryd.prog _ _ _ _ | skip
      refine wp_ret ?_
      repeat (first | refine Eng.in_ret ?_ | refine Eng.then_ret ?_)
      have hke : k = l1.length := by omega
      exact Eng.ret1 rfl d20 (h4_20.trans (by rw [hke, Lnm.prT_all hm hr])) ⟨rfl, bl20⟩
end Go.Proofs.YthgafcaoibfchaaDoor.X
