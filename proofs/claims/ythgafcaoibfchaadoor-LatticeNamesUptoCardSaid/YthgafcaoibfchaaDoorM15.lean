/- Words and walks that the row of LatticeNamesUpto needs: printed by programs, and plain laws. -/
import Derived.Test.YthgafcaoibfchaaDoorM14
import Derived.Test.YthgafcaoibfchaaDoorM7
import Derived.Test.YthgafcaoibfchaaDoorM8
section
namespace Go.Proofs.YthgafcaoibfchaaDoor.X
open Go Go.RowKit Go.Shelf Go.Proofs
set_option linter.unusedVariables false
theorem Lnm.rparse_calls {v0 v1 : Value} {l0 l1 : List ByteArray} {w : World} (F0 : Eng.Reads w v0 l0.length 1 (Nfa.strs l0)) (F1 : Eng.Reads w v1 l1.length 1 (Nfa.strs l1)) (s : ByteArray) (hs : s.size ≤ 1000000) :
    Calls Tryd.prog 30 #[.agg #[v0, v1], .string s] w fun e w' => e = .returned (.tuple #[.agg #[.int .i64 (Lnm.parseR l0 l1 (Lpr.bl s)).1, .int .u64 (Lnm.parseR l0 l1 (Lpr.bl s)).2.1], .int .i64 (Lnm.parseR l0 l1 (Lpr.bl s)).2.2]) ∧ Below w.heap.size w w' := by
  cases hm : Lpr.mayB l0 l1 with
  | false => exact Lnm.rparse_not v0 v1 l0 l1 s w F0 F1 hm
  | true => exact Lnm.rparse_may v0 v1 l0 l1 s w F0 F1 hm hs
end Go.Proofs.YthgafcaoibfchaaDoor.X
end
section
namespace Go.Proofs.YthgafcaoibfchaaDoor.X
open Go.RowKit Go.Shelf Go.Proofs Go.Proofs.YthgafcaoibfchaaDoorW.PrintWords Go.Proofs.YthgafcaoibfchaaDoorW.PrintLast Go.Proofs.YthgafcaoibfchaaDoorW.PrintMore
set_option linter.unusedVariables false
set_option linter.unusedSimpArgs false
attribute [local go_sem] max2_int min2_int max_two min_two
set_option maxHeartbeats 4000000 in
set_option maxRecDepth 100000 in
theorem Lnm.names_walk (na nb : Value) (l0 l1 : List ByteArray) (a0 a1 : Int) (s : ByteArray) (w : World) (F0 : Eng.Reads w na l0.length 1 (Nfa.strs l0)) (F1 : Eng.Reads w nb l1.length 1 (Nfa.strs l1)) (h0 : l0.length ≤ 1048576) (h1 : l1.length ≤ 1048576) (ha0 : 0 ≤ a1) (ha1 : a1 ≤ 18446744073709551615) : Calls Tryd.prog 8 #[.agg #[na, nb], .agg #[.int .i64 a0, .int .u64 a1], .string s] w fun e w' => e = .returned (.bool true) ∧ Below w.heap.size w w' := by
  have hu30 := Tryd.underlying30
  have hu28 := Tryd.underlying28
  refine Eng.enter Tryd.func8 rfl fun act0 d0 s0 v0 => ?_
  have s0 : act0.tmps.size = 59 := s0
  have h0_0 : act0.eval (.tmp 0) = .agg #[na, nb] := v0 0 (by simp)
  have h1_0 : act0.eval (.tmp 1) = .agg #[.int .i64 a0, .int .u64 a1] := v0 1 (by simp)
  have h2_0 : act0.eval (.tmp 2) = .string s := v0 2 (by simp)
  clear v0
  have bl0 : Below w.heap.size w w := Below.refl _ _
  refine wp_seq ?_
  refine Eng.regionS (Eng.still [fun u_ => True, fun u_ => True, fun u_ => u_ = .bool false]) (fun i => ([.alloc 45 #[na, nb], .alloc 28 #[.int .i64 a0, .int .u64 a1], .plain] : List Eng.Kind).getD i .plain) 3 0 59 s0 rfl (by kernel_rfl) (Eng.still_stable _) (Or.inr (Eng.still_any _)) ?_ ?_
  · refine Eng.Steps.cons (fun _ => ?_) (Eng.Steps.cons (fun _ => ?_) (Eng.Steps.cons (fun _ => ?_) (Eng.Steps.nil)))
    · refine Eng.made rfl (by simp) rfl (fun a w' hd ho => ?_) (fun _ _ => trivial)
      exact Eng.run_box rfl ((ho 0 (by kernel_rfl)).trans h0_0)
    · refine Eng.made rfl (by simp) rfl (fun a w' hd ho => ?_) (fun _ _ => trivial)
      exact Eng.run_box rfl ((ho 1 (by kernel_rfl)).trans h1_0)
    · refine Eng.plain rfl rfl fun a w' H => ?_
      exact Eng.val (w1 := w') (v := .bool false) (Eng.run_assign rfl (rfl : a.eval (.const (.bool false)) = .bool false)) (Below.refl _ _) rfl
  intro act1 w1 T
  have h0_1 : act1.eval (.tmp 0) = .agg #[na, nb] := (T.rest 0 (by kernel_rfl)).trans h0_0
  have h1_1 : act1.eval (.tmp 1) = .agg #[.int .i64 a0, .int .u64 a1] := (T.rest 1 (by kernel_rfl)).trans h1_0
  have h2_1 : act1.eval (.tmp 2) = .string s := (T.rest 2 (by kernel_rfl)).trans h2_0
  have Fn0_1 := Eng.Reads.below F0 T.below
  have Fn1_1 := Eng.Reads.below F1 T.below
  obtain ⟨g3_1, h3_1, rg3_1, lg3_1_1, kg3_1_1⟩ := T.al 0 3 _ _ rfl rfl rfl (by kernel_rfl)
  have og3_1 : w.heap.size ≤ g3_1 := Nat.le_trans bl0.size rg3_1
  obtain ⟨g4_1, h4_1, rg4_1, lg4_1_1, kg4_1_1⟩ := T.al 1 4 _ _ rfl rfl rfl (by kernel_rfl)
  have og4_1 : w.heap.size ≤ g4_1 := Nat.le_trans bl0.size rg4_1
  have h6_1 : act1.eval (.tmp 6) = .bool false := T.done 2 6 rfl rfl
  have d1 := T.defers.trans d0
  have s1 := T.size.trans s0
  have bl1 := bl0.trans (T.below.mono bl0.size)
  clear T
  refine Eng.tail_nil ?_
  first | show Code.wp Tryd.prog _ _ _ _ | skip
  refine wp_seq ?_
  refine wp_seq ?_
  obtain ⟨q12, Bq12⟩ : ∃ b : Bool, b = (true) := ⟨_, rfl⟩
  obtain ⟨q13, Bq13⟩ : ∃ b : Bool, b = (!q12) := ⟨_, rfl⟩
  refine Eng.regionS (Eng.still [fun u_ => u_ = .bool q12, fun u_ => u_ = .bool q13]) (fun i => ([.plain, .plain] : List Eng.Kind).getD i .plain) 2 0 59 s1 rfl (by kernel_rfl) (Eng.still_stable _) (Or.inr (Eng.still_any _)) ?_ ?_
  · refine Eng.Steps.cons (fun _ => ?_) (Eng.Steps.cons (fun _ => ?_) (Eng.Steps.nil))
    · refine Eng.plain rfl rfl fun a w' H => ?_
      refine Eng.call Tryd.func17 (by kernel_rfl) (by kernel_rfl) rfl #[] ?_ ?_
      · simp
      refine (Alv.calls _).mono ?_
      rintro e w'' ⟨rfl, hb⟩
      exact ⟨_, rfl, (by show _ = Value.bool q12; rw [Bq12]), hb⟩
    · refine Eng.plain rfl rfl fun a w' H => ?_
      exact Eng.val (w1 := w') (v := .bool (!q12)) (Eng.run_not rfl (H.dep 0 12 (by kernel_rfl) rfl)) (Below.refl _ _) (by show _ = Value.bool q13; rw [Bq13])
  intro act2 w2 T
  have h0_2 : act2.eval (.tmp 0) = .agg #[na, nb] := (T.rest 0 (by kernel_rfl)).trans h0_1
  have h1_2 : act2.eval (.tmp 1) = .agg #[.int .i64 a0, .int .u64 a1] := (T.rest 1 (by kernel_rfl)).trans h1_1
  have h2_2 : act2.eval (.tmp 2) = .string s := (T.rest 2 (by kernel_rfl)).trans h2_1
  have h3_2 : act2.eval (.tmp 3) = .pointer (some ⟨g3_1, 0, none⟩) := (T.rest 3 (by kernel_rfl)).trans h3_1
  have h4_2 : act2.eval (.tmp 4) = .pointer (some ⟨g4_1, 0, none⟩) := (T.rest 4 (by kernel_rfl)).trans h4_1
  have h6_2 : act2.eval (.tmp 6) = .bool false := (T.rest 6 (by kernel_rfl)).trans h6_1
  have kg3_1_2 := (T.below.block _ lg3_1_1).trans kg3_1_1
  have lg3_1_2 := Nat.lt_of_lt_of_le lg3_1_1 T.below.size
  have kg4_1_2 := (T.below.block _ lg4_1_1).trans kg4_1_1
  have lg4_1_2 := Nat.lt_of_lt_of_le lg4_1_1 T.below.size
  have Fn0_2 := Eng.Reads.below Fn0_1 T.below
  have Fn1_2 := Eng.Reads.below Fn1_1 T.below
  have h13_2 : act2.eval (.tmp 13) = .bool q13 := T.done 1 13 rfl rfl
  have d2 := T.defers.trans d1
  have s2 := T.size.trans s1
  have bl2 := bl1.trans (T.below.mono bl1.size)
  clear T
  refine Eng.tail_nil ?_
  first | show Code.wp Tryd.prog _ _ _ _ | skip
  have n13 : q13 = false := by
    try simp only [Bq13, Bq12]
    first | done | rfl
  refine wp_cond_false (h13_2.trans (by rw [n13])) ?_
  refine wp_skip ?_
  first | show Code.wp Tryd.prog _ _ _ _ | skip
  refine wp_seq ?_
  refine wp_seq ?_
  obtain ⟨q15, Bq15⟩ : ∃ b : Bool, b = (Lpr.heavyB l0 l1) := ⟨_, rfl⟩
  obtain ⟨q19, Bq19⟩ : ∃ b : Bool, b = (decide ((s.size : Int) > 3000)) := ⟨_, rfl⟩
  obtain ⟨q20, Bq20⟩ : ∃ b : Bool, b = (q15 || q19) := ⟨_, rfl⟩
  refine Eng.regionS (Eng.still [fun u_ => u_ = .agg #[na, nb], fun u_ => u_ = .bool q15, fun u_ => u_ = .bool q15, fun u_ => u_ = bif (q15 == false) then (.string s) else undef, fun u_ => u_ = bif (q15 == false) then (.int .i64 (s.size : Int)) else undef, fun u_ => u_ = bif (q15 == false) then (.bool q19) else undef, fun u_ => u_ = .bool q20]) (fun i => ([.plain, .plain, .plain, .plain, .plain, .plain, .plain] : List Eng.Kind).getD i .plain) 7 0 59 s2 rfl (by kernel_rfl) (Eng.still_stable _) (Or.inr (Eng.still_any _)) ?_ ?_
  · refine Eng.Steps.cons (fun _ => ?_) (Eng.Steps.cons (fun _ => ?_) (Eng.Steps.cons (fun _ => ?_) (Eng.Steps.cons (fun _ => ?_) (Eng.Steps.cons (fun _ => ?_) (Eng.Steps.cons (fun _ => ?_) (Eng.Steps.cons (fun _ => ?_) (Eng.Steps.nil)))))))
    · refine Eng.plain rfl rfl fun a w' H => ?_
      have kb := (H.below.block _ lg3_1_2).trans kg3_1_2
      have z0 : w'.cell? ⟨g3_1, 0, none⟩ = some (na) := (Eng.cells kb 0).trans rfl
      have z1 : w'.cell? ⟨g3_1, 1, none⟩ = some (nb) := (Eng.cells kb 1).trans rfl
      refine Eng.val (w1 := w') (v := .agg #[na, nb]) ?_ (Below.refl _ _) rfl
      have e0 : a.eval (.tmp 3) = .pointer (some ⟨g3_1, 0, none⟩) := ((H.kept 3 (by kernel_rfl)).trans h3_2)
      simp only [execOp, resolve, List.map_toArray, List.map_cons, List.map_nil, e0]
      go_simp
      all_goals first | rfl | (simp; done) | (rw [Bool.eq_iff_iff]; simp; done) | omega | (split <;> first | (simp_all; done) | (split <;> simp_all; done)) | skip
    · refine Eng.plain rfl rfl fun a w' H => ?_
      refine Eng.call Tryd.func27 (by kernel_rfl) (by kernel_rfl) rfl #[.agg #[na, nb]] ?_ ?_
      · have e0 : a.eval (.tmp 14) = .agg #[na, nb] := (H.dep 0 14 (by kernel_rfl) rfl); simp only [List.map_toArray, List.map_cons, List.map_nil, e0]
      refine (Lpr.heavy_calls na nb l0 l1 _ (Eng.Reads.below Fn0_2 H.below) (Eng.Reads.below Fn1_2 H.below) h0 h1).mono ?_
      rintro e w'' ⟨rfl, hb⟩
      exact ⟨_, rfl, (by show _ = Value.bool q15; rw [Bq15]), hb⟩
    · refine Eng.plain rfl rfl fun a w' H => ?_
      exact Eng.val (w1 := w') (v := .bool q15) (Eng.run_move rfl (H.dep 1 15 (by kernel_rfl) rfl)) (Below.refl _ _) rfl
    · refine Eng.guarded1 (j := 2) (d := 16) (b := q15) rfl rfl (by kernel_rfl) rfl (fun v w h => h) (fun hG w => Eng.off hG) fun hG a w' H => ?_
      exact Eng.val (w1 := w') (v := .string s) (Eng.run_move rfl ((H.kept 2 (by kernel_rfl)).trans h2_2)) (Below.refl _ _) (Eng.off' hG rfl)
    · refine Eng.guarded1 (j := 2) (d := 16) (b := q15) rfl rfl (by kernel_rfl) rfl (fun v w h => h) (fun hG w => Eng.off hG) fun hG a w' H => ?_
      refine Eng.val (w1 := w') (v := .int .i64 (s.size : Int)) ?_ (Below.refl _ _) (Eng.off' hG rfl)
      have e0 : a.eval (.tmp 17) = .string s := (Eng.on (H.dep 3 17 (by kernel_rfl) rfl) hG)
      simp only [execOp, resolve, List.map_toArray, List.map_cons, List.map_nil, e0]
      go_simp
      all_goals first | rfl | (simp; done) | (rw [Bool.eq_iff_iff]; simp; done) | omega | (split <;> first | (simp_all; done) | (split <;> simp_all; done)) | skip
    · refine Eng.guarded1 (j := 2) (d := 16) (b := q15) rfl rfl (by kernel_rfl) rfl (fun v w h => h) (fun hG w => Eng.off hG) fun hG a w' H => ?_
      refine Eng.val (w1 := w') (v := .bool (decide ((s.size : Int) > 3000))) ?_ (Below.refl _ _) (Eng.off' hG (by rw [Bq19]))
      have e0 : a.eval (.tmp 18) = .int .i64 (s.size : Int) := (Eng.on (H.dep 4 18 (by kernel_rfl) rfl) hG)
      have e1 : a.eval (.const (.int .i64 3000)) = .int .i64 3000 := (rfl : a.eval (.const (.int .i64 3000)) = .int .i64 3000)
      simp only [execOp, resolve, List.map_toArray, List.map_cons, List.map_nil, e0, e1]
      go_simp
      all_goals first | rfl | (simp; done) | (rw [Bool.eq_iff_iff]; simp; done) | omega | (split <;> first | (simp_all; done) | (split <;> simp_all; done)) | skip
    · refine Eng.plain rfl rfl fun a w' H => ?_
      exact Eng.val (w1 := w') (v := .bool (q15 || q19)) (Eng.run_or rfl rfl (G := true) (H.dep 2 16 (by kernel_rfl) rfl) (fun hb => (Eng.on (H.dep 5 19 (by kernel_rfl) rfl) (Eng.mk1 hb)))) (Below.refl _ _) (by show _ = Value.bool q20; rw [Bq20])
  intro act3 w3 T
  have h0_3 : act3.eval (.tmp 0) = .agg #[na, nb] := (T.rest 0 (by kernel_rfl)).trans h0_2
  have h1_3 : act3.eval (.tmp 1) = .agg #[.int .i64 a0, .int .u64 a1] := (T.rest 1 (by kernel_rfl)).trans h1_2
  have h2_3 : act3.eval (.tmp 2) = .string s := (T.rest 2 (by kernel_rfl)).trans h2_2
  have h3_3 : act3.eval (.tmp 3) = .pointer (some ⟨g3_1, 0, none⟩) := (T.rest 3 (by kernel_rfl)).trans h3_2
  have h4_3 : act3.eval (.tmp 4) = .pointer (some ⟨g4_1, 0, none⟩) := (T.rest 4 (by kernel_rfl)).trans h4_2
  have h6_3 : act3.eval (.tmp 6) = .bool false := (T.rest 6 (by kernel_rfl)).trans h6_2
  have h13_3 : act3.eval (.tmp 13) = .bool q13 := (T.rest 13 (by kernel_rfl)).trans h13_2
  have kg3_1_3 := (T.below.block _ lg3_1_2).trans kg3_1_2
  have lg3_1_3 := Nat.lt_of_lt_of_le lg3_1_2 T.below.size
  have kg4_1_3 := (T.below.block _ lg4_1_2).trans kg4_1_2
  have lg4_1_3 := Nat.lt_of_lt_of_le lg4_1_2 T.below.size
  have Fn0_3 := Eng.Reads.below Fn0_2 T.below
  have Fn1_3 := Eng.Reads.below Fn1_2 T.below
  have h20_3 : act3.eval (.tmp 20) = .bool q20 := T.done 6 20 rfl rfl
  have d3 := T.defers.trans d2
  have s3 := T.size.trans s2
  have bl3 := bl2.trans (T.below.mono bl2.size)
  clear T
  refine Eng.tail_nil ?_
  first | show Code.wp Tryd.prog _ _ _ _ | skip
  refine wp_cond_split h20_3 (fun hq => ?_) (fun hq => ?_)
  ·
    have kn4 := hq
    have c20 := Bq20.symm.trans hq
    clear hq
    refine wp_seq ?_
    refine Eng.regionS (Eng.still [fun u_ => u_ = .bool true]) (fun i => ([.plain] : List Eng.Kind).getD i .plain) 1 0 59 s3 rfl (by kernel_rfl) (Eng.still_stable _) (Or.inr (Eng.still_any _)) ?_ ?_
    · refine Eng.Steps.cons (fun _ => ?_) (Eng.Steps.nil)
      · refine Eng.plain rfl rfl fun a w' H => ?_
        exact Eng.val (w1 := w') (v := .bool true) (Eng.run_assign rfl (rfl : a.eval (.const (.bool true)) = .bool true)) (Below.refl _ _) rfl
    intro act5 w5 T
    have h0_5 : act5.eval (.tmp 0) = .agg #[na, nb] := (T.rest 0 (by kernel_rfl)).trans h0_3
    have h1_5 : act5.eval (.tmp 1) = .agg #[.int .i64 a0, .int .u64 a1] := (T.rest 1 (by kernel_rfl)).trans h1_3
    have h2_5 : act5.eval (.tmp 2) = .string s := (T.rest 2 (by kernel_rfl)).trans h2_3
    have h3_5 : act5.eval (.tmp 3) = .pointer (some ⟨g3_1, 0, none⟩) := (T.rest 3 (by kernel_rfl)).trans h3_3
    have h4_5 : act5.eval (.tmp 4) = .pointer (some ⟨g4_1, 0, none⟩) := (T.rest 4 (by kernel_rfl)).trans h4_3
    have h13_5 : act5.eval (.tmp 13) = .bool q13 := (T.rest 13 (by kernel_rfl)).trans h13_3
    have h20_5 : act5.eval (.tmp 20) = .bool q20 := (T.rest 20 (by kernel_rfl)).trans h20_3
    have kg3_1_5 := (T.below.block _ lg3_1_3).trans kg3_1_3
    have lg3_1_5 := Nat.lt_of_lt_of_le lg3_1_3 T.below.size
    have kg4_1_5 := (T.below.block _ lg4_1_3).trans kg4_1_3
    have lg4_1_5 := Nat.lt_of_lt_of_le lg4_1_3 T.below.size
    have Fn0_5 := Eng.Reads.below Fn0_3 T.below
    have Fn1_5 := Eng.Reads.below Fn1_3 T.below
    have h6_5 : act5.eval (.tmp 6) = .bool true := T.done 0 6 rfl rfl
    have d5 := T.defers.trans d3
    have s5 := T.size.trans s3
    have bl5 := bl3.trans (T.below.mono bl3.size)
    clear T
    refine Eng.tail_nil ?_
    first | show Code.wp Tryd.prog _ _ _ _ | skip
    refine wp_ret ?_
    repeat (first | refine Eng.in_ret ?_ | refine Eng.then_ret ?_)
    exact Eng.ret1 rfl d5 h6_5 ⟨rfl, bl5⟩
  ·
    have kn6 := hq
    have c20 := Bq20.symm.trans hq
    clear hq
    rw [Bq19, Bq15] at c20
    simp only [Bool.or_eq_false_iff, decide_eq_false_iff_not] at c20
    obtain ⟨hhv, hsz⟩ := c20
    obtain ⟨S0, S1⟩ := Lpr.light hhv
    refine wp_skip ?_
    first | show Code.wp Tryd.prog _ _ _ _ | skip
    refine wp_seq ?_
    refine (wpIn_wide (n := 1)).1 ?_
    refine EngI.regionT (n := 4) rfl ?_
    refine EngI.tail_val EngI.free_wide rfl rfl rfl rfl (Eng.run_load_all rfl h3_3 kg3_1_3 Tryd.underlying45 rfl (by kernel_rfl)) s3 rfl fun act7 d7 s7 hv hr => ?_
    have h0_7 : act7.eval (.tmp 0) = .agg #[na, nb] := (hr 0 rfl).trans h0_3
    have h1_7 : act7.eval (.tmp 1) = .agg #[.int .i64 a0, .int .u64 a1] := (hr 1 rfl).trans h1_3
    have h2_7 : act7.eval (.tmp 2) = .string s := (hr 2 rfl).trans h2_3
    have h3_7 : act7.eval (.tmp 3) = .pointer (some ⟨g3_1, 0, none⟩) := (hr 3 rfl).trans h3_3
    have h4_7 : act7.eval (.tmp 4) = .pointer (some ⟨g4_1, 0, none⟩) := (hr 4 rfl).trans h4_3
    have h6_7 : act7.eval (.tmp 6) = .bool false := (hr 6 rfl).trans h6_3
    have h13_7 : act7.eval (.tmp 13) = .bool q13 := (hr 13 rfl).trans h13_3
    have h20_7 : act7.eval (.tmp 20) = .bool q20 := (hr 20 rfl).trans h20_3
    have h21_7 : act7.eval (.tmp 21) = .agg #[na, nb] := hv
    have d7 := d7.trans d3
    clear hv hr
    refine EngI.tail_call EngI.free_wide Tryd.func28 (by kernel_rfl) (by kernel_rfl) rfl rfl rfl rfl #[.agg #[na, nb]] (by have e0 : act7.eval (.tmp 21) = .agg #[na, nb] := h21_7; simp only [List.map_toArray, List.map_cons, List.map_nil, e0]) s7 rfl (R := fun v w' => ∃ u0 u1, v = .agg #[u0, u1] ∧ w'.ownsRow w3.heap.size 9 1 u0 l0.length (Nfa.strs l0) ∧ w'.ownsRow w3.heap.size 9 1 u1 l1.length (Nfa.strs l1) ∧ Below w3.heap.size w3 w') ((Lpr.theirs_calls na nb l0 l1 _ Fn0_3 Fn1_3 h0 h1).mono ?_) fun v_8 w8 act8 R d8 s8 hv hr => ?_
    · rintro e w1 ⟨u0, u1, rfl, h1, h2, h3⟩; exact ⟨_, rfl, u0, u1, rfl, h1, h2, h3⟩
    have h0_8 : act8.eval (.tmp 0) = .agg #[na, nb] := (hr 0 rfl).trans h0_7
    have h1_8 : act8.eval (.tmp 1) = .agg #[.int .i64 a0, .int .u64 a1] := (hr 1 rfl).trans h1_7
    have h2_8 : act8.eval (.tmp 2) = .string s := (hr 2 rfl).trans h2_7
    have h3_8 : act8.eval (.tmp 3) = .pointer (some ⟨g3_1, 0, none⟩) := (hr 3 rfl).trans h3_7
    have h4_8 : act8.eval (.tmp 4) = .pointer (some ⟨g4_1, 0, none⟩) := (hr 4 rfl).trans h4_7
    have h6_8 : act8.eval (.tmp 6) = .bool false := (hr 6 rfl).trans h6_7
    have h13_8 : act8.eval (.tmp 13) = .bool q13 := (hr 13 rfl).trans h13_7
    have h20_8 : act8.eval (.tmp 20) = .bool q20 := (hr 20 rfl).trans h20_7
    have h21_8 : act8.eval (.tmp 21) = .agg #[na, nb] := (hr 21 rfl).trans h21_7
    have h22_8 : act8.eval (.tmp 22) = v_8 := hv
    have d8 := d8.trans d7
    clear hv hr
    obtain ⟨u0, u1, hv1_8, Ou0_8, Ou1_8, hb8⟩ := R
    have Ou0 := Eng.own_mono Ou0_8 bl3.size
    have Ou1 := Eng.own_mono Ou1_8 bl3.size
    have Fu0 := Eng.Reads.of_own Ou0
    have Fu1 := Eng.Reads.of_own Ou1
    have kg3_1_8 := (hb8.block _ lg3_1_3).trans kg3_1_3
    have lg3_1_8 := Nat.lt_of_lt_of_le lg3_1_3 hb8.size
    have kg4_1_8 := (hb8.block _ lg4_1_3).trans kg4_1_3
    have lg4_1_8 := Nat.lt_of_lt_of_le lg4_1_3 hb8.size
    have Fn0_8 := Eng.Reads.below Fn0_3 hb8
    have Fn1_8 := Eng.Reads.below Fn1_3 hb8
    have bl8 := bl3.trans (hb8.mono bl3.size)
    rw [hv1_8] at h22_8
    refine EngI.tail_ex EngI.free_wide rfl rfl rfl rfl (Eng.alloc_ex (cs := #[.slice none 0 0, .slice none 0 0]) rfl (by kernel_rfl)) s8 rfl fun v_9 w9 act9 R d9 s9 hv hr => ?_
    obtain ⟨g7_9, ev_9, rg_9, lg7_9, kg7_9, b_9⟩ := R
    have h0_9 : act9.eval (.tmp 0) = .agg #[na, nb] := (hr 0 rfl).trans h0_8
    have h1_9 : act9.eval (.tmp 1) = .agg #[.int .i64 a0, .int .u64 a1] := (hr 1 rfl).trans h1_8
    have h2_9 : act9.eval (.tmp 2) = .string s := (hr 2 rfl).trans h2_8
    have h3_9 : act9.eval (.tmp 3) = .pointer (some ⟨g3_1, 0, none⟩) := (hr 3 rfl).trans h3_8
    have h4_9 : act9.eval (.tmp 4) = .pointer (some ⟨g4_1, 0, none⟩) := (hr 4 rfl).trans h4_8
    have h6_9 : act9.eval (.tmp 6) = .bool false := (hr 6 rfl).trans h6_8
    have h13_9 : act9.eval (.tmp 13) = .bool q13 := (hr 13 rfl).trans h13_8
    have h20_9 : act9.eval (.tmp 20) = .bool q20 := (hr 20 rfl).trans h20_8
    have h21_9 : act9.eval (.tmp 21) = .agg #[na, nb] := (hr 21 rfl).trans h21_8
    have h22_9 : act9.eval (.tmp 22) = .agg #[u0, u1] := (hr 22 rfl).trans h22_8
    have h7_9 : act9.eval (.tmp 7) = v_9 := hv
    have d9 := d9.trans d8
    clear hv hr
    have ne_g7_9_g3_1 : g3_1 ≠ g7_9 := fun e => Nat.lt_irrefl _ (Nat.lt_of_lt_of_le (e ▸ lg3_1_8) rg_9)
    have ne_g7_9_g4_1 : g4_1 ≠ g7_9 := fun e => Nat.lt_irrefl _ (Nat.lt_of_lt_of_le (e ▸ lg4_1_8) rg_9)
    have og7_9 : w.heap.size ≤ g7_9 := Nat.le_trans bl8.size rg_9
    have kg3_1_9 := (b_9.block _ lg3_1_8).trans kg3_1_8
    have lg3_1_9 := Nat.lt_of_lt_of_le lg3_1_8 b_9.size
    have kg4_1_9 := (b_9.block _ lg4_1_8).trans kg4_1_8
    have lg4_1_9 := Nat.lt_of_lt_of_le lg4_1_8 b_9.size
    have Fn0_9 := Eng.Reads.below Fn0_8 b_9
    have Fn1_9 := Eng.Reads.below Fn1_8 b_9
    have Fm0_9 := Eng.Reads.below Fu0 b_9
    have Om0_9 := Eng.own_below Ou0 b_9
    have Fm1_9 := Eng.Reads.below Fu1 b_9
    have Om1_9 := Eng.own_below Ou1 b_9
    have bl9 := bl8.trans (b_9.mono bl8.size)
    rw [ev_9] at h7_9
    refine EngI.tail_put EngI.free_wide [u0, u1] (n := 0) (new := #[u0, u1]) rfl rfl rfl rfl kg7_9 rfl ?_ fun w10 S => ?_
    · have e0 : act9.eval (.tmp 7) = .pointer (some ⟨g7_9, 0, none⟩) := h7_9
      have e1 : act9.eval (.tmp 22) = .agg #[u0, u1] := h22_9
      obtain ⟨A0_, c0_, ev0_⟩ := Eng.Reads.shape Fm0_9
      subst ev0_
      obtain ⟨A1_, c1_, ev1_⟩ := Eng.Reads.shape Fm1_9
      subst ev1_
      have z0 := (Eng.cells kg7_9 (0)).trans (rfl)
      have f0 := Eng.unfrozen kg7_9 (0)
      have z1 := (Eng.cells kg7_9 (1)).trans (rfl)
      have f1 := Eng.unfrozen kg7_9 (1)
      simp only [execOp]
      rw [e0, e1]
      go_simp
      try rfl
    have kg3_1_10 := (S.far _ ne_g7_9_g3_1).trans kg3_1_9
    have lg3_1_10 := Nat.lt_of_lt_of_eq lg3_1_9 S.size.symm
    have kg4_1_10 := (S.far _ ne_g7_9_g4_1).trans kg4_1_9
    have lg4_1_10 := Nat.lt_of_lt_of_eq lg4_1_9 S.size.symm
    have kg7_9_10 := S.new
    have lg7_9_10 := Nat.lt_of_lt_of_eq lg7_9 S.size.symm
    have bl10 := S.below bl9 og7_9
    have Fn0_10 := Eng.Reads.below F0 bl10
    have Fn1_10 := Eng.Reads.below F1 bl10
    have Om0_10 := Eng.own_sets Om0_9 S kg7_9 rfl
    have Fm0_10 := Eng.Reads.of_own Om0_10
    have Om1_10 := Eng.own_sets Om1_9 S kg7_9 rfl
    have Fm1_10 := Eng.Reads.of_own Om1_10
    clear S
    refine EngI.tail_nil ?_
    first | show Code.wp Tryd.prog _ _ _ _ | skip
    refine wp_seq ?_
    refine Eng.regionS (Eng.still [fun u_ => u_ = .agg #[u0, u1], fun u_ => u_ = .string s, fun u_ => u_ = .tuple #[.agg #[.int .i64 ((Lpr.parseB l0 l1 (Lpr.bl s)).1), .int .u64 ((Lpr.parseB l0 l1 (Lpr.bl s)).2.1)], .int .i64 ((Lpr.parseB l0 l1 (Lpr.bl s)).2.2)], fun u_ => u_ = .tuple #[.agg #[.int .i64 ((Lpr.parseB l0 l1 (Lpr.bl s)).1), .int .u64 ((Lpr.parseB l0 l1 (Lpr.bl s)).2.1)], .int .i64 ((Lpr.parseB l0 l1 (Lpr.bl s)).2.2)], fun u_ => u_ = .agg #[.int .i64 ((Lpr.parseB l0 l1 (Lpr.bl s)).1), .int .u64 ((Lpr.parseB l0 l1 (Lpr.bl s)).2.1)], fun u_ => u_ = .int .i64 ((Lpr.parseB l0 l1 (Lpr.bl s)).2.2), fun u_ => True, fun u_ => True, fun u_ => u_ = .int .i64 ((Lpr.parseB l0 l1 (Lpr.bl s)).2.2)]) (fun i => ([.plain, .plain, .plain, .plain, .plain, .plain, .alloc 30 #[.int .i64 0, .int .u64 0], .store 6 #[.int .i64 ((Lpr.parseB l0 l1 (Lpr.bl s)).1), .int .u64 ((Lpr.parseB l0 l1 (Lpr.bl s)).2.1)], .plain] : List Eng.Kind).getD i .plain) 9 0 59 s9 rfl (by kernel_rfl) (Eng.still_stable _) (Or.inr (Eng.still_any _)) ?_ ?_
    · refine Eng.Steps.cons (fun _ => ?_) (Eng.Steps.cons (fun _ => ?_) (Eng.Steps.cons (fun _ => ?_) (Eng.Steps.cons (fun _ => ?_) (Eng.Steps.cons (fun _ => ?_) (Eng.Steps.cons (fun _ => ?_) (Eng.Steps.cons (fun _ => ?_) (Eng.Steps.cons (fun _ => ?_) (Eng.Steps.cons (fun _ => ?_) (Eng.Steps.nil)))))))))
      · refine Eng.plain rfl rfl fun a w' H => ?_
        have kb := (H.below.block _ lg7_9_10).trans kg7_9_10
        have z0 : w'.cell? ⟨g7_9, 0, none⟩ = some (u0) := (Eng.cells kb 0).trans rfl
        have z1 : w'.cell? ⟨g7_9, 1, none⟩ = some (u1) := (Eng.cells kb 1).trans rfl
        refine Eng.val (w1 := w') (v := .agg #[u0, u1]) ?_ (Below.refl _ _) rfl
        have e0 : a.eval (.tmp 7) = .pointer (some ⟨g7_9, 0, none⟩) := ((H.kept 7 (by kernel_rfl)).trans h7_9)
        simp only [execOp, resolve, List.map_toArray, List.map_cons, List.map_nil, e0]
        go_simp
        all_goals first | rfl | (simp; done) | (rw [Bool.eq_iff_iff]; simp; done) | omega | (split <;> first | (simp_all; done) | (split <;> simp_all; done)) | skip
      · refine Eng.plain rfl rfl fun a w' H => ?_
        exact Eng.val (w1 := w') (v := .string s) (Eng.run_move rfl ((H.kept 2 (by kernel_rfl)).trans h2_9)) (Below.refl _ _) rfl
      · refine Eng.plain rfl rfl fun a w' H => ?_
        refine Eng.call Tryd.func29 (by kernel_rfl) (by kernel_rfl) rfl #[.agg #[u0, u1], .string s] ?_ ?_
        · have e0 : a.eval (.tmp 24) = .agg #[u0, u1] := (H.dep 0 24 (by kernel_rfl) rfl); have e1 : a.eval (.tmp 25) = .string s := (H.dep 1 25 (by kernel_rfl) rfl); simp only [List.map_toArray, List.map_cons, List.map_nil, e0, e1]
        refine ((Lpr.parse_calls (Eng.Reads.below Fm0_10 H.below) (Eng.Reads.below Fm1_10 H.below) S0 S1 s (by omega))).mono ?_
        rintro e w'' ⟨rfl, hb⟩
        exact ⟨_, rfl, rfl, hb⟩
      · refine Eng.plain rfl rfl fun a w' H => ?_
        exact Eng.val (w1 := w') (v := .tuple #[.agg #[.int .i64 ((Lpr.parseB l0 l1 (Lpr.bl s)).1), .int .u64 ((Lpr.parseB l0 l1 (Lpr.bl s)).2.1)], .int .i64 ((Lpr.parseB l0 l1 (Lpr.bl s)).2.2)]) (Eng.run_move rfl (H.dep 2 26 (by kernel_rfl) rfl)) (Below.refl _ _) rfl
      · refine Eng.plain rfl rfl fun a w' H => ?_
        refine Eng.val (w1 := w') (v := .agg #[.int .i64 ((Lpr.parseB l0 l1 (Lpr.bl s)).1), .int .u64 ((Lpr.parseB l0 l1 (Lpr.bl s)).2.1)]) ?_ (Below.refl _ _) rfl
        have e0 : a.eval (.tmp 23) = .tuple #[.agg #[.int .i64 ((Lpr.parseB l0 l1 (Lpr.bl s)).1), .int .u64 ((Lpr.parseB l0 l1 (Lpr.bl s)).2.1)], .int .i64 ((Lpr.parseB l0 l1 (Lpr.bl s)).2.2)] := (H.dep 3 23 (by kernel_rfl) rfl)
        simp only [execOp, resolve, List.map_toArray, List.map_cons, List.map_nil, e0]
        go_simp
        all_goals first | rfl | (simp; done) | (rw [Bool.eq_iff_iff]; simp; done) | omega | (split <;> first | (simp_all; done) | (split <;> simp_all; done)) | skip
      · refine Eng.plain rfl rfl fun a w' H => ?_
        refine Eng.val (w1 := w') (v := .int .i64 ((Lpr.parseB l0 l1 (Lpr.bl s)).2.2)) ?_ (Below.refl _ _) rfl
        have e0 : a.eval (.tmp 23) = .tuple #[.agg #[.int .i64 ((Lpr.parseB l0 l1 (Lpr.bl s)).1), .int .u64 ((Lpr.parseB l0 l1 (Lpr.bl s)).2.1)], .int .i64 ((Lpr.parseB l0 l1 (Lpr.bl s)).2.2)] := (H.dep 3 23 (by kernel_rfl) rfl)
        simp only [execOp, resolve, List.map_toArray, List.map_cons, List.map_nil, e0]
        go_simp
        all_goals first | rfl | (simp; done) | (rw [Bool.eq_iff_iff]; simp; done) | omega | (split <;> first | (simp_all; done) | (split <;> simp_all; done)) | skip
      · refine Eng.made rfl (by simp) rfl (fun a w' hd ho => ?_) (fun _ _ => trivial)
        simp only [execOp]
        go_simp
      · refine Eng.stored [.int .i64 ((Lpr.parseB l0 l1 (Lpr.bl s)).1), .int .u64 ((Lpr.parseB l0 l1 (Lpr.bl s)).2.1)] rfl rfl rfl (j := 6) (d := 8) (by kernel_rfl) rfl rfl (Eng.store_uniq (by kernel_rfl)) rfl rfl fun a w' g e hc hd ho => ?_
        have e0 : a.eval _ = .agg #[.int .i64 ((Lpr.parseB l0 l1 (Lpr.bl s)).1), .int .u64 ((Lpr.parseB l0 l1 (Lpr.bl s)).2.1)] := (hd 4 27 (by kernel_rfl) rfl)
        have z0 := (Eng.cells hc 0).trans rfl
        have z1 := (Eng.cells hc 1).trans rfl
        have f0 := Eng.unfrozen hc 0
        have f1 := Eng.unfrozen hc 1
        simp only [execOp, e, e0]
        go_simp
        rfl
      · refine Eng.plain rfl rfl fun a w' H => ?_
        exact Eng.val (w1 := w') (v := .int .i64 ((Lpr.parseB l0 l1 (Lpr.bl s)).2.2)) (Eng.run_assign rfl (H.dep 5 28 (by kernel_rfl) rfl)) (Below.refl _ _) rfl
    intro act11 w11 T
    have h0_11 : act11.eval (.tmp 0) = .agg #[na, nb] := (T.rest 0 (by kernel_rfl)).trans h0_9
    have h1_11 : act11.eval (.tmp 1) = .agg #[.int .i64 a0, .int .u64 a1] := (T.rest 1 (by kernel_rfl)).trans h1_9
    have h2_11 : act11.eval (.tmp 2) = .string s := (T.rest 2 (by kernel_rfl)).trans h2_9
    have h3_11 : act11.eval (.tmp 3) = .pointer (some ⟨g3_1, 0, none⟩) := (T.rest 3 (by kernel_rfl)).trans h3_9
    have h4_11 : act11.eval (.tmp 4) = .pointer (some ⟨g4_1, 0, none⟩) := (T.rest 4 (by kernel_rfl)).trans h4_9
    have h6_11 : act11.eval (.tmp 6) = .bool false := (T.rest 6 (by kernel_rfl)).trans h6_9
    have h7_11 : act11.eval (.tmp 7) = .pointer (some ⟨g7_9, 0, none⟩) := (T.rest 7 (by kernel_rfl)).trans h7_9
    have h13_11 : act11.eval (.tmp 13) = .bool q13 := (T.rest 13 (by kernel_rfl)).trans h13_9
    have h20_11 : act11.eval (.tmp 20) = .bool q20 := (T.rest 20 (by kernel_rfl)).trans h20_9
    have kg3_1_11 := (T.below.block _ lg3_1_10).trans kg3_1_10
    have lg3_1_11 := Nat.lt_of_lt_of_le lg3_1_10 T.below.size
    have kg4_1_11 := (T.below.block _ lg4_1_10).trans kg4_1_10
    have lg4_1_11 := Nat.lt_of_lt_of_le lg4_1_10 T.below.size
    have kg7_9_11 := (T.below.block _ lg7_9_10).trans kg7_9_10
    have lg7_9_11 := Nat.lt_of_lt_of_le lg7_9_10 T.below.size
    have Fn0_11 := Eng.Reads.below Fn0_10 T.below
    have Fn1_11 := Eng.Reads.below Fn1_10 T.below
    have Fm0_11 := Eng.Reads.below Fm0_10 T.below
    have Om0_11 := Eng.own_below Om0_10 T.below
    have Fm1_11 := Eng.Reads.below Fm1_10 T.below
    have Om1_11 := Eng.own_below Om1_10 T.below
    obtain ⟨g8_11, h8_11, rg8_11, lg8_11_11, kg8_11_11⟩ := T.st 6 8 7 _ _ _ rfl rfl rfl rfl rfl
    have og8_11 : w.heap.size ≤ g8_11 := Nat.le_trans bl10.size rg8_11
    have h9_11 : act11.eval (.tmp 9) = .int .i64 ((Lpr.parseB l0 l1 (Lpr.bl s)).2.2) := T.done 8 9 rfl rfl
    have d11 := T.defers.trans d9
    have s11 := T.size.trans s9
    have bl11 := bl10.trans (T.below.mono bl10.size)
    clear T
    refine Eng.tail_nil ?_
    first | show Code.wp Tryd.prog _ _ _ _ | skip
    refine wp_seq ?_
    refine Eng.regionS (Eng.still [fun u_ => u_ = .agg #[na, nb], fun u_ => u_ = .string s, fun u_ => u_ = .tuple #[.agg #[.int .i64 ((Lnm.parseR l0 l1 (Lpr.bl s)).1), .int .u64 ((Lnm.parseR l0 l1 (Lpr.bl s)).2.1)], .int .i64 ((Lnm.parseR l0 l1 (Lpr.bl s)).2.2)], fun u_ => u_ = .tuple #[.agg #[.int .i64 ((Lnm.parseR l0 l1 (Lpr.bl s)).1), .int .u64 ((Lnm.parseR l0 l1 (Lpr.bl s)).2.1)], .int .i64 ((Lnm.parseR l0 l1 (Lpr.bl s)).2.2)], fun u_ => u_ = .agg #[.int .i64 ((Lnm.parseR l0 l1 (Lpr.bl s)).1), .int .u64 ((Lnm.parseR l0 l1 (Lpr.bl s)).2.1)], fun u_ => u_ = .int .i64 ((Lnm.parseR l0 l1 (Lpr.bl s)).2.2), fun u_ => True, fun u_ => True, fun u_ => u_ = .int .i64 ((Lnm.parseR l0 l1 (Lpr.bl s)).2.2)]) (fun i => ([.plain, .plain, .plain, .plain, .plain, .plain, .alloc 28 #[.int .i64 0, .int .u64 0], .store 6 #[.int .i64 ((Lnm.parseR l0 l1 (Lpr.bl s)).1), .int .u64 ((Lnm.parseR l0 l1 (Lpr.bl s)).2.1)], .plain] : List Eng.Kind).getD i .plain) 9 0 59 s11 rfl (by kernel_rfl) (Eng.still_stable _) (Or.inr (Eng.still_any _)) ?_ ?_
    · refine Eng.Steps.cons (fun _ => ?_) (Eng.Steps.cons (fun _ => ?_) (Eng.Steps.cons (fun _ => ?_) (Eng.Steps.cons (fun _ => ?_) (Eng.Steps.cons (fun _ => ?_) (Eng.Steps.cons (fun _ => ?_) (Eng.Steps.cons (fun _ => ?_) (Eng.Steps.cons (fun _ => ?_) (Eng.Steps.cons (fun _ => ?_) (Eng.Steps.nil)))))))))
      · refine Eng.plain rfl rfl fun a w' H => ?_
        have kb := (H.below.block _ lg3_1_11).trans kg3_1_11
        have z0 : w'.cell? ⟨g3_1, 0, none⟩ = some (na) := (Eng.cells kb 0).trans rfl
        have z1 : w'.cell? ⟨g3_1, 1, none⟩ = some (nb) := (Eng.cells kb 1).trans rfl
        refine Eng.val (w1 := w') (v := .agg #[na, nb]) ?_ (Below.refl _ _) rfl
        have e0 : a.eval (.tmp 3) = .pointer (some ⟨g3_1, 0, none⟩) := ((H.kept 3 (by kernel_rfl)).trans h3_11)
        simp only [execOp, resolve, List.map_toArray, List.map_cons, List.map_nil, e0]
        go_simp
        all_goals first | rfl | (simp; done) | (rw [Bool.eq_iff_iff]; simp; done) | omega | (split <;> first | (simp_all; done) | (split <;> simp_all; done)) | skip
      · refine Eng.plain rfl rfl fun a w' H => ?_
        exact Eng.val (w1 := w') (v := .string s) (Eng.run_move rfl ((H.kept 2 (by kernel_rfl)).trans h2_11)) (Below.refl _ _) rfl
      · refine Eng.plain rfl rfl fun a w' H => ?_
        refine Eng.call Tryd.func30 (by kernel_rfl) (by kernel_rfl) rfl #[.agg #[na, nb], .string s] ?_ ?_
        · have e0 : a.eval (.tmp 30) = .agg #[na, nb] := (H.dep 0 30 (by kernel_rfl) rfl); have e1 : a.eval (.tmp 31) = .string s := (H.dep 1 31 (by kernel_rfl) rfl); simp only [List.map_toArray, List.map_cons, List.map_nil, e0, e1]
        refine ((Lnm.rparse_calls (Eng.Reads.below Fn0_11 H.below) (Eng.Reads.below Fn1_11 H.below) s (by omega))).mono ?_
        rintro e w'' ⟨rfl, hb⟩
        exact ⟨_, rfl, rfl, hb⟩
      · refine Eng.plain rfl rfl fun a w' H => ?_
        exact Eng.val (w1 := w') (v := .tuple #[.agg #[.int .i64 ((Lnm.parseR l0 l1 (Lpr.bl s)).1), .int .u64 ((Lnm.parseR l0 l1 (Lpr.bl s)).2.1)], .int .i64 ((Lnm.parseR l0 l1 (Lpr.bl s)).2.2)]) (Eng.run_move rfl (H.dep 2 32 (by kernel_rfl) rfl)) (Below.refl _ _) rfl
      · refine Eng.plain rfl rfl fun a w' H => ?_
        refine Eng.val (w1 := w') (v := .agg #[.int .i64 ((Lnm.parseR l0 l1 (Lpr.bl s)).1), .int .u64 ((Lnm.parseR l0 l1 (Lpr.bl s)).2.1)]) ?_ (Below.refl _ _) rfl
        have e0 : a.eval (.tmp 29) = .tuple #[.agg #[.int .i64 ((Lnm.parseR l0 l1 (Lpr.bl s)).1), .int .u64 ((Lnm.parseR l0 l1 (Lpr.bl s)).2.1)], .int .i64 ((Lnm.parseR l0 l1 (Lpr.bl s)).2.2)] := (H.dep 3 29 (by kernel_rfl) rfl)
        simp only [execOp, resolve, List.map_toArray, List.map_cons, List.map_nil, e0]
        go_simp
        all_goals first | rfl | (simp; done) | (rw [Bool.eq_iff_iff]; simp; done) | omega | (split <;> first | (simp_all; done) | (split <;> simp_all; done)) | skip
      · refine Eng.plain rfl rfl fun a w' H => ?_
        refine Eng.val (w1 := w') (v := .int .i64 ((Lnm.parseR l0 l1 (Lpr.bl s)).2.2)) ?_ (Below.refl _ _) rfl
        have e0 : a.eval (.tmp 29) = .tuple #[.agg #[.int .i64 ((Lnm.parseR l0 l1 (Lpr.bl s)).1), .int .u64 ((Lnm.parseR l0 l1 (Lpr.bl s)).2.1)], .int .i64 ((Lnm.parseR l0 l1 (Lpr.bl s)).2.2)] := (H.dep 3 29 (by kernel_rfl) rfl)
        simp only [execOp, resolve, List.map_toArray, List.map_cons, List.map_nil, e0]
        go_simp
        all_goals first | rfl | (simp; done) | (rw [Bool.eq_iff_iff]; simp; done) | omega | (split <;> first | (simp_all; done) | (split <;> simp_all; done)) | skip
      · refine Eng.made rfl (by simp) rfl (fun a w' hd ho => ?_) (fun _ _ => trivial)
        simp only [execOp]
        go_simp
      · refine Eng.stored [.int .i64 ((Lnm.parseR l0 l1 (Lpr.bl s)).1), .int .u64 ((Lnm.parseR l0 l1 (Lpr.bl s)).2.1)] rfl rfl rfl (j := 6) (d := 10) (by kernel_rfl) rfl rfl (Eng.store_uniq (by kernel_rfl)) rfl rfl fun a w' g e hc hd ho => ?_
        have e0 : a.eval _ = .agg #[.int .i64 ((Lnm.parseR l0 l1 (Lpr.bl s)).1), .int .u64 ((Lnm.parseR l0 l1 (Lpr.bl s)).2.1)] := (hd 4 33 (by kernel_rfl) rfl)
        have z0 := (Eng.cells hc 0).trans rfl
        have z1 := (Eng.cells hc 1).trans rfl
        have f0 := Eng.unfrozen hc 0
        have f1 := Eng.unfrozen hc 1
        simp only [execOp, e, e0]
        go_simp
        rfl
      · refine Eng.plain rfl rfl fun a w' H => ?_
        exact Eng.val (w1 := w') (v := .int .i64 ((Lnm.parseR l0 l1 (Lpr.bl s)).2.2)) (Eng.run_assign rfl (H.dep 5 34 (by kernel_rfl) rfl)) (Below.refl _ _) rfl
    intro act12 w12 T
    have h0_12 : act12.eval (.tmp 0) = .agg #[na, nb] := (T.rest 0 (by kernel_rfl)).trans h0_11
    have h1_12 : act12.eval (.tmp 1) = .agg #[.int .i64 a0, .int .u64 a1] := (T.rest 1 (by kernel_rfl)).trans h1_11
    have h2_12 : act12.eval (.tmp 2) = .string s := (T.rest 2 (by kernel_rfl)).trans h2_11
    have h3_12 : act12.eval (.tmp 3) = .pointer (some ⟨g3_1, 0, none⟩) := (T.rest 3 (by kernel_rfl)).trans h3_11
    have h4_12 : act12.eval (.tmp 4) = .pointer (some ⟨g4_1, 0, none⟩) := (T.rest 4 (by kernel_rfl)).trans h4_11
    have h6_12 : act12.eval (.tmp 6) = .bool false := (T.rest 6 (by kernel_rfl)).trans h6_11
    have h7_12 : act12.eval (.tmp 7) = .pointer (some ⟨g7_9, 0, none⟩) := (T.rest 7 (by kernel_rfl)).trans h7_11
    have h8_12 : act12.eval (.tmp 8) = .pointer (some ⟨g8_11, 0, none⟩) := (T.rest 8 (by kernel_rfl)).trans h8_11
    have h9_12 : act12.eval (.tmp 9) = .int .i64 ((Lpr.parseB l0 l1 (Lpr.bl s)).2.2) := (T.rest 9 (by kernel_rfl)).trans h9_11
    have h13_12 : act12.eval (.tmp 13) = .bool q13 := (T.rest 13 (by kernel_rfl)).trans h13_11
    have h20_12 : act12.eval (.tmp 20) = .bool q20 := (T.rest 20 (by kernel_rfl)).trans h20_11
    have kg3_1_12 := (T.below.block _ lg3_1_11).trans kg3_1_11
    have lg3_1_12 := Nat.lt_of_lt_of_le lg3_1_11 T.below.size
    have kg4_1_12 := (T.below.block _ lg4_1_11).trans kg4_1_11
    have lg4_1_12 := Nat.lt_of_lt_of_le lg4_1_11 T.below.size
    have kg7_9_12 := (T.below.block _ lg7_9_11).trans kg7_9_11
    have lg7_9_12 := Nat.lt_of_lt_of_le lg7_9_11 T.below.size
    have kg8_11_12 := (T.below.block _ lg8_11_11).trans kg8_11_11
    have lg8_11_12 := Nat.lt_of_lt_of_le lg8_11_11 T.below.size
    have Fn0_12 := Eng.Reads.below Fn0_11 T.below
    have Fn1_12 := Eng.Reads.below Fn1_11 T.below
    have Fm0_12 := Eng.Reads.below Fm0_11 T.below
    have Om0_12 := Eng.own_below Om0_11 T.below
    have Fm1_12 := Eng.Reads.below Fm1_11 T.below
    have Om1_12 := Eng.own_below Om1_11 T.below
    obtain ⟨g10_12, h10_12, rg10_12, lg10_12_12, kg10_12_12⟩ := T.st 6 10 7 _ _ _ rfl rfl rfl rfl rfl
    have og10_12 : w.heap.size ≤ g10_12 := Nat.le_trans bl11.size rg10_12
    have h11_12 : act12.eval (.tmp 11) = .int .i64 ((Lnm.parseR l0 l1 (Lpr.bl s)).2.2) := T.done 8 11 rfl rfl
    have d12 := T.defers.trans d11
    have s12 := T.size.trans s11
    have bl12 := bl11.trans (T.below.mono bl11.size)
    clear T
    refine Eng.tail_nil ?_
    first | show Code.wp Tryd.prog _ _ _ _ | skip
    refine wp_seq ?_
    obtain ⟨q36, Bq36⟩ : ∃ b : Bool, b = (Lpr.mayB l0 l1) := ⟨_, rfl⟩
    obtain ⟨q38, Bq38⟩ : ∃ b : Bool, b = (Lpr.mayB l0 l1) := ⟨_, rfl⟩
    refine Eng.regionD (Eng.still [fun u_ => u_ = .agg #[u0, u1], fun u_ => u_ = .bool q36, fun u_ => u_ = .agg #[na, nb], fun u_ => u_ = .bool q38, fun u_ => u_ = .bool true, fun u_ => u_ = .bool true, fun u_ => u_ = .agg #[u0, u1], fun u_ => u_ = .agg #[.int .i64 a0, .int .u64 a1], fun u_ => u_ = .string (⟨(Lpr.printB l0 l1 a0 a1).toArray⟩ : ByteArray), fun u_ => u_ = .agg #[na, nb], fun u_ => u_ = .agg #[.int .i64 a0, .int .u64 a1], fun u_ => u_ = .string (Lnm.mkB (Lpr.printB l0 l1 a0 a1)), fun u_ => u_ = .bool true, fun u_ => u_ = .bool true, fun u_ => u_ = .bool true, fun u_ => u_ = .agg #[.int .i64 ((Lpr.parseB l0 l1 (Lpr.bl s)).1), .int .u64 ((Lpr.parseB l0 l1 (Lpr.bl s)).2.1)], fun u_ => u_ = .agg #[.int .i64 ((Lnm.parseR l0 l1 (Lpr.bl s)).1), .int .u64 ((Lnm.parseR l0 l1 (Lpr.bl s)).2.1)], fun u_ => u_ = .bool true, fun u_ => u_ = .bool true, fun u_ => u_ = .bool true, fun u_ => u_ = .int .i64 ((Lpr.parseB l0 l1 (Lpr.bl s)).2.2), fun u_ => u_ = .int .i64 ((Lnm.parseR l0 l1 (Lpr.bl s)).2.2), fun u_ => u_ = .bool true, fun u_ => u_ = .bool true, fun u_ => u_ = .bool true]) (fun i => ([.plain, .plain, .plain, .plain, .plain, .plain, .plain, .plain, .plain, .plain, .plain, .plain, .plain, .plain, .plain, .plain, .plain, .plain, .plain, .plain, .plain, .plain, .plain, .plain, .plain] : List Eng.Kind).getD i .plain) 25 0 59 (by kernel_rfl) s12 rfl (by kernel_rfl) (Eng.still_stable _) (Or.inr (Eng.still_any _)) ?_ ?_
    · refine Eng.Steps.cons (fun _ => ?_) (Eng.Steps.cons (fun _ => ?_) (Eng.Steps.cons (fun _ => ?_) (Eng.Steps.cons (fun _ => ?_) (Eng.Steps.cons (fun _ => ?_) (Eng.Steps.cons (fun _ => ?_) (Eng.Steps.cons (fun _ => ?_) (Eng.Steps.cons (fun _ => ?_) (Eng.Steps.cons (fun _ => ?_) (Eng.Steps.cons (fun _ => ?_) (Eng.Steps.cons (fun _ => ?_) (Eng.Steps.cons (fun _ => ?_) (Eng.Steps.cons (fun _ => ?_) (Eng.Steps.cons (fun _ => ?_) (Eng.Steps.cons (fun _ => ?_) (Eng.Steps.cons (fun _ => ?_) (Eng.Steps.cons (fun _ => ?_) (Eng.Steps.cons (fun _ => ?_) (Eng.Steps.cons (fun _ => ?_) (Eng.Steps.cons (fun _ => ?_) (Eng.Steps.cons (fun _ => ?_) (Eng.Steps.cons (fun _ => ?_) (Eng.Steps.cons (fun _ => ?_) (Eng.Steps.cons (fun _ => ?_) (Eng.Steps.cons (fun _ => ?_) (Eng.Steps.nil)))))))))))))))))))))))))
      · refine Eng.plain rfl rfl fun a w' H => ?_
        have kb := (H.below.block _ lg7_9_12).trans kg7_9_12
        have z0 : w'.cell? ⟨g7_9, 0, none⟩ = some (u0) := (Eng.cells kb 0).trans rfl
        have z1 : w'.cell? ⟨g7_9, 1, none⟩ = some (u1) := (Eng.cells kb 1).trans rfl
        refine Eng.val (w1 := w') (v := .agg #[u0, u1]) ?_ (Below.refl _ _) rfl
        have e0 : a.eval (.tmp 7) = .pointer (some ⟨g7_9, 0, none⟩) := ((H.kept 7 (by kernel_rfl)).trans h7_12)
        simp only [execOp, resolve, List.map_toArray, List.map_cons, List.map_nil, e0]
        go_simp
        all_goals first | rfl | (simp; done) | (rw [Bool.eq_iff_iff]; simp; done) | omega | (split <;> first | (simp_all; done) | (split <;> simp_all; done)) | skip
      · refine Eng.plain rfl rfl fun a w' H => ?_
        refine Eng.call Tryd.func31 (by kernel_rfl) (by kernel_rfl) rfl #[.agg #[u0, u1]] ?_ ?_
        · have e0 : a.eval (.tmp 35) = .agg #[u0, u1] := (H.dep 0 35 (by kernel_rfl) rfl); simp only [List.map_toArray, List.map_cons, List.map_nil, e0]
        refine (Lpr.may_calls (Eng.Reads.below Fm0_12 H.below) (Eng.Reads.below Fm1_12 H.below) S0 S1).mono ?_
        rintro e w'' ⟨rfl, hb⟩
        exact ⟨_, rfl, (by show _ = Value.bool q36; rw [Bq36]), hb⟩
      · refine Eng.plain rfl rfl fun a w' H => ?_
        have kb := (H.below.block _ lg3_1_12).trans kg3_1_12
        have z0 : w'.cell? ⟨g3_1, 0, none⟩ = some (na) := (Eng.cells kb 0).trans rfl
        have z1 : w'.cell? ⟨g3_1, 1, none⟩ = some (nb) := (Eng.cells kb 1).trans rfl
        refine Eng.val (w1 := w') (v := .agg #[na, nb]) ?_ (Below.refl _ _) rfl
        have e0 : a.eval (.tmp 3) = .pointer (some ⟨g3_1, 0, none⟩) := ((H.kept 3 (by kernel_rfl)).trans h3_12)
        simp only [execOp, resolve, List.map_toArray, List.map_cons, List.map_nil, e0]
        go_simp
        all_goals first | rfl | (simp; done) | (rw [Bool.eq_iff_iff]; simp; done) | omega | (split <;> first | (simp_all; done) | (split <;> simp_all; done)) | skip
      · refine Eng.plain rfl rfl fun a w' H => ?_
        refine Eng.call Tryd.func32 (by kernel_rfl) (by kernel_rfl) rfl #[.agg #[na, nb]] ?_ ?_
        · have e0 : a.eval (.tmp 37) = .agg #[na, nb] := (H.dep 2 37 (by kernel_rfl) rfl); simp only [List.map_toArray, List.map_cons, List.map_nil, e0]
        refine (Lnm.may_calls na nb l0 l1 _ (Eng.Reads.below Fn0_12 H.below) (Eng.Reads.below Fn1_12 H.below)).mono ?_
        rintro e w'' ⟨rfl, hb⟩
        exact ⟨_, rfl, (by show _ = Value.bool q38; rw [Bq38]), hb⟩
      · refine Eng.plain rfl rfl fun a w' H => ?_
        refine Eng.val (w1 := w') (v := .bool (q36 == q38)) ?_ (Below.refl _ _) (by show _ = Value.bool true; rw [show (q36 == q38) = true from by rw [Bq36, Bq38]; simp])
        have e0 : a.eval (.tmp 36) = .bool q36 := (H.dep 1 36 (by kernel_rfl) rfl)
        have e1 : a.eval (.tmp 38) = .bool q38 := (H.dep 3 38 (by kernel_rfl) rfl)
        simp only [execOp, resolve, List.map_toArray, List.map_cons, List.map_nil, e0, e1]
        go_simp
        all_goals first | rfl | (simp; done) | (rw [Bool.eq_iff_iff]; simp; done) | omega | (split <;> first | (simp_all; done) | (split <;> simp_all; done)) | skip
      · refine Eng.plain rfl rfl fun a w' H => ?_
        exact Eng.val (w1 := w') (v := .bool true) (Eng.run_move rfl (H.dep 4 39 (by kernel_rfl) rfl)) (Below.refl _ _) rfl
      · refine Eng.guardedT (j := 5) (d := 40) rfl rfl (by kernel_rfl) rfl (fun v w h => h) fun a w' H => ?_
        have kb := (H.below.block _ lg7_9_12).trans kg7_9_12
        have z0 : w'.cell? ⟨g7_9, 0, none⟩ = some (u0) := (Eng.cells kb 0).trans rfl
        have z1 : w'.cell? ⟨g7_9, 1, none⟩ = some (u1) := (Eng.cells kb 1).trans rfl
        refine Eng.val (w1 := w') (v := .agg #[u0, u1]) ?_ (Below.refl _ _) rfl
        have e0 : a.eval (.tmp 7) = .pointer (some ⟨g7_9, 0, none⟩) := ((H.kept 7 (by kernel_rfl)).trans h7_12)
        simp only [execOp, resolve, List.map_toArray, List.map_cons, List.map_nil, e0]
        go_simp
        all_goals first | rfl | (simp; done) | (rw [Bool.eq_iff_iff]; simp; done) | omega | (split <;> first | (simp_all; done) | (split <;> simp_all; done)) | skip
      · refine Eng.guardedT (j := 5) (d := 40) rfl rfl (by kernel_rfl) rfl (fun v w h => h) fun a w' H => ?_
        have kb := (H.below.block _ lg4_1_12).trans kg4_1_12
        have z0 : w'.cell? ⟨g4_1, 0, none⟩ = some (.int .i64 a0) := (Eng.cells kb 0).trans rfl
        have z1 : w'.cell? ⟨g4_1, 1, none⟩ = some (.int .u64 a1) := (Eng.cells kb 1).trans rfl
        refine Eng.val (w1 := w') (v := .agg #[.int .i64 a0, .int .u64 a1]) ?_ (Below.refl _ _) rfl
        have e0 : a.eval (.tmp 4) = .pointer (some ⟨g4_1, 0, none⟩) := ((H.kept 4 (by kernel_rfl)).trans h4_12)
        simp only [execOp, resolve, List.map_toArray, List.map_cons, List.map_nil, e0]
        go_simp
        all_goals first | rfl | (simp; done) | (rw [Bool.eq_iff_iff]; simp; done) | omega | (split <;> first | (simp_all; done) | (split <;> simp_all; done)) | skip
      · refine Eng.guardedT (j := 5) (d := 40) rfl rfl (by kernel_rfl) rfl (fun v w h => h) fun a w' H => ?_
        refine Eng.call Tryd.func33 (by kernel_rfl) (by kernel_rfl) rfl #[.agg #[u0, u1], .agg #[.int .i64 a0, .int .u64 a1]] ?_ ?_
        · have e0 : a.eval (.tmp 41) = .agg #[u0, u1] := (H.dep 6 41 (by kernel_rfl) rfl); have e1 : a.eval (.tmp 42) = .agg #[.int .i64 a0, .int .u64 a1] := (H.dep 7 42 (by kernel_rfl) rfl); simp only [List.map_toArray, List.map_cons, List.map_nil, e0, e1]
        refine (Lpr.print_calls (Eng.Reads.below Fm0_12 H.below) (Eng.Reads.below Fm1_12 H.below) S0 S1 a0 a1 (by omega) (by omega)).mono ?_
        rintro e w'' ⟨rfl, hb⟩
        exact ⟨_, rfl, rfl, hb⟩
      · refine Eng.guardedT (j := 5) (d := 40) rfl rfl (by kernel_rfl) rfl (fun v w h => h) fun a w' H => ?_
        have kb := (H.below.block _ lg3_1_12).trans kg3_1_12
        have z0 : w'.cell? ⟨g3_1, 0, none⟩ = some (na) := (Eng.cells kb 0).trans rfl
        have z1 : w'.cell? ⟨g3_1, 1, none⟩ = some (nb) := (Eng.cells kb 1).trans rfl
        refine Eng.val (w1 := w') (v := .agg #[na, nb]) ?_ (Below.refl _ _) rfl
        have e0 : a.eval (.tmp 3) = .pointer (some ⟨g3_1, 0, none⟩) := ((H.kept 3 (by kernel_rfl)).trans h3_12)
        simp only [execOp, resolve, List.map_toArray, List.map_cons, List.map_nil, e0]
        go_simp
        all_goals first | rfl | (simp; done) | (rw [Bool.eq_iff_iff]; simp; done) | omega | (split <;> first | (simp_all; done) | (split <;> simp_all; done)) | skip
      · refine Eng.guardedT (j := 5) (d := 40) rfl rfl (by kernel_rfl) rfl (fun v w h => h) fun a w' H => ?_
        have kb := (H.below.block _ lg4_1_12).trans kg4_1_12
        have z0 : w'.cell? ⟨g4_1, 0, none⟩ = some (.int .i64 a0) := (Eng.cells kb 0).trans rfl
        have z1 : w'.cell? ⟨g4_1, 1, none⟩ = some (.int .u64 a1) := (Eng.cells kb 1).trans rfl
        refine Eng.val (w1 := w') (v := .agg #[.int .i64 a0, .int .u64 a1]) ?_ (Below.refl _ _) rfl
        have e0 : a.eval (.tmp 4) = .pointer (some ⟨g4_1, 0, none⟩) := ((H.kept 4 (by kernel_rfl)).trans h4_12)
        simp only [execOp, resolve, List.map_toArray, List.map_cons, List.map_nil, e0]
        go_simp
        all_goals first | rfl | (simp; done) | (rw [Bool.eq_iff_iff]; simp; done) | omega | (split <;> first | (simp_all; done) | (split <;> simp_all; done)) | skip
      · refine Eng.guardedT (j := 5) (d := 40) rfl rfl (by kernel_rfl) rfl (fun v w h => h) fun a w' H => ?_
        refine Eng.call Tryd.func34 (by kernel_rfl) (by kernel_rfl) rfl #[.agg #[na, nb], .agg #[.int .i64 a0, .int .u64 a1]] ?_ ?_
        · have e0 : a.eval (.tmp 44) = .agg #[na, nb] := (H.dep 9 44 (by kernel_rfl) rfl); have e1 : a.eval (.tmp 45) = .agg #[.int .i64 a0, .int .u64 a1] := (H.dep 10 45 (by kernel_rfl) rfl); simp only [List.map_toArray, List.map_cons, List.map_nil, e0, e1]
        refine (Lnm.rprint_calls na nb l0 l1 a0 a1 _ (Eng.Reads.below Fn0_12 H.below) (Eng.Reads.below Fn1_12 H.below) (by omega) (by omega)).mono ?_
        rintro e w'' ⟨rfl, hb⟩
        exact ⟨_, rfl, rfl, hb⟩
      · refine Eng.guardedT (j := 5) (d := 40) rfl rfl (by kernel_rfl) rfl (fun v w h => h) fun a w' H => ?_
        refine Eng.val (w1 := w') (v := .bool ((⟨(Lpr.printB l0 l1 a0 a1).toArray⟩ : ByteArray).toList == (Lnm.mkB (Lpr.printB l0 l1 a0 a1)).toList)) ?_ (Below.refl _ _) (by show _ = Value.bool true; rw [show ((⟨(Lpr.printB l0 l1 a0 a1).toArray⟩ : ByteArray).toList == (Lnm.mkB (Lpr.printB l0 l1 a0 a1)).toList) = true from by simp [Lnm.mkB]])
        have e0 : a.eval (.tmp 43) = .string (⟨(Lpr.printB l0 l1 a0 a1).toArray⟩ : ByteArray) := (H.dep 8 43 (by kernel_rfl) rfl)
        have e1 : a.eval (.tmp 46) = .string (Lnm.mkB (Lpr.printB l0 l1 a0 a1)) := (H.dep 11 46 (by kernel_rfl) rfl)
        simp only [execOp, resolve, List.map_toArray, List.map_cons, List.map_nil, e0, e1]
        go_simp
        all_goals first | rfl | (simp; done) | (rw [Bool.eq_iff_iff]; simp; done) | omega | (split <;> first | (simp_all; done) | (split <;> simp_all; done)) | skip
      · refine Eng.plain rfl rfl fun a w' H => ?_
        exact Eng.val (w1 := w') (v := .bool (true && true)) (Eng.run_and rfl rfl (G := true) (H.dep 5 40 (by kernel_rfl) rfl) (fun hb => (H.dep 12 47 (by kernel_rfl) rfl))) (Below.refl _ _) rfl
      · refine Eng.plain rfl rfl fun a w' H => ?_
        exact Eng.val (w1 := w') (v := .bool true) (Eng.run_move rfl (H.dep 13 48 (by kernel_rfl) rfl)) (Below.refl _ _) rfl
      · refine Eng.guardedT (j := 14) (d := 49) rfl rfl (by kernel_rfl) rfl (fun v w h => h) fun a w' H => ?_
        have kb := (H.below.block _ lg8_11_12).trans kg8_11_12
        have z0 : w'.cell? ⟨g8_11, 0, none⟩ = some (.int .i64 ((Lpr.parseB l0 l1 (Lpr.bl s)).1)) := (Eng.cells kb 0).trans rfl
        have z1 : w'.cell? ⟨g8_11, 1, none⟩ = some (.int .u64 ((Lpr.parseB l0 l1 (Lpr.bl s)).2.1)) := (Eng.cells kb 1).trans rfl
        refine Eng.val (w1 := w') (v := .agg #[.int .i64 ((Lpr.parseB l0 l1 (Lpr.bl s)).1), .int .u64 ((Lpr.parseB l0 l1 (Lpr.bl s)).2.1)]) ?_ (Below.refl _ _) rfl
        have e0 : a.eval (.tmp 8) = .pointer (some ⟨g8_11, 0, none⟩) := ((H.kept 8 (by kernel_rfl)).trans h8_12)
        simp only [execOp, resolve, List.map_toArray, List.map_cons, List.map_nil, e0]
        go_simp
        all_goals first | rfl | (simp; done) | (rw [Bool.eq_iff_iff]; simp; done) | omega | (split <;> first | (simp_all; done) | (split <;> simp_all; done)) | skip
      · refine Eng.guardedT (j := 14) (d := 49) rfl rfl (by kernel_rfl) rfl (fun v w h => h) fun a w' H => ?_
        have kb := (H.below.block _ lg10_12_12).trans kg10_12_12
        have z0 : w'.cell? ⟨g10_12, 0, none⟩ = some (.int .i64 ((Lnm.parseR l0 l1 (Lpr.bl s)).1)) := (Eng.cells kb 0).trans rfl
        have z1 : w'.cell? ⟨g10_12, 1, none⟩ = some (.int .u64 ((Lnm.parseR l0 l1 (Lpr.bl s)).2.1)) := (Eng.cells kb 1).trans rfl
        refine Eng.val (w1 := w') (v := .agg #[.int .i64 ((Lnm.parseR l0 l1 (Lpr.bl s)).1), .int .u64 ((Lnm.parseR l0 l1 (Lpr.bl s)).2.1)]) ?_ (Below.refl _ _) rfl
        have e0 : a.eval (.tmp 10) = .pointer (some ⟨g10_12, 0, none⟩) := ((H.kept 10 (by kernel_rfl)).trans h10_12)
        simp only [execOp, resolve, List.map_toArray, List.map_cons, List.map_nil, e0]
        go_simp
        all_goals first | rfl | (simp; done) | (rw [Bool.eq_iff_iff]; simp; done) | omega | (split <;> first | (simp_all; done) | (split <;> simp_all; done)) | skip
      · refine Eng.guardedT (j := 14) (d := 49) rfl rfl (by kernel_rfl) rfl (fun v w h => h) fun a w' H => ?_
        refine Eng.val (w1 := w') (v := .bool (((Lpr.parseB l0 l1 (Lpr.bl s)).1) == ((Lnm.parseR l0 l1 (Lpr.bl s)).1) && (((Lpr.parseB l0 l1 (Lpr.bl s)).2.1) == ((Lnm.parseR l0 l1 (Lpr.bl s)).2.1)))) ?_ (Below.refl _ _) (by show _ = Value.bool true; rw [show (((Lpr.parseB l0 l1 (Lpr.bl s)).1) == ((Lnm.parseR l0 l1 (Lpr.bl s)).1) && (((Lpr.parseB l0 l1 (Lpr.bl s)).2.1) == ((Lnm.parseR l0 l1 (Lpr.bl s)).2.1))) = true from by rw [Lnm.parse_same]; simp])
        have e0 : a.eval (.tmp 50) = .agg #[.int .i64 ((Lpr.parseB l0 l1 (Lpr.bl s)).1), .int .u64 ((Lpr.parseB l0 l1 (Lpr.bl s)).2.1)] := (H.dep 15 50 (by kernel_rfl) rfl)
        have e1 : a.eval (.tmp 51) = .agg #[.int .i64 ((Lnm.parseR l0 l1 (Lpr.bl s)).1), .int .u64 ((Lnm.parseR l0 l1 (Lpr.bl s)).2.1)] := (H.dep 16 51 (by kernel_rfl) rfl)
        simp only [execOp, resolve, List.map_toArray, List.map_cons, List.map_nil, e0, e1]
        go_simp
        all_goals first | rfl | (simp; done) | (rw [Bool.eq_iff_iff]; simp; done) | omega | (split <;> first | (simp_all; done) | (split <;> simp_all; done)) | skip
      · refine Eng.plain rfl rfl fun a w' H => ?_
        exact Eng.val (w1 := w') (v := .bool (true && true)) (Eng.run_and rfl rfl (G := true) (H.dep 14 49 (by kernel_rfl) rfl) (fun hb => (H.dep 17 52 (by kernel_rfl) rfl))) (Below.refl _ _) rfl
      · refine Eng.plain rfl rfl fun a w' H => ?_
        exact Eng.val (w1 := w') (v := .bool true) (Eng.run_move rfl (H.dep 18 53 (by kernel_rfl) rfl)) (Below.refl _ _) rfl
      · refine Eng.guardedT (j := 19) (d := 54) rfl rfl (by kernel_rfl) rfl (fun v w h => h) fun a w' H => ?_
        exact Eng.val (w1 := w') (v := .int .i64 ((Lpr.parseB l0 l1 (Lpr.bl s)).2.2)) (Eng.run_move rfl ((H.kept 9 (by kernel_rfl)).trans h9_12)) (Below.refl _ _) rfl
      · refine Eng.guardedT (j := 19) (d := 54) rfl rfl (by kernel_rfl) rfl (fun v w h => h) fun a w' H => ?_
        exact Eng.val (w1 := w') (v := .int .i64 ((Lnm.parseR l0 l1 (Lpr.bl s)).2.2)) (Eng.run_move rfl ((H.kept 11 (by kernel_rfl)).trans h11_12)) (Below.refl _ _) rfl
      · refine Eng.guardedT (j := 19) (d := 54) rfl rfl (by kernel_rfl) rfl (fun v w h => h) fun a w' H => ?_
        refine Eng.val (w1 := w') (v := .bool (((Lpr.parseB l0 l1 (Lpr.bl s)).2.2) == ((Lnm.parseR l0 l1 (Lpr.bl s)).2.2))) ?_ (Below.refl _ _) (by show _ = Value.bool true; rw [show (((Lpr.parseB l0 l1 (Lpr.bl s)).2.2) == ((Lnm.parseR l0 l1 (Lpr.bl s)).2.2)) = true from by rw [Lnm.parse_same]; simp])
        have e0 : a.eval (.tmp 55) = .int .i64 ((Lpr.parseB l0 l1 (Lpr.bl s)).2.2) := (H.dep 20 55 (by kernel_rfl) rfl)
        have e1 : a.eval (.tmp 56) = .int .i64 ((Lnm.parseR l0 l1 (Lpr.bl s)).2.2) := (H.dep 21 56 (by kernel_rfl) rfl)
        simp only [execOp, resolve, List.map_toArray, List.map_cons, List.map_nil, e0, e1]
        go_simp
        all_goals first | rfl | (simp; done) | (rw [Bool.eq_iff_iff]; simp; done) | omega | (split <;> first | (simp_all; done) | (split <;> simp_all; done)) | skip
      · refine Eng.plain rfl rfl fun a w' H => ?_
        exact Eng.val (w1 := w') (v := .bool (true && true)) (Eng.run_and rfl rfl (G := true) (H.dep 19 54 (by kernel_rfl) rfl) (fun hb => (H.dep 22 57 (by kernel_rfl) rfl))) (Below.refl _ _) rfl
      · refine Eng.plain rfl rfl fun a w' H => ?_
        exact Eng.val (w1 := w') (v := .bool true) (Eng.run_assign rfl (H.dep 23 58 (by kernel_rfl) rfl)) (Below.refl _ _) rfl
    intro act13 w13 T
    have h0_13 : act13.eval (.tmp 0) = .agg #[na, nb] := (T.rest 0 (by kernel_rfl)).trans h0_12
    have h1_13 : act13.eval (.tmp 1) = .agg #[.int .i64 a0, .int .u64 a1] := (T.rest 1 (by kernel_rfl)).trans h1_12
    have h2_13 : act13.eval (.tmp 2) = .string s := (T.rest 2 (by kernel_rfl)).trans h2_12
    have h3_13 : act13.eval (.tmp 3) = .pointer (some ⟨g3_1, 0, none⟩) := (T.rest 3 (by kernel_rfl)).trans h3_12
    have h4_13 : act13.eval (.tmp 4) = .pointer (some ⟨g4_1, 0, none⟩) := (T.rest 4 (by kernel_rfl)).trans h4_12
    have h7_13 : act13.eval (.tmp 7) = .pointer (some ⟨g7_9, 0, none⟩) := (T.rest 7 (by kernel_rfl)).trans h7_12
    have h8_13 : act13.eval (.tmp 8) = .pointer (some ⟨g8_11, 0, none⟩) := (T.rest 8 (by kernel_rfl)).trans h8_12
    have h9_13 : act13.eval (.tmp 9) = .int .i64 ((Lpr.parseB l0 l1 (Lpr.bl s)).2.2) := (T.rest 9 (by kernel_rfl)).trans h9_12
    have h10_13 : act13.eval (.tmp 10) = .pointer (some ⟨g10_12, 0, none⟩) := (T.rest 10 (by kernel_rfl)).trans h10_12
    have h11_13 : act13.eval (.tmp 11) = .int .i64 ((Lnm.parseR l0 l1 (Lpr.bl s)).2.2) := (T.rest 11 (by kernel_rfl)).trans h11_12
    have h13_13 : act13.eval (.tmp 13) = .bool q13 := (T.rest 13 (by kernel_rfl)).trans h13_12
    have h20_13 : act13.eval (.tmp 20) = .bool q20 := (T.rest 20 (by kernel_rfl)).trans h20_12
    have kg3_1_13 := (T.below.block _ lg3_1_12).trans kg3_1_12
    have lg3_1_13 := Nat.lt_of_lt_of_le lg3_1_12 T.below.size
    have kg4_1_13 := (T.below.block _ lg4_1_12).trans kg4_1_12
    have lg4_1_13 := Nat.lt_of_lt_of_le lg4_1_12 T.below.size
    have kg7_9_13 := (T.below.block _ lg7_9_12).trans kg7_9_12
    have lg7_9_13 := Nat.lt_of_lt_of_le lg7_9_12 T.below.size
    have kg8_11_13 := (T.below.block _ lg8_11_12).trans kg8_11_12
    have lg8_11_13 := Nat.lt_of_lt_of_le lg8_11_12 T.below.size
    have kg10_12_13 := (T.below.block _ lg10_12_12).trans kg10_12_12
    have lg10_12_13 := Nat.lt_of_lt_of_le lg10_12_12 T.below.size
    have Fn0_13 := Eng.Reads.below Fn0_12 T.below
    have Fn1_13 := Eng.Reads.below Fn1_12 T.below
    have Fm0_13 := Eng.Reads.below Fm0_12 T.below
    have Om0_13 := Eng.own_below Om0_12 T.below
    have Fm1_13 := Eng.Reads.below Fm1_12 T.below
    have Om1_13 := Eng.own_below Om1_12 T.below
    have h6_13 : act13.eval (.tmp 6) = .bool true := T.done 24 6 rfl rfl
    have d13 := T.defers.trans d12
    have s13 := T.size.trans s12
    have bl13 := bl12.trans (T.below.mono bl12.size)
    clear T
    refine Eng.tail_nil ?_
    first | show Code.wp Tryd.prog _ _ _ _ | skip
    refine wp_ret ?_
    repeat (first | refine Eng.in_ret ?_ | refine Eng.then_ret ?_)
    exact Eng.ret1 rfl d13 h6_13 ⟨rfl, bl13⟩
end Go.Proofs.YthgafcaoibfchaaDoor.X
end
