/- Words and walks that the row of LatticeNamesUpto needs: printed by programs, and plain laws. -/
import Derived.Test.YthgafcaoibfchaaDoorM7
import Derived.Test.YthgafcaoibfchaaDoorM5
import Derived.Test.YthgafcaoibfchaaDoorM4
import Derived.Test.YthgafcaoibfchaaDoorM0
import Derived.Laws.StructEq
import Derived.Test.YthgafcaoibfchaaDoorProg
import Derived.Below
import Derived.Deep.Draws
import Derived.Deep.AppendLies
import Derived.Maps.AppendAt
import Derived.OwnWalk
import Derived.Laws.BytesArg
import Derived.Laws.MakeOwn
import Derived.Laws.OwnMore
import Derived.Deep.OwnRows
import Derived.Tactics
import Derived.Lib.ConvBytes
import Derived.Laws.Slices
import Derived.WalkKit
import Derived.KernelRfl
import Derived.RowKit3
import Derived.Deep.LoopGhost
import Derived.Deep.QuietTactic
import Derived.BigQuiet
import Derived.WideLaws
import Derived.Deep.DeepCutAuto
import Derived.Deep.CutBlock
import Derived.Deep.RegionHeld3
import Derived.Laws.Rows
import Derived.Lib.AppendStr
import Derived.ArgAppend
import Derived.Laws.IdiomCopy
import Derived.OrdersHeld
import Derived.Laws.BitsLemmas
import Derived.RowKit
import Derived.Test.YthgafcaoibfchaaDoorM2
import Derived.Shelf.Strings.SlTrimAscii
import Derived.Test.YthgafcaoibfchaaDoorM3
section
namespace Go.Proofs.YthgafcaoibfchaaDoor.X
open Go.RowKit Go.Shelf Go.Proofs Go.Proofs.YthgafcaoibfchaaDoorW.PrintWords Go.Proofs.YthgafcaoibfchaaDoorW.PrintLast Go.Proofs.YthgafcaoibfchaaDoorW.PrintMore
set_option linter.unusedVariables false
set_option linter.unusedSimpArgs false
attribute [local go_sem] max2_int min2_int max_two min_two
set_option maxHeartbeats 4000000 in
set_option maxRecDepth 100000 in
theorem Lpr.heavy_calls (na nb : Value) (l0 l1 : List ByteArray) (w : World) (F0 : Eng.Reads w na l0.length 1 (Nfa.strs l0)) (F1 : Eng.Reads w nb l1.length 1 (Nfa.strs l1)) (h0 : l0.length ≤ 1048576) (h1 : l1.length ≤ 1048576) : Calls Tryd.prog 27 #[.agg #[na, nb]] w fun e w' => e = .returned (.bool (Lpr.heavyB l0 l1)) ∧ Below w.heap.size w w' := by
  have happ : (l0 ++ l1).length = l0.length + l1.length := List.length_append
  refine Eng.enter Tryd.func27 rfl fun act0 d0 s0 v0 => ?_
  have s0 : act0.tmps.size = 30 := s0
  have h0_0 : act0.eval (.tmp 0) = .agg #[na, nb] := v0 0 (by simp)
  clear v0
  have bl0 : Below w.heap.size w w := Below.refl _ _
  refine wp_seq ?_
  refine Eng.regionS (Eng.still [fun u_ => True, fun u_ => u_ = .bool false]) (fun i => ([.alloc 45 #[na, nb], .plain] : List Eng.Kind).getD i .plain) 2 0 30 s0 rfl (by kernel_rfl) (Eng.still_stable _) (Or.inr (Eng.still_any _)) ?_ ?_
  · refine Eng.Steps.cons (fun _ => ?_) (Eng.Steps.cons (fun _ => ?_) (Eng.Steps.nil))
    · refine Eng.made rfl (by simp) rfl (fun a w' hd ho => ?_) (fun _ _ => trivial)
      exact Eng.run_box rfl ((ho 0 (by kernel_rfl)).trans h0_0)
    · refine Eng.plain rfl rfl fun a w' H => ?_
      exact Eng.val (w1 := w') (v := .bool false) (Eng.run_assign rfl (rfl : a.eval (.const (.bool false)) = .bool false)) (Below.refl _ _) rfl
  intro act1 w1 T
  have h0_1 : act1.eval (.tmp 0) = .agg #[na, nb] := (T.rest 0 (by kernel_rfl)).trans h0_0
  have Fn0_1 := Eng.Reads.below F0 T.below
  have Fn1_1 := Eng.Reads.below F1 T.below
  obtain ⟨g1_1, h1_1, rg1_1, lg1_1_1, kg1_1_1⟩ := T.al 0 1 _ _ rfl rfl rfl (by kernel_rfl)
  have og1_1 : w.heap.size ≤ g1_1 := Nat.le_trans bl0.size rg1_1
  have h2_1 : act1.eval (.tmp 2) = .bool false := T.done 1 2 rfl rfl
  have d1 := T.defers.trans d0
  have s1 := T.size.trans s0
  have bl1 := bl0.trans (T.below.mono bl0.size)
  clear T
  refine Eng.tail_nil ?_
  first | show Code.wp Tryd.prog _ _ _ _ | skip
  refine wp_seq ?_
  refine wp_seq ?_
  refine Eng.regionD (Eng.tell [.still fun u_ => u_ = .pointer (some ⟨g1_1, 0, none⟩), .still fun u_ => u_ = na, .own w1.heap.size 9 1 l0.length (Nfa.strs l0), .still fun u_ => u_ = .pointer (some ⟨g1_1, 1, none⟩), .still fun u_ => u_ = nb, .own w1.heap.size 9 1 (l0 ++ l1).length (Nfa.strs (l0 ++ l1)), .still fun u_ => u_ = .int .i64 (((l0 ++ l1).length : Nat) : Int), .still fun u_ => u_ = .int .i64 0]) (fun i => ([.plain, .plain, .plain, .plain, .plain, .eats, .plain, .plain] : List Eng.Kind).getD i .plain) 8 0 30 (by kernel_rfl) s1 rfl (by kernel_rfl) (Eng.tell_stable _) (Or.inl (Eng.no_stores (by kernel_rfl))) ?_ ?_
  · refine Eng.Steps.cons (fun _ => ?_) (Eng.Steps.cons (fun _ => ?_) (Eng.Steps.cons (fun _ => ?_) (Eng.Steps.cons (fun _ => ?_) (Eng.Steps.cons (fun _ => ?_) (Eng.Steps.cons (fun _ => ?_) (Eng.Steps.cons (fun _ => ?_) (Eng.Steps.cons (fun _ => ?_) (Eng.Steps.nil))))))))
    · refine Eng.plain rfl rfl fun a w' H => ?_
      refine Eng.val (w1 := w') (v := .pointer (some ⟨g1_1, 0, none⟩)) ?_ (Below.refl _ _) rfl
      have e0 : a.eval (.tmp 1) = .pointer (some ⟨g1_1, 0, none⟩) := ((H.kept 1 (by kernel_rfl)).trans h1_1)
      simp only [execOp, resolve, List.map_toArray, List.map_cons, List.map_nil, e0]
      go_simp
      all_goals first | rfl | (simp; done) | (rw [Bool.eq_iff_iff]; simp; done) | omega | skip
    · refine Eng.plain rfl rfl fun a w' H => ?_
      have kb := (H.below.block _ lg1_1_1).trans kg1_1_1
      have z0 : w'.cell? ⟨g1_1, 0, none⟩ = some (na) := (Eng.cells kb 0).trans rfl
      refine Eng.val (w1 := w') (v := na) ?_ (Below.refl _ _) rfl
      have e0 : a.eval (.tmp 5) = .pointer (some ⟨g1_1, 0, none⟩) := (H.dep 0 5 (by kernel_rfl) rfl)
      simp only [execOp, resolve, List.map_toArray, List.map_cons, List.map_nil, e0]
      go_simp
      all_goals first | rfl | (simp; done) | (rw [Bool.eq_iff_iff]; simp; done) | omega | skip
    · refine Eng.plain rfl rfl fun a w' H => ?_
      refine Eng.call Tryd.func69 (by kernel_rfl) (by kernel_rfl) rfl #[na] ?_ ?_
      · have e0 : a.eval (.tmp 6) = na := (H.dep 1 6 (by kernel_rfl) rfl); simp only [List.map_toArray, List.map_cons, List.map_nil, e0]
      refine (Lpr.clone_calls na l0 _ (Eng.Reads.below Fn0_1 H.below) (by omega)).mono ?_
      rintro e w'' ⟨v, rfl, O, hb⟩
      exact ⟨_, rfl, Eng.own_mono O H.below.size, hb⟩
    · refine Eng.plain rfl rfl fun a w' H => ?_
      refine Eng.val (w1 := w') (v := .pointer (some ⟨g1_1, 1, none⟩)) ?_ (Below.refl _ _) rfl
      have e0 : a.eval (.tmp 1) = .pointer (some ⟨g1_1, 0, none⟩) := ((H.kept 1 (by kernel_rfl)).trans h1_1)
      simp only [execOp, resolve, List.map_toArray, List.map_cons, List.map_nil, e0]
      go_simp
      all_goals first | rfl | (simp; done) | (rw [Bool.eq_iff_iff]; simp; done) | omega | skip
    · refine Eng.plain rfl rfl fun a w' H => ?_
      have kb := (H.below.block _ lg1_1_1).trans kg1_1_1
      have z0 : w'.cell? ⟨g1_1, 1, none⟩ = some (nb) := (Eng.cells kb 1).trans rfl
      refine Eng.val (w1 := w') (v := nb) ?_ (Below.refl _ _) rfl
      have e0 : a.eval (.tmp 8) = .pointer (some ⟨g1_1, 1, none⟩) := (H.dep 3 8 (by kernel_rfl) rfl)
      simp only [execOp, resolve, List.map_toArray, List.map_cons, List.map_nil, e0]
      go_simp
      all_goals first | rfl | (simp; done) | (rw [Bool.eq_iff_iff]; simp; done) | omega | skip
    · refine Eng.eats (e := 2) (d := 7) rfl rfl (Eng.no_allocs (by kernel_rfl)) (by kernel_rfl) rfl rfl rfl (by kernel_rfl) fun a w' H OO => ?_
      refine Eng.ex_mono (Eng.run_appendI (B := w1.heap.size) (z := .string ⟨#[]⟩) rfl Tryd.underlying43 (by kernel_rfl) rfl rfl (rfl : a.eval (.tmp 7) = a.eval (.tmp 7)) OO (show a.eval (.tmp 9) = nb from (H.dep 4 9 (by kernel_rfl) rfl)) (Eng.Reads.below Fn1_1 H.below) (Nfa.strs_one _) (by omega) H.below.size) fun v1 w'' R => ?_
      obtain ⟨O, O2, hb, _, _⟩ := R
      exact ⟨hb, (Nfa.strs_cat O), O2⟩
    · refine Eng.plain rfl rfl fun a w' H => ?_
      refine Eng.val (w1 := w') (v := .int .i64 (((l0 ++ l1).length : Nat) : Int)) ?_ (Below.refl _ _) rfl
      exact Eng.run_len_sl rfl Tryd.underlying43 (show a.eval (.tmp 10) = (a.eval (.tmp 10)) from (rfl : a.eval (.tmp 10) = a.eval (.tmp 10))) (Eng.Reads.of_own (H.dep 5 10 (by kernel_rfl) rfl))
    · refine Eng.plain rfl rfl fun a w' H => ?_
      exact Eng.val (w1 := w') (v := .int .i64 0) (Eng.run_move rfl (rfl : a.eval (.const (.int .i64 0)) = .int .i64 0)) (Below.refl _ _) rfl
  intro act2 w2 T
  have h0_2 : act2.eval (.tmp 0) = .agg #[na, nb] := (T.rest 0 (by kernel_rfl)).trans h0_1
  have h1_2 : act2.eval (.tmp 1) = .pointer (some ⟨g1_1, 0, none⟩) := (T.rest 1 (by kernel_rfl)).trans h1_1
  have h2_2 : act2.eval (.tmp 2) = .bool false := (T.rest 2 (by kernel_rfl)).trans h2_1
  have kg1_1_2 := (T.below.block _ lg1_1_1).trans kg1_1_1
  have lg1_1_2 := Nat.lt_of_lt_of_le lg1_1_1 T.below.size
  have Fn0_2 := Eng.Reads.below Fn0_1 T.below
  have Fn1_2 := Eng.Reads.below Fn1_1 T.below
  have OO10_2 := T.done 5 10 rfl rfl
  obtain ⟨v10_2, h10_2⟩ : ∃ v, act2.eval (.tmp 10) = v := ⟨_, rfl⟩
  have h11_2 : act2.eval (.tmp 11) = .int .i64 (((l0 ++ l1).length : Nat) : Int) := T.done 6 11 rfl rfl
  have h12_2 : act2.eval (.tmp 12) = .int .i64 0 := T.done 7 12 rfl rfl
  have d2 := T.defers.trans d1
  have s2 := T.size.trans s1
  have bl2 := bl1.trans (T.below.mono bl1.size)
  have OP10_2 : w2.ownsRow w1.heap.size 9 1 v10_2 (l0 ++ l1).length (Nfa.strs (l0 ++ l1)) := by rw [← h10_2]; exact OO10_2
  clear OO10_2
  have FOa10_2 := Eng.Reads.of_own OP10_2
  clear T
  refine Eng.tail_nil ?_
  first | show Code.wp Tryd.prog _ _ _ _ | skip
  refine wp_block ?_
  refine Eng.loopN (fun n a w' => ∃ (k : Nat), (l0 ++ l1).length - k = n ∧ (k ≤ (l0 ++ l1).length) ∧ (∀ i, i < k → ((l0 ++ l1).getD i default).size ≤ 3000) ∧ (w'.ownsRow w.heap.size 9 1 v10_2 (l0 ++ l1).length (Nfa.strs (l0 ++ l1))) ∧ a.defers = [] ∧ a.tmps.size = 30 ∧ Below w.heap.size w w' ∧ a.eval (.tmp 0) = .agg #[na, nb] ∧ a.eval (.tmp 1) = .pointer (some ⟨g1_1, 0, none⟩) ∧ a.eval (.tmp 10) = v10_2 ∧ a.eval (.tmp 11) = .int .i64 (((l0 ++ l1).length : Nat) : Int) ∧ a.eval (.tmp 12) = .int .i64 (k : Nat) ∧ w'.heap[g1_1]? = some (.cells (#[na, nb]) 45 (0, 0)) ∧ g1_1 < w'.heap.size) (n0 := (l0 ++ l1).length - 0) ?_ ?_
  · exact ⟨0, rfl, by omega, fun i hi => absurd hi (by omega), (Eng.own_mono OP10_2 bl1.size), d2, s2, bl2, h0_2, h1_2, h10_2, h11_2, (h12_2.trans (by first | rfl | (congr 1; rw [Eng.i64_id (by omega) (by omega)]; omega) | (simp; done))), kg1_1_2, lg1_1_2⟩
  rintro n act3 w3 ⟨k, rfl, hc0_3, hc1_3, hc2_3, d3, s3, bl3, h0_3, h1_3, h10_3, h11_3, h12_3, kg1_1_3, lg1_1_3⟩
  have Fn0_3 := Eng.Reads.below F0 bl3
  have Fn1_3 := Eng.Reads.below F1 bl3
  have hk1 := hc0_3
  have hsm := hc1_3
  have Fa10_3 := Eng.Reads.of_own hc2_3
  refine wp_seq ?_
  obtain ⟨q13, Bq13⟩ : ∃ b : Bool, b = (decide ((k : Nat) < (((l0 ++ l1).length : Nat) : Int))) := ⟨_, rfl⟩
  refine Eng.regionS (Eng.still [fun u_ => u_ = .bool q13]) (fun i => ([.plain] : List Eng.Kind).getD i .plain) 1 0 30 s3 rfl (by kernel_rfl) (Eng.still_stable _) (Or.inr (Eng.still_any _)) ?_ ?_
  · refine Eng.Steps.cons (fun _ => ?_) (Eng.Steps.nil)
    · refine Eng.plain rfl rfl fun a w' H => ?_
      refine Eng.val (w1 := w') (v := .bool (decide ((k : Nat) < (((l0 ++ l1).length : Nat) : Int)))) ?_ (Below.refl _ _) (by show _ = Value.bool q13; rw [Bq13])
      have e0 : a.eval (.tmp 12) = .int .i64 (k : Nat) := ((H.kept 12 (by kernel_rfl)).trans h12_3)
      have e1 : a.eval (.tmp 11) = .int .i64 (((l0 ++ l1).length : Nat) : Int) := ((H.kept 11 (by kernel_rfl)).trans h11_3)
      simp only [execOp, resolve, List.map_toArray, List.map_cons, List.map_nil, e0, e1]
      go_simp
      all_goals first | rfl | (simp; done) | (rw [Bool.eq_iff_iff]; simp; done) | omega | skip
  intro act4 w4 T
  have h0_4 : act4.eval (.tmp 0) = .agg #[na, nb] := (T.rest 0 (by kernel_rfl)).trans h0_3
  have h1_4 : act4.eval (.tmp 1) = .pointer (some ⟨g1_1, 0, none⟩) := (T.rest 1 (by kernel_rfl)).trans h1_3
  have h10_4 : act4.eval (.tmp 10) = v10_2 := (T.rest 10 (by kernel_rfl)).trans h10_3
  have h11_4 : act4.eval (.tmp 11) = .int .i64 (((l0 ++ l1).length : Nat) : Int) := (T.rest 11 (by kernel_rfl)).trans h11_3
  have h12_4 : act4.eval (.tmp 12) = .int .i64 (k : Nat) := (T.rest 12 (by kernel_rfl)).trans h12_3
  have kg1_1_4 := (T.below.block _ lg1_1_3).trans kg1_1_3
  have lg1_1_4 := Nat.lt_of_lt_of_le lg1_1_3 T.below.size
  have Fn0_4 := Eng.Reads.below Fn0_3 T.below
  have Fn1_4 := Eng.Reads.below Fn1_3 T.below
  have Fa10_4 := Eng.Reads.below Fa10_3 T.below
  have Oa10_4 := Eng.own_below hc2_3 T.below
  have h13_4 : act4.eval (.tmp 13) = .bool q13 := T.done 0 13 rfl rfl
  have d4 := T.defers.trans d3
  have s4 := T.size.trans s3
  have bl4 := bl3.trans (T.below.mono bl3.size)
  clear T
  refine Eng.tail_nil ?_
  first | show Code.wp Tryd.prog _ _ _ _ | skip
  refine wp_seq ?_
  refine wp_cond_split h13_4 (fun hq => ?_) (fun hq => ?_)
  ·
    have kn5 := hq
    have c13 := Bq13.symm.trans hq
    clear hq
    have c13 := of_decide_eq_true c13
    have hk0 : k < (l0 ++ l1).length := by omega
    refine wp_skip ?_
    first | show Code.wp Tryd.prog _ _ _ _ | skip
    refine wp_seq ?_
    refine wp_block ?_
    refine wp_seq ?_
    refine Eng.regionS (Eng.still [fun u_ => u_ = Eng.elemPtr v10_2 (k * 1), fun u_ => u_ = .string ((l0 ++ l1).getD k default), fun u_ => u_ = .string ((l0 ++ l1).getD k default)]) (fun i => ([.plain, .plain, .plain] : List Eng.Kind).getD i .plain) 3 0 30 s4 rfl (by kernel_rfl) (Eng.still_stable _) (Or.inr (Eng.still_any _)) ?_ ?_
    · refine Eng.Steps.cons (fun _ => ?_) (Eng.Steps.cons (fun _ => ?_) (Eng.Steps.cons (fun _ => ?_) (Eng.Steps.nil)))
      · refine Eng.plain rfl rfl fun a w' H => ?_
        refine Eng.val (w1 := w') (v := Eng.elemPtr v10_2 (k * 1)) ?_ (Below.refl _ _) rfl
        exact Eng.run_index_sl rfl Tryd.underlying43 (by kernel_rfl) (show a.eval (.tmp 10) = v10_2 from ((H.kept 10 (by kernel_rfl)).trans h10_4)) ((show a.eval (.tmp 12) = .int .i64 (k : Nat) from ((H.kept 12 (by kernel_rfl)).trans h12_4)).trans (congrArg (Value.int _) (show (k : Nat) = ((k : Nat) : Int) from by omega))) (Eng.Reads.below Fa10_4 H.below) (by omega) rfl
      · refine Eng.plain rfl rfl fun a w' H => ?_
        refine Eng.val (w1 := w') (v := .string ((l0 ++ l1).getD k default)) ?_ (Below.refl _ _) rfl
        exact Eng.run_load_el (.string ((l0 ++ l1).getD k default)) rfl (show a.eval (.tmp 14) = Eng.elemPtr v10_2 (k * 1) from (H.dep 0 14 (by kernel_rfl) rfl)) (Eng.Reads.below Fa10_4 H.below) (Nfa.strs_at (l0 ++ l1) k (by omega)) (by kernel_rfl)
      · refine Eng.plain rfl rfl fun a w' H => ?_
        exact Eng.val (w1 := w') (v := .string ((l0 ++ l1).getD k default)) (Eng.run_assign rfl (H.dep 1 15 (by kernel_rfl) rfl)) (Below.refl _ _) rfl
    intro act6 w6 T
    have h0_6 : act6.eval (.tmp 0) = .agg #[na, nb] := (T.rest 0 (by kernel_rfl)).trans h0_4
    have h1_6 : act6.eval (.tmp 1) = .pointer (some ⟨g1_1, 0, none⟩) := (T.rest 1 (by kernel_rfl)).trans h1_4
    have h10_6 : act6.eval (.tmp 10) = v10_2 := (T.rest 10 (by kernel_rfl)).trans h10_4
    have h11_6 : act6.eval (.tmp 11) = .int .i64 (((l0 ++ l1).length : Nat) : Int) := (T.rest 11 (by kernel_rfl)).trans h11_4
    have h12_6 : act6.eval (.tmp 12) = .int .i64 (k : Nat) := (T.rest 12 (by kernel_rfl)).trans h12_4
    have h13_6 : act6.eval (.tmp 13) = .bool q13 := (T.rest 13 (by kernel_rfl)).trans h13_4
    have kg1_1_6 := (T.below.block _ lg1_1_4).trans kg1_1_4
    have lg1_1_6 := Nat.lt_of_lt_of_le lg1_1_4 T.below.size
    have Fn0_6 := Eng.Reads.below Fn0_4 T.below
    have Fn1_6 := Eng.Reads.below Fn1_4 T.below
    have Fa10_6 := Eng.Reads.below Fa10_4 T.below
    have Oa10_6 := Eng.own_below Oa10_4 T.below
    have h4_6 : act6.eval (.tmp 4) = .string ((l0 ++ l1).getD k default) := T.done 2 4 rfl rfl
    have d6 := T.defers.trans d4
    have s6 := T.size.trans s4
    have bl6 := bl4.trans (T.below.mono bl4.size)
    clear T
    refine Eng.tail_nil ?_
    first | show Code.wp Tryd.prog _ _ _ _ | skip
    refine wp_seq ?_
    obtain ⟨q18, Bq18⟩ : ∃ b : Bool, b = (decide ((((l0 ++ l1).getD k default).size : Int) > 3000)) := ⟨_, rfl⟩
    refine Eng.regionS (Eng.still [fun u_ => u_ = .string ((l0 ++ l1).getD k default), fun u_ => u_ = .int .i64 (((l0 ++ l1).getD k default).size : Int), fun u_ => u_ = .bool q18]) (fun i => ([.plain, .plain, .plain] : List Eng.Kind).getD i .plain) 3 0 30 s6 rfl (by kernel_rfl) (Eng.still_stable _) (Or.inr (Eng.still_any _)) ?_ ?_
    · refine Eng.Steps.cons (fun _ => ?_) (Eng.Steps.cons (fun _ => ?_) (Eng.Steps.cons (fun _ => ?_) (Eng.Steps.nil)))
      · refine Eng.plain rfl rfl fun a w' H => ?_
        exact Eng.val (w1 := w') (v := .string ((l0 ++ l1).getD k default)) (Eng.run_move rfl ((H.kept 4 (by kernel_rfl)).trans h4_6)) (Below.refl _ _) rfl
      · refine Eng.plain rfl rfl fun a w' H => ?_
        refine Eng.val (w1 := w') (v := .int .i64 (((l0 ++ l1).getD k default).size : Int)) ?_ (Below.refl _ _) rfl
        have e0 : a.eval (.tmp 16) = .string ((l0 ++ l1).getD k default) := (H.dep 0 16 (by kernel_rfl) rfl)
        simp only [execOp, resolve, List.map_toArray, List.map_cons, List.map_nil, e0]
        go_simp
        all_goals first | rfl | (simp; done) | (rw [Bool.eq_iff_iff]; simp; done) | omega | skip
      · refine Eng.plain rfl rfl fun a w' H => ?_
        refine Eng.val (w1 := w') (v := .bool (decide ((((l0 ++ l1).getD k default).size : Int) > 3000))) ?_ (Below.refl _ _) (by show _ = Value.bool q18; rw [Bq18])
        have e0 : a.eval (.tmp 17) = .int .i64 (((l0 ++ l1).getD k default).size : Int) := (H.dep 1 17 (by kernel_rfl) rfl)
        have e1 : a.eval (.const (.int .i64 3000)) = .int .i64 3000 := (rfl : a.eval (.const (.int .i64 3000)) = .int .i64 3000)
        simp only [execOp, resolve, List.map_toArray, List.map_cons, List.map_nil, e0, e1]
        go_simp
        all_goals first | rfl | (simp; done) | (rw [Bool.eq_iff_iff]; simp; done) | omega | skip
    intro act7 w7 T
    have h0_7 : act7.eval (.tmp 0) = .agg #[na, nb] := (T.rest 0 (by kernel_rfl)).trans h0_6
    have h1_7 : act7.eval (.tmp 1) = .pointer (some ⟨g1_1, 0, none⟩) := (T.rest 1 (by kernel_rfl)).trans h1_6
    have h4_7 : act7.eval (.tmp 4) = .string ((l0 ++ l1).getD k default) := (T.rest 4 (by kernel_rfl)).trans h4_6
    have h10_7 : act7.eval (.tmp 10) = v10_2 := (T.rest 10 (by kernel_rfl)).trans h10_6
    have h11_7 : act7.eval (.tmp 11) = .int .i64 (((l0 ++ l1).length : Nat) : Int) := (T.rest 11 (by kernel_rfl)).trans h11_6
    have h12_7 : act7.eval (.tmp 12) = .int .i64 (k : Nat) := (T.rest 12 (by kernel_rfl)).trans h12_6
    have h13_7 : act7.eval (.tmp 13) = .bool q13 := (T.rest 13 (by kernel_rfl)).trans h13_6
    have kg1_1_7 := (T.below.block _ lg1_1_6).trans kg1_1_6
    have lg1_1_7 := Nat.lt_of_lt_of_le lg1_1_6 T.below.size
    have Fn0_7 := Eng.Reads.below Fn0_6 T.below
    have Fn1_7 := Eng.Reads.below Fn1_6 T.below
    have Fa10_7 := Eng.Reads.below Fa10_6 T.below
    have Oa10_7 := Eng.own_below Oa10_6 T.below
    have h18_7 : act7.eval (.tmp 18) = .bool q18 := T.done 2 18 rfl rfl
    have d7 := T.defers.trans d6
    have s7 := T.size.trans s6
    have bl7 := bl6.trans (T.below.mono bl6.size)
    clear T
    refine Eng.tail_nil ?_
    first | show Code.wp Tryd.prog _ _ _ _ | skip
    refine wp_cond_split h18_7 (fun hq => ?_) (fun hq => ?_)
    ·
      have kn8 := hq
      have c18 := Bq18.symm.trans hq
      clear hq
      have c18 := of_decide_eq_true c18
      refine wp_seq ?_
      refine Eng.regionS (Eng.still [fun u_ => u_ = .bool true]) (fun i => ([.plain] : List Eng.Kind).getD i .plain) 1 0 30 s7 rfl (by kernel_rfl) (Eng.still_stable _) (Or.inr (Eng.still_any _)) ?_ ?_
      · refine Eng.Steps.cons (fun _ => ?_) (Eng.Steps.nil)
        · refine Eng.plain rfl rfl fun a w' H => ?_
          exact Eng.val (w1 := w') (v := .bool true) (Eng.run_assign rfl (rfl : a.eval (.const (.bool true)) = .bool true)) (Below.refl _ _) rfl
      intro act9 w9 T
      have h0_9 : act9.eval (.tmp 0) = .agg #[na, nb] := (T.rest 0 (by kernel_rfl)).trans h0_7
      have h1_9 : act9.eval (.tmp 1) = .pointer (some ⟨g1_1, 0, none⟩) := (T.rest 1 (by kernel_rfl)).trans h1_7
      have h4_9 : act9.eval (.tmp 4) = .string ((l0 ++ l1).getD k default) := (T.rest 4 (by kernel_rfl)).trans h4_7
      have h10_9 : act9.eval (.tmp 10) = v10_2 := (T.rest 10 (by kernel_rfl)).trans h10_7
      have h11_9 : act9.eval (.tmp 11) = .int .i64 (((l0 ++ l1).length : Nat) : Int) := (T.rest 11 (by kernel_rfl)).trans h11_7
      have h12_9 : act9.eval (.tmp 12) = .int .i64 (k : Nat) := (T.rest 12 (by kernel_rfl)).trans h12_7
      have h13_9 : act9.eval (.tmp 13) = .bool q13 := (T.rest 13 (by kernel_rfl)).trans h13_7
      have h18_9 : act9.eval (.tmp 18) = .bool q18 := (T.rest 18 (by kernel_rfl)).trans h18_7
      have kg1_1_9 := (T.below.block _ lg1_1_7).trans kg1_1_7
      have lg1_1_9 := Nat.lt_of_lt_of_le lg1_1_7 T.below.size
      have Fn0_9 := Eng.Reads.below Fn0_7 T.below
      have Fn1_9 := Eng.Reads.below Fn1_7 T.below
      have Fa10_9 := Eng.Reads.below Fa10_7 T.below
      have Oa10_9 := Eng.own_below Oa10_7 T.below
      have h2_9 : act9.eval (.tmp 2) = .bool true := T.done 0 2 rfl rfl
      have d9 := T.defers.trans d7
      have s9 := T.size.trans s7
      have bl9 := bl7.trans (T.below.mono bl7.size)
      clear T
      refine Eng.tail_nil ?_
      first | show Code.wp Tryd.prog _ _ _ _ | skip
      refine wp_ret ?_
      repeat (first | refine Eng.in_ret ?_ | refine Eng.then_ret ?_)
      exact Eng.ret1 rfl d9 h2_9 ⟨congrArg _ (congrArg _ (Lpr.heavy_at hk0 (by omega)).symm), bl9⟩
    ·
      have kn10 := hq
      have c18 := Bq18.symm.trans hq
      clear hq
      have c18 := of_decide_eq_false c18
      refine wp_skip ?_
      first | show Code.wp Tryd.prog _ _ _ _ | skip
      refine Eng.regionS (Eng.still [fun u_ => u_ = .int .i64 (IntKind.i64.wrap ((k : Nat) + 1)), fun u_ => u_ = .int .i64 (IntKind.i64.wrap ((k : Nat) + 1))]) (fun i => ([.plain, .plain] : List Eng.Kind).getD i .plain) 2 0 30 s7 rfl (by kernel_rfl) (Eng.still_stable _) (Or.inr (Eng.still_any _)) ?_ ?_
      · refine Eng.Steps.cons (fun _ => ?_) (Eng.Steps.cons (fun _ => ?_) (Eng.Steps.nil))
        · refine Eng.plain rfl rfl fun a w' H => ?_
          refine Eng.val (w1 := w') (v := .int .i64 (IntKind.i64.wrap ((k : Nat) + 1))) ?_ (Below.refl _ _) rfl
          have e0 : a.eval (.tmp 12) = .int .i64 (k : Nat) := ((H.kept 12 (by kernel_rfl)).trans h12_7)
          have e1 : a.eval (.const (.int .i64 1)) = .int .i64 1 := (rfl : a.eval (.const (.int .i64 1)) = .int .i64 1)
          simp only [execOp, resolve, List.map_toArray, List.map_cons, List.map_nil, e0, e1]
          go_simp
          all_goals first | rfl | (simp; done) | (rw [Bool.eq_iff_iff]; simp; done) | omega | skip
        · refine Eng.plain rfl rfl fun a w' H => ?_
          exact Eng.val (w1 := w') (v := .int .i64 (IntKind.i64.wrap ((k : Nat) + 1))) (Eng.run_move rfl (H.dep 0 19 (by kernel_rfl) rfl)) (Below.refl _ _) rfl
      intro act11 w11 T
      have h0_11 : act11.eval (.tmp 0) = .agg #[na, nb] := (T.rest 0 (by kernel_rfl)).trans h0_7
      have h1_11 : act11.eval (.tmp 1) = .pointer (some ⟨g1_1, 0, none⟩) := (T.rest 1 (by kernel_rfl)).trans h1_7
      have h4_11 : act11.eval (.tmp 4) = .string ((l0 ++ l1).getD k default) := (T.rest 4 (by kernel_rfl)).trans h4_7
      have h10_11 : act11.eval (.tmp 10) = v10_2 := (T.rest 10 (by kernel_rfl)).trans h10_7
      have h11_11 : act11.eval (.tmp 11) = .int .i64 (((l0 ++ l1).length : Nat) : Int) := (T.rest 11 (by kernel_rfl)).trans h11_7
      have h13_11 : act11.eval (.tmp 13) = .bool q13 := (T.rest 13 (by kernel_rfl)).trans h13_7
      have h18_11 : act11.eval (.tmp 18) = .bool q18 := (T.rest 18 (by kernel_rfl)).trans h18_7
      have kg1_1_11 := (T.below.block _ lg1_1_7).trans kg1_1_7
      have lg1_1_11 := Nat.lt_of_lt_of_le lg1_1_7 T.below.size
      have Fn0_11 := Eng.Reads.below Fn0_7 T.below
      have Fn1_11 := Eng.Reads.below Fn1_7 T.below
      have Fa10_11 := Eng.Reads.below Fa10_7 T.below
      have Oa10_11 := Eng.own_below Oa10_7 T.below
      have h12_11 : act11.eval (.tmp 12) = .int .i64 (IntKind.i64.wrap ((k : Nat) + 1)) := T.done 1 12 rfl rfl
      have d11 := T.defers.trans d7
      have s11 := T.size.trans s7
      have bl11 := bl7.trans (T.below.mono bl7.size)
      clear T
      refine Eng.tail_nil ?_
      exact ⟨_, by omega, k + 1, rfl, by omega, Lpr.heavy_succ hsm (by omega), Oa10_11, d11, s11, bl11, h0_11, h1_11, h10_11, h11_11, (h12_11.trans (by first | rfl | (congr 1; rw [Eng.i64_id (by omega) (by omega)]; omega) | (simp; done))), kg1_1_11, lg1_1_11⟩
  ·
    have kn12 := hq
    have c13 := Bq13.symm.trans hq
    clear hq
    have c13 := of_decide_eq_false c13
    have hke : k = (l0 ++ l1).length := by omega
    refine wp_exit ?_
    first | show Code.wp Tryd.prog _ _ _ _ | skip
    first | show Code.wp Tryd.prog _ _ _ _ | skip
    refine wp_seq ?_
    obtain ⟨q23, Bq23⟩ : ∃ b : Bool, b = (decide (((l0.length : Nat) : Int) > 100)) := ⟨_, rfl⟩
    obtain ⟨q28, Bq28⟩ : ∃ b : Bool, b = (decide (((l1.length : Nat) : Int) > 100)) := ⟨_, rfl⟩
    obtain ⟨q29, Bq29⟩ : ∃ b : Bool, b = (q23 || q28) := ⟨_, rfl⟩
    refine Eng.regionS (Eng.still [fun u_ => u_ = .pointer (some ⟨g1_1, 0, none⟩), fun u_ => u_ = na, fun u_ => u_ = .int .i64 ((l0.length : Nat) : Int), fun u_ => u_ = .bool q23, fun u_ => u_ = .bool q23, fun u_ => u_ = bif (q23 == false) then (.pointer (some ⟨g1_1, 1, none⟩)) else undef, fun u_ => u_ = bif (q23 == false) then (nb) else undef, fun u_ => u_ = bif (q23 == false) then (.int .i64 ((l1.length : Nat) : Int)) else undef, fun u_ => u_ = bif (q23 == false) then (.bool q28) else undef, fun u_ => u_ = .bool q29, fun u_ => u_ = .bool q29]) (fun i => ([.plain, .plain, .plain, .plain, .plain, .plain, .plain, .plain, .plain, .plain, .plain] : List Eng.Kind).getD i .plain) 11 0 30 s4 rfl (by kernel_rfl) (Eng.still_stable _) (Or.inr (Eng.still_any _)) ?_ ?_
    · refine Eng.Steps.cons (fun _ => ?_) (Eng.Steps.cons (fun _ => ?_) (Eng.Steps.cons (fun _ => ?_) (Eng.Steps.cons (fun _ => ?_) (Eng.Steps.cons (fun _ => ?_) (Eng.Steps.cons (fun _ => ?_) (Eng.Steps.cons (fun _ => ?_) (Eng.Steps.cons (fun _ => ?_) (Eng.Steps.cons (fun _ => ?_) (Eng.Steps.cons (fun _ => ?_) (Eng.Steps.cons (fun _ => ?_) (Eng.Steps.nil)))))))))))
      · refine Eng.plain rfl rfl fun a w' H => ?_
        refine Eng.val (w1 := w') (v := .pointer (some ⟨g1_1, 0, none⟩)) ?_ (Below.refl _ _) rfl
        have e0 : a.eval (.tmp 1) = .pointer (some ⟨g1_1, 0, none⟩) := ((H.kept 1 (by kernel_rfl)).trans h1_4)
        simp only [execOp, resolve, List.map_toArray, List.map_cons, List.map_nil, e0]
        go_simp
        all_goals first | rfl | (simp; done) | (rw [Bool.eq_iff_iff]; simp; done) | omega | skip
      · refine Eng.plain rfl rfl fun a w' H => ?_
        have kb := (H.below.block _ lg1_1_4).trans kg1_1_4
        have z0 : w'.cell? ⟨g1_1, 0, none⟩ = some (na) := (Eng.cells kb 0).trans rfl
        refine Eng.val (w1 := w') (v := na) ?_ (Below.refl _ _) rfl
        have e0 : a.eval (.tmp 20) = .pointer (some ⟨g1_1, 0, none⟩) := (H.dep 0 20 (by kernel_rfl) rfl)
        simp only [execOp, resolve, List.map_toArray, List.map_cons, List.map_nil, e0]
        go_simp
        all_goals first | rfl | (simp; done) | (rw [Bool.eq_iff_iff]; simp; done) | omega | skip
      · refine Eng.plain rfl rfl fun a w' H => ?_
        refine Eng.val (w1 := w') (v := .int .i64 ((l0.length : Nat) : Int)) ?_ (Below.refl _ _) rfl
        exact Eng.run_len_sl rfl Tryd.underlying43 (show a.eval (.tmp 21) = na from (H.dep 1 21 (by kernel_rfl) rfl)) (Eng.Reads.below Fn0_4 H.below)
      · refine Eng.plain rfl rfl fun a w' H => ?_
        refine Eng.val (w1 := w') (v := .bool (decide (((l0.length : Nat) : Int) > 100))) ?_ (Below.refl _ _) (by show _ = Value.bool q23; rw [Bq23])
        have e0 : a.eval (.tmp 22) = .int .i64 ((l0.length : Nat) : Int) := (H.dep 2 22 (by kernel_rfl) rfl)
        have e1 : a.eval (.const (.int .i64 100)) = .int .i64 100 := (rfl : a.eval (.const (.int .i64 100)) = .int .i64 100)
        simp only [execOp, resolve, List.map_toArray, List.map_cons, List.map_nil, e0, e1]
        go_simp
        all_goals first | rfl | (simp; done) | (rw [Bool.eq_iff_iff]; simp; done) | omega | skip
      · refine Eng.plain rfl rfl fun a w' H => ?_
        exact Eng.val (w1 := w') (v := .bool q23) (Eng.run_move rfl (H.dep 3 23 (by kernel_rfl) rfl)) (Below.refl _ _) rfl
      · refine Eng.guarded1 (j := 4) (d := 24) (b := q23) rfl rfl (by kernel_rfl) rfl (fun v w h => h) (fun hG w => Eng.off hG) fun hG a w' H => ?_
        refine Eng.val (w1 := w') (v := .pointer (some ⟨g1_1, 1, none⟩)) ?_ (Below.refl _ _) (Eng.off' hG rfl)
        have e0 : a.eval (.tmp 1) = .pointer (some ⟨g1_1, 0, none⟩) := ((H.kept 1 (by kernel_rfl)).trans h1_4)
        simp only [execOp, resolve, List.map_toArray, List.map_cons, List.map_nil, e0]
        go_simp
        all_goals first | rfl | (simp; done) | (rw [Bool.eq_iff_iff]; simp; done) | omega | skip
      · refine Eng.guarded1 (j := 4) (d := 24) (b := q23) rfl rfl (by kernel_rfl) rfl (fun v w h => h) (fun hG w => Eng.off hG) fun hG a w' H => ?_
        have kb := (H.below.block _ lg1_1_4).trans kg1_1_4
        have z0 : w'.cell? ⟨g1_1, 1, none⟩ = some (nb) := (Eng.cells kb 1).trans rfl
        refine Eng.val (w1 := w') (v := nb) ?_ (Below.refl _ _) (Eng.off' hG rfl)
        have e0 : a.eval (.tmp 25) = .pointer (some ⟨g1_1, 1, none⟩) := (Eng.on (H.dep 5 25 (by kernel_rfl) rfl) hG)
        simp only [execOp, resolve, List.map_toArray, List.map_cons, List.map_nil, e0]
        go_simp
        all_goals first | rfl | (simp; done) | (rw [Bool.eq_iff_iff]; simp; done) | omega | skip
      · refine Eng.guarded1 (j := 4) (d := 24) (b := q23) rfl rfl (by kernel_rfl) rfl (fun v w h => h) (fun hG w => Eng.off hG) fun hG a w' H => ?_
        refine Eng.val (w1 := w') (v := .int .i64 ((l1.length : Nat) : Int)) ?_ (Below.refl _ _) (Eng.off' hG rfl)
        exact Eng.run_len_sl rfl Tryd.underlying43 (show a.eval (.tmp 26) = nb from (Eng.on (H.dep 6 26 (by kernel_rfl) rfl) hG)) (Eng.Reads.below Fn1_4 H.below)
      · refine Eng.guarded1 (j := 4) (d := 24) (b := q23) rfl rfl (by kernel_rfl) rfl (fun v w h => h) (fun hG w => Eng.off hG) fun hG a w' H => ?_
        refine Eng.val (w1 := w') (v := .bool (decide (((l1.length : Nat) : Int) > 100))) ?_ (Below.refl _ _) (Eng.off' hG (by rw [Bq28]))
        have e0 : a.eval (.tmp 27) = .int .i64 ((l1.length : Nat) : Int) := (Eng.on (H.dep 7 27 (by kernel_rfl) rfl) hG)
        have e1 : a.eval (.const (.int .i64 100)) = .int .i64 100 := (rfl : a.eval (.const (.int .i64 100)) = .int .i64 100)
        simp only [execOp, resolve, List.map_toArray, List.map_cons, List.map_nil, e0, e1]
        go_simp
        all_goals first | rfl | (simp; done) | (rw [Bool.eq_iff_iff]; simp; done) | omega | skip
      · refine Eng.plain rfl rfl fun a w' H => ?_
        exact Eng.val (w1 := w') (v := .bool (q23 || q28)) (Eng.run_or rfl rfl (G := true) (H.dep 4 24 (by kernel_rfl) rfl) (fun hb => (Eng.on (H.dep 8 28 (by kernel_rfl) rfl) (Eng.mk1 hb)))) (Below.refl _ _) (by show _ = Value.bool q29; rw [Bq29])
      · refine Eng.plain rfl rfl fun a w' H => ?_
        exact Eng.val (w1 := w') (v := .bool q29) (Eng.run_assign rfl (H.dep 9 29 (by kernel_rfl) rfl)) (Below.refl _ _) rfl
    intro act13 w13 T
    have h0_13 : act13.eval (.tmp 0) = .agg #[na, nb] := (T.rest 0 (by kernel_rfl)).trans h0_4
    have h1_13 : act13.eval (.tmp 1) = .pointer (some ⟨g1_1, 0, none⟩) := (T.rest 1 (by kernel_rfl)).trans h1_4
    have h10_13 : act13.eval (.tmp 10) = v10_2 := (T.rest 10 (by kernel_rfl)).trans h10_4
    have h11_13 : act13.eval (.tmp 11) = .int .i64 (((l0 ++ l1).length : Nat) : Int) := (T.rest 11 (by kernel_rfl)).trans h11_4
    have h12_13 : act13.eval (.tmp 12) = .int .i64 (k : Nat) := (T.rest 12 (by kernel_rfl)).trans h12_4
    have h13_13 : act13.eval (.tmp 13) = .bool q13 := (T.rest 13 (by kernel_rfl)).trans h13_4
    have kg1_1_13 := (T.below.block _ lg1_1_4).trans kg1_1_4
    have lg1_1_13 := Nat.lt_of_lt_of_le lg1_1_4 T.below.size
    have Fn0_13 := Eng.Reads.below Fn0_4 T.below
    have Fn1_13 := Eng.Reads.below Fn1_4 T.below
    have Fa10_13 := Eng.Reads.below Fa10_4 T.below
    have Oa10_13 := Eng.own_below Oa10_4 T.below
    have h2_13 : act13.eval (.tmp 2) = .bool q29 := T.done 10 2 rfl rfl
    have d13 := T.defers.trans d4
    have s13 := T.size.trans s4
    have bl13 := bl4.trans (T.below.mono bl4.size)
    clear T
    refine Eng.tail_nil ?_
    first | show Code.wp Tryd.prog _ _ _ _ | skip
    refine wp_ret ?_
    repeat (first | refine Eng.in_ret ?_ | refine Eng.then_ret ?_)
    exact Eng.ret1 rfl d13 (h2_13.trans (by rw [Bq29, Bq28, Bq23, Lpr.heavy_all (fun i hi => hsm i (by omega))]; congr 1; rw [Bool.eq_iff_iff]; simp only [Bool.or_eq_true, decide_eq_true_eq]; omega)) ⟨rfl, bl13⟩
end Go.Proofs.YthgafcaoibfchaaDoor.X
end
section
namespace Go.Proofs.YthgafcaoibfchaaDoor.X
open Go.RowKit Go.Shelf Go.Proofs Go.Proofs.YthgafcaoibfchaaDoorW.PrintWords Go.Proofs.YthgafcaoibfchaaDoorW.PrintLast Go.Proofs.YthgafcaoibfchaaDoorW.PrintMore
set_option linter.unusedVariables false
set_option linter.unusedSimpArgs false
attribute [local go_sem] max2_int min2_int max_two min_two
set_option maxHeartbeats 4000000 in
set_option maxRecDepth 100000 in
theorem Lpr.theirs_calls (na nb : Value) (l0 l1 : List ByteArray) (w : World) (F0 : Eng.Reads w na l0.length 1 (Nfa.strs l0)) (F1 : Eng.Reads w nb l1.length 1 (Nfa.strs l1)) (h0 : l0.length ≤ 1048576) (h1 : l1.length ≤ 1048576) : Calls Tryd.prog 28 #[.agg #[na, nb]] w fun e w' => ∃ u0 u1, e = .returned (.agg #[u0, u1]) ∧ w'.ownsRow w.heap.size 9 1 u0 l0.length (Nfa.strs l0) ∧ w'.ownsRow w.heap.size 9 1 u1 l1.length (Nfa.strs l1) ∧ Below w.heap.size w w' := by
  refine Eng.enter Tryd.func28 rfl fun act0 d0 s0 v0 => ?_
  have s0 : act0.tmps.size = 10 := s0
  have h0_0 : act0.eval (.tmp 0) = .agg #[na, nb] := v0 0 (by simp)
  clear v0
  have bl0 : Below w.heap.size w w := Below.refl _ _
  refine wp_seq ?_
  refine Eng.regionS (Eng.still [fun u_ => True, fun u_ => True]) (fun i => ([.alloc 45 #[na, nb], .alloc 47 #[.slice none 0 0, .slice none 0 0]] : List Eng.Kind).getD i .plain) 2 0 10 s0 rfl (by kernel_rfl) (Eng.still_stable _) (Or.inr (Eng.still_any _)) ?_ ?_
  · refine Eng.Steps.cons (fun _ => ?_) (Eng.Steps.cons (fun _ => ?_) (Eng.Steps.nil))
    · refine Eng.made rfl (by simp) rfl (fun a w' hd ho => ?_) (fun _ _ => trivial)
      exact Eng.run_box rfl ((ho 0 (by kernel_rfl)).trans h0_0)
    · refine Eng.made rfl (by simp) rfl (fun a w' hd ho => ?_) (fun _ _ => trivial)
      simp only [execOp]
      go_simp
  intro act1 w1 T
  have h0_1 : act1.eval (.tmp 0) = .agg #[na, nb] := (T.rest 0 (by kernel_rfl)).trans h0_0
  have Fn0_1 := Eng.Reads.below F0 T.below
  have Fn1_1 := Eng.Reads.below F1 T.below
  obtain ⟨g1_1, h1_1, rg1_1, lg1_1_1, kg1_1_1⟩ := T.al 0 1 _ _ rfl rfl rfl (by kernel_rfl)
  have og1_1 : w.heap.size ≤ g1_1 := Nat.le_trans bl0.size rg1_1
  obtain ⟨g2_1, h2_1, rg2_1, lg2_1_1, kg2_1_1⟩ := T.al 1 2 _ _ rfl rfl rfl (by kernel_rfl)
  have og2_1 : w.heap.size ≤ g2_1 := Nat.le_trans bl0.size rg2_1
  have ne_g2_1_g1_1 : g1_1 ≠ g2_1 := T.ne 0 1 1 2 rfl rfl rfl rfl rfl rfl h1_1 h2_1 rfl
  have d1 := T.defers.trans d0
  have s1 := T.size.trans s0
  have bl1 := bl0.trans (T.below.mono bl0.size)
  clear T
  refine Eng.tail_nil ?_
  first | show Code.wp Tryd.prog _ _ _ _ | skip
  refine wp_seq ?_
  refine Eng.regionD (Eng.tell [.still fun u_ => u_ = .pointer (some ⟨g1_1, 0, none⟩), .still fun u_ => u_ = na, .own w1.heap.size 9 1 l0.length (Nfa.strs l0), .still fun u_ => u_ = .pointer (some ⟨g1_1, 1, none⟩), .still fun u_ => u_ = nb, .own w1.heap.size 9 1 l1.length (Nfa.strs l1)]) (fun i => ([.plain, .plain, .plain, .plain, .plain, .plain] : List Eng.Kind).getD i .plain) 6 2 10 (by kernel_rfl) s1 rfl (by kernel_rfl) (Eng.tell_stable _) (Or.inl (Eng.no_stores (by kernel_rfl))) ?_ ?_
  · refine Eng.Steps.cons (fun _ => ?_) (Eng.Steps.cons (fun _ => ?_) (Eng.Steps.cons (fun _ => ?_) (Eng.Steps.cons (fun _ => ?_) (Eng.Steps.cons (fun _ => ?_) (Eng.Steps.cons (fun _ => ?_) (Eng.Steps.cons (fun hlt => ?_) (Eng.Steps.cons (fun hlt => ?_) (Eng.Steps.nil))))))))
    · refine Eng.plain rfl rfl fun a w' H => ?_
      refine Eng.val (w1 := w') (v := .pointer (some ⟨g1_1, 0, none⟩)) ?_ (Below.refl _ _) rfl
      have e0 : a.eval (.tmp 1) = .pointer (some ⟨g1_1, 0, none⟩) := ((H.kept 1 (by kernel_rfl)).trans h1_1)
      simp only [execOp, resolve, List.map_toArray, List.map_cons, List.map_nil, e0]
      go_simp
      all_goals first | rfl | (simp; done) | (rw [Bool.eq_iff_iff]; simp; done) | omega | skip
    · refine Eng.plain rfl rfl fun a w' H => ?_
      have kb := (H.below.block _ lg1_1_1).trans kg1_1_1
      have z0 : w'.cell? ⟨g1_1, 0, none⟩ = some (na) := (Eng.cells kb 0).trans rfl
      refine Eng.val (w1 := w') (v := na) ?_ (Below.refl _ _) rfl
      have e0 : a.eval (.tmp 3) = .pointer (some ⟨g1_1, 0, none⟩) := (H.dep 0 3 (by kernel_rfl) rfl)
      simp only [execOp, resolve, List.map_toArray, List.map_cons, List.map_nil, e0]
      go_simp
      all_goals first | rfl | (simp; done) | (rw [Bool.eq_iff_iff]; simp; done) | omega | skip
    · refine Eng.plain rfl rfl fun a w' H => ?_
      refine Eng.call Tryd.func69 (by kernel_rfl) (by kernel_rfl) rfl #[na] ?_ ?_
      · have e0 : a.eval (.tmp 4) = na := (H.dep 1 4 (by kernel_rfl) rfl); simp only [List.map_toArray, List.map_cons, List.map_nil, e0]
      refine (Lpr.clone_calls na l0 _ (Eng.Reads.below Fn0_1 H.below) (by omega)).mono ?_
      rintro e w'' ⟨v, rfl, O, hb⟩
      exact ⟨_, rfl, Eng.own_mono O H.below.size, hb⟩
    · refine Eng.plain rfl rfl fun a w' H => ?_
      refine Eng.val (w1 := w') (v := .pointer (some ⟨g1_1, 1, none⟩)) ?_ (Below.refl _ _) rfl
      have e0 : a.eval (.tmp 1) = .pointer (some ⟨g1_1, 0, none⟩) := ((H.kept 1 (by kernel_rfl)).trans h1_1)
      simp only [execOp, resolve, List.map_toArray, List.map_cons, List.map_nil, e0]
      go_simp
      all_goals first | rfl | (simp; done) | (rw [Bool.eq_iff_iff]; simp; done) | omega | skip
    · refine Eng.plain rfl rfl fun a w' H => ?_
      have kb := (H.below.block _ lg1_1_1).trans kg1_1_1
      have z0 : w'.cell? ⟨g1_1, 1, none⟩ = some (nb) := (Eng.cells kb 1).trans rfl
      refine Eng.val (w1 := w') (v := nb) ?_ (Below.refl _ _) rfl
      have e0 : a.eval (.tmp 6) = .pointer (some ⟨g1_1, 1, none⟩) := (H.dep 3 6 (by kernel_rfl) rfl)
      simp only [execOp, resolve, List.map_toArray, List.map_cons, List.map_nil, e0]
      go_simp
      all_goals first | rfl | (simp; done) | (rw [Bool.eq_iff_iff]; simp; done) | omega | skip
    · refine Eng.plain rfl rfl fun a w' H => ?_
      refine Eng.call Tryd.func69 (by kernel_rfl) (by kernel_rfl) rfl #[nb] ?_ ?_
      · have e0 : a.eval (.tmp 7) = nb := (H.dep 4 7 (by kernel_rfl) rfl); simp only [List.map_toArray, List.map_cons, List.map_nil, e0]
      refine (Lpr.clone_calls nb l1 _ (Eng.Reads.below Fn1_1 H.below) (by omega)).mono ?_
      rintro e w'' ⟨v, rfl, O, hb⟩
      exact ⟨_, rfl, Eng.own_mono O H.below.size, hb⟩
    · exact absurd hlt (by decide)
    · exact absurd hlt (by decide)
  intro act2 w2 T
  have h0_2 : act2.eval (.tmp 0) = .agg #[na, nb] := (T.rest 0 (by kernel_rfl)).trans h0_1
  have h1_2 : act2.eval (.tmp 1) = .pointer (some ⟨g1_1, 0, none⟩) := (T.rest 1 (by kernel_rfl)).trans h1_1
  have h2_2 : act2.eval (.tmp 2) = .pointer (some ⟨g2_1, 0, none⟩) := (T.rest 2 (by kernel_rfl)).trans h2_1
  have kg1_1_2 := (T.below.block _ lg1_1_1).trans kg1_1_1
  have lg1_1_2 := Nat.lt_of_lt_of_le lg1_1_1 T.below.size
  have kg2_1_2 := (T.below.block _ lg2_1_1).trans kg2_1_1
  have lg2_1_2 := Nat.lt_of_lt_of_le lg2_1_1 T.below.size
  have Fn0_2 := Eng.Reads.below Fn0_1 T.below
  have Fn1_2 := Eng.Reads.below Fn1_1 T.below
  have OO5_2 := T.done 2 5 rfl rfl
  obtain ⟨v5_2, h5_2⟩ : ∃ v, act2.eval (.tmp 5) = v := ⟨_, rfl⟩
  have OO8_2 := T.done 5 8 rfl rfl
  obtain ⟨v8_2, h8_2⟩ : ∃ v, act2.eval (.tmp 8) = v := ⟨_, rfl⟩
  have d2 := T.defers.trans d1
  have s2 := T.size.trans s1
  have bl2 := bl1.trans (T.below.mono bl1.size)
  have OP5_2 : w2.ownsRow w1.heap.size 9 1 v5_2 l0.length (Nfa.strs l0) := by rw [← h5_2]; exact OO5_2
  clear OO5_2
  have FOa5_2 := Eng.Reads.of_own OP5_2
  have OP8_2 : w2.ownsRow w1.heap.size 9 1 v8_2 l1.length (Nfa.strs l1) := by rw [← h8_2]; exact OO8_2
  clear OO8_2
  have FOa8_2 := Eng.Reads.of_own OP8_2
  clear T
  refine Eng.tail_val (w1 := w2) (v := .agg #[v5_2, v8_2]) rfl rfl rfl ?_ s2 rfl ?_
  · have e0 : act2.eval (.tmp 5) = v5_2 := h5_2
    have e1 : act2.eval (.tmp 8) = v8_2 := h8_2
    simp only [execOp, resolve, List.map_toArray, List.map_cons, List.map_nil, e0, e1]
    obtain ⟨A0_, c0_, ev0_⟩ := Eng.Reads.shape FOa5_2
    subst ev0_
    obtain ⟨A1_, c1_, ev1_⟩ := Eng.Reads.shape FOa8_2
    subst ev1_
    go_simp
    all_goals first | rfl | (simp; done) | (rw [Bool.eq_iff_iff]; simp; done) | omega | skip
  intro act3 d3 s3 hv hr
  have h0_3 : act3.eval (.tmp 0) = .agg #[na, nb] := (hr 0 rfl).trans h0_2
  have h1_3 : act3.eval (.tmp 1) = .pointer (some ⟨g1_1, 0, none⟩) := (hr 1 rfl).trans h1_2
  have h2_3 : act3.eval (.tmp 2) = .pointer (some ⟨g2_1, 0, none⟩) := (hr 2 rfl).trans h2_2
  have h5_3 : act3.eval (.tmp 5) = v5_2 := (hr 5 rfl).trans h5_2
  have h8_3 : act3.eval (.tmp 8) = v8_2 := (hr 8 rfl).trans h8_2
  have h9_3 : act3.eval (.tmp 9) = .agg #[v5_2, v8_2] := hv
  have d3 := d3.trans d2
  clear hv hr
  refine Eng.tail_put [v5_2, v8_2] (n := 0) (new := #[v5_2, v8_2]) rfl rfl rfl kg2_1_2 rfl ?_ fun w4 S => ?_
  · have e0 : act3.eval (.tmp 2) = .pointer (some ⟨g2_1, 0, none⟩) := h2_3
    have e1 : act3.eval (.tmp 9) = .agg #[v5_2, v8_2] := h9_3
    obtain ⟨A0_, c0_, ev0_⟩ := Eng.Reads.shape FOa5_2
    subst ev0_
    obtain ⟨A1_, c1_, ev1_⟩ := Eng.Reads.shape FOa8_2
    subst ev1_
    have z0 := (Eng.cells kg2_1_2 (0)).trans (rfl)
    have f0 := Eng.unfrozen kg2_1_2 (0)
    have z1 := (Eng.cells kg2_1_2 (1)).trans (rfl)
    have f1 := Eng.unfrozen kg2_1_2 (1)
    simp only [execOp]
    rw [e0, e1]
    go_simp
    try rfl
  have kg1_1_4 := (S.far _ ne_g2_1_g1_1).trans kg1_1_2
  have lg1_1_4 := Nat.lt_of_lt_of_eq lg1_1_2 S.size.symm
  have kg2_1_4 := S.new
  have lg2_1_4 := Nat.lt_of_lt_of_eq lg2_1_2 S.size.symm
  have bl4 := S.below bl2 og2_1
  have Fn0_4 := Eng.Reads.below F0 bl4
  have Fn1_4 := Eng.Reads.below F1 bl4
  have Oa5_4 := Eng.own_sets (Eng.own_mono OP5_2 bl1.size) S kg2_1_2 rfl
  have Fa5_4 := Eng.Reads.of_own Oa5_4
  have Oa8_4 := Eng.own_sets (Eng.own_mono OP8_2 bl1.size) S kg2_1_2 rfl
  have Fa8_4 := Eng.Reads.of_own Oa8_4
  clear S
  refine Eng.tail_nil ?_
  first | show Code.wp Tryd.prog _ _ _ _ | skip
  refine wp_ret ?_
  repeat (first | refine Eng.in_ret ?_ | refine Eng.then_ret ?_)
  exact Eng.retc rfl d3 h2_3 kg2_1_4 Tryd.underlying47 rfl (by kernel_rfl) ⟨_, _, rfl, Oa5_4, Oa8_4, bl4⟩
end Go.Proofs.YthgafcaoibfchaaDoor.X
end
section
namespace Go.Proofs.YthgafcaoibfchaaDoor.X
open Go.RowKit Go.Shelf Go.Proofs Go.Proofs.YthgafcaoibfchaaDoor.Spl Go.Proofs.YthgafcaoibfchaaDoorW.PrintWords Go.Proofs.YthgafcaoibfchaaDoorW.PrintLast Go.Proofs.YthgafcaoibfchaaDoorW.PrintMore
attribute [local go_sem] max2_int min2_int max_two min_two max_three min_three max_four min_four
set_option linter.unusedVariables false
set_option linter.unusedSimpArgs false
namespace Alv
def lvs : List ByteArray := [⟨#[108, 111, 119]⟩, ⟨#[104, 105, 103, 104]⟩]
def cts : List ByteArray := [⟨#[120]⟩, ⟨#[121]⟩]
def s1 : List UInt8 := [104, 105, 103, 104, 58, 121]
def s2 : List UInt8 := [104, 105, 103, 104, 58, 121, 44, 120]
theorem may : lattice_May.f lvs cts = some true := by decide +kernel
theorem cut1 : cutL s1 = ([104, 105, 103, 104], [121], true) := by rfl
theorem cut2 : cutL s2 = ([104, 105, 103, 104], [121, 44, 120], true) := by rfl
theorem pl : place lvs [104, 105, 103, 104] = 1 := by rfl
theorem c1 : catsOf cts (pieces ([121] : List UInt8).length [121]) 0 = 2 := by rfl
theorem c2 : catsOf cts (pieces ([121, 44, 120] : List UInt8).length [121, 44, 120]) 0 = 3 := by rfl
theorem pr1 : lattice_Print.f 9 lvs cts 1 2 = some ⟨#[104, 105, 103, 104, 58, 121]⟩ := by kernel_rfl
theorem pr2 : lattice_Print.f 9 lvs cts 1 3 = some ⟨#[104, 105, 103, 104, 58, 120, 44, 121]⟩ := by kernel_rfl
theorem j1 : lattice_Join.f 1 1 0 3 = some (1, 3) := by rfl
theorem m1 : lattice_Meet.f 1 1 0 3 = some (0, 1) := by rfl
theorem o1 : lattice_Over.f 1 1 0 3 = some false := by decide +kernel
theorem o2 : lattice_Over.f 1 1 1 1 = some true := by decide +kernel
theorem r1 : lattice_Right.f 1 1 2 1 = some true := by decide +kernel
theorem a1 : lattice_All.f 9 [⟨1, 1⟩, ⟨0, 3⟩] = some (1, 3) := by decide +kernel
theorem row {w : World} {g : Nat} {fr : Nat × Nat} (xs : List ByteArray) (h : w.heap[g]? = some (.cells (xs.map Value.string).toArray 9 fr)) (hl : xs.length ≤ 4096) : Kd.C Kd.string w (some ⟨g, 0, none⟩) xs.length xs := by
  refine Kd.C_of_reads (d := ByteArray.empty) ⟨rfl, by omega, fun _ => ⟨_, rfl, fun j hj => ?_⟩⟩
  have e : (⟨g, 0, none⟩ : Addr).add j = ⟨g, j, none⟩ := by cases j with
    | zero => rfl
    | succ j => simp [Addr.add]
  rw [e, cell_of_row w g j _ 9 fr h]
  simp [List.getElem?_eq_getElem hj, List.getD_eq_getElem?_getD]
  done
theorem t1 : (⟨#[104, 105, 103, 104, 58, 121]⟩ : ByteArray).toList = s1 := by rw [ByteArray.toList_eq]; rfl
theorem t2 : ¬ (⟨#[104, 105, 103, 104, 58, 120, 44, 121]⟩ : ByteArray).toList = s2 := by rw [ByteArray.toList_eq]; decide
theorem parse1 (A0 A1 : Option Addr) (w : World) (h0 : Kd.C Kd.string w A0 2 lvs) (h1 : Kd.C Kd.string w A1 2 cts) :
    Calls Tryd.prog 29 #[.agg #[.slice A0 2 2, .slice A1 2 2], .string ⟨#[104, 105, 103, 104, 58, 121]⟩] w fun e w' => e = .returned (.tuple #[.agg #[.int .i64 1, .int .u64 2], .int .i64 0]) ∧ Below w.heap.size w w' := by
  refine (parse_walk A0 2 lvs A1 2 cts s1 w h0 (by decide) h1 (by decide) (by decide) (by decide) (by decide) may _ _ cut1 (by decide) 9 _ (by rw [pl, c1]; exact pr1)).mono ?_
  rintro e w' ⟨rfl, hb⟩
  refine ⟨?_, hb⟩
  rw [if_pos t1, if_pos t1, if_pos t1, pl, c1]
theorem parse2 (A0 A1 : Option Addr) (w : World) (h0 : Kd.C Kd.string w A0 2 lvs) (h1 : Kd.C Kd.string w A1 2 cts) :
    Calls Tryd.prog 29 #[.agg #[.slice A0 2 2, .slice A1 2 2], .string ⟨#[104, 105, 103, 104, 58, 121, 44, 120]⟩] w fun e w' => e = .returned (.tuple #[.agg #[.int .i64 0, .int .u64 0], .int .i64 17]) ∧ Below w.heap.size w w' := by
  refine (parse_walk A0 2 lvs A1 2 cts s2 w h0 (by decide) h1 (by decide) (by decide) (by decide) (by decide) may _ _ cut2 (by decide) 9 _ (by rw [pl, c2]; exact pr2)).mono ?_
  rintro e w' ⟨rfl, hb⟩
  refine ⟨?_, hb⟩
  rw [if_neg t2, if_neg t2, if_neg t2]
theorem row2 {w : World} {g : Nat} {fr : Nat × Nat} (h : w.heap[g]? = some (.cells #[.int .i64 1, .int .u64 1, .int .i64 0, .int .u64 3] 30 fr)) : Kd.C k30 w (some ⟨g, 0, none⟩) 2 [⟨1, 1⟩, ⟨0, 3⟩] := by
  have e (j : Nat) : (⟨g, 0, none⟩ : Addr).add j = ⟨g, j, none⟩ := by cases j with
    | zero => rfl
    | succ j => simp [Addr.add]
  refine ⟨rfl, by decide, fun _ => ⟨_, rfl, fun j p hj => ?_⟩⟩
  match j, hj with
  | 0, hj =>
    obtain rfl := Option.some.inj hj
    refine ⟨_, rfl, k30_mk w _, fun i u hu => ?_⟩
    rw [e, cell_of_row w g _ _ 30 fr h]
    match i, hu with
    | 0, hu => exact hu
    | 1, hu => exact hu
  | 1, hj =>
    obtain rfl := Option.some.inj hj
    refine ⟨_, rfl, k30_mk w _, fun i u hu => ?_⟩
    rw [e, cell_of_row w g _ _ 30 fr h]
    match i, hu with
    | 0, hu => exact hu
    | 1, hu => exact hu
set_option maxHeartbeats 4000000 in
set_option maxRecDepth 100000 in
theorem calls (w : World) : Calls Tryd.prog 17 #[] w fun e w' => e = .returned (.bool true) ∧ Below w.heap.size w w' := by
  have hfd : ∀ w : World, (Instr.field 30 (.agg #[.int .i64 1, .int .u64 3]) 1).run Tryd.prog w = .ok (.int .u64 3) w := fun _ => by kernel_rfl
  go_enter Tryd.func17, Tryd.ntmps17
  go_wp2_with fail
  obtain ⟨W0, hW0⟩ : ∃ W0, (((w.alloc (.cells #[.string ⟨#[108, 111, 119]⟩, .string ⟨#[104, 105, 103, 104]⟩] 9)).alloc (.cells #[.string ⟨#[120]⟩, .string ⟨#[121]⟩] 9)).alloc (.cells #[.slice (some ⟨w.heap.size, 0, none⟩) 2 2, .slice (some ⟨w.heap.size + 1, 0, none⟩) 2 2] 47)) = W0 := ⟨_, rfl⟩
  have k0 : W0.heap[w.heap.size]? = some (.cells #[.string ⟨#[108, 111, 119]⟩, .string ⟨#[104, 105, 103, 104]⟩] 9 (0, 0)) := by rw [← hW0]; exact blk_alloc (blk_alloc (blk_new w _) _) _
  have k1 : W0.heap[w.heap.size + 1]? = some (.cells #[.string ⟨#[120]⟩, .string ⟨#[121]⟩] 9 (0, 0)) := by
    rw [← hW0]
    have := blk_new (w.alloc (.cells #[.string ⟨#[108, 111, 119]⟩, .string ⟨#[104, 105, 103, 104]⟩] 9)) (.cells #[.string ⟨#[120]⟩, .string ⟨#[121]⟩] 9)
    rw [World.size_alloc] at this
    exact blk_alloc this _
  have k2 : W0.heap[w.heap.size + 1 + 1]? = some (.cells #[.slice (some ⟨w.heap.size, 0, none⟩) 2 2, .slice (some ⟨w.heap.size + 1, 0, none⟩) 2 2] 47 (0, 0)) := by
    rw [← hW0]
    have := blk_new ((w.alloc (.cells #[.string ⟨#[108, 111, 119]⟩, .string ⟨#[104, 105, 103, 104]⟩] 9)).alloc (.cells #[.string ⟨#[120]⟩, .string ⟨#[121]⟩] 9)) (.cells #[.slice (some ⟨w.heap.size, 0, none⟩) 2 2, .slice (some ⟨w.heap.size + 1, 0, none⟩) 2 2] 47)
    rw [World.size_alloc, World.size_alloc] at this
    exact this
  have b0 : Below w.heap.size w W0 := by rw [← hW0]; exact below_alloc (below_alloc (below_alloc (Below.refl _ _) _) _) _
  rw [hW0]
  clear hW0
  refine (parse1 _ _ W0 (row lvs k0 (by decide)) (row cts k1 (by decide))).mono ?_
  rintro e W1 ⟨rfl, hb1⟩
  replace k0 := blk_below k0 hb1
  replace k1 := blk_below k1 hb1
  replace k2 := blk_below k2 hb1
  replace b0 := below_step b0 hb1
  clear hb1
  have z0 : W1.cell? ⟨w.heap.size + 1 + 1, 0, none⟩ = some (.slice (some ⟨w.heap.size, 0, none⟩) 2 2) := (blk_cell k2 0).trans rfl
  have z1 : W1.cell? ⟨w.heap.size + 1 + 1, 1, none⟩ = some (.slice (some ⟨w.heap.size + 1, 0, none⟩) 2 2) := (blk_cell k2 1).trans rfl
  have y0 : (W1.alloc (.cells #[.int .i64 1, .int .u64 2] 30)).cell? ⟨w.heap.size + 1 + 1, 0, none⟩ = some (.slice (some ⟨w.heap.size, 0, none⟩) 2 2) := (blk_cell (blk_alloc k2 _) 0).trans rfl
  have y1 : (W1.alloc (.cells #[.int .i64 1, .int .u64 2] 30)).cell? ⟨w.heap.size + 1 + 1, 1, none⟩ = some (.slice (some ⟨w.heap.size + 1, 0, none⟩) 2 2) := (blk_cell (blk_alloc k2 _) 1).trans rfl
  go_wp2_with fail
  refine (parse2 _ _ _ (row lvs (blk_alloc k0 _) (by decide)) (row cts (blk_alloc k1 _) (by decide))).mono ?_
  rintro e W2 ⟨rfl, hb2⟩
  have k3 := blk_below (blk_new W1 (.cells #[.int .i64 1, .int .u64 2] 30)) hb2
  replace k0 := blk_below (blk_alloc k0 (.cells #[.int .i64 1, .int .u64 2] 30)) hb2
  replace k1 := blk_below (blk_alloc k1 (.cells #[.int .i64 1, .int .u64 2] 30)) hb2
  replace k2 := blk_below (blk_alloc k2 (.cells #[.int .i64 1, .int .u64 2] 30)) hb2
  replace b0 := below_step (below_alloc b0 (.cells #[.int .i64 1, .int .u64 2] 30)) hb2
  have bs := b0.1
  clear hb2 z0 z1 y0 y1
  generalize W1.heap.size = g3 at *
  have z0 : (((W2.alloc (.cells #[.int .i64 0, .int .u64 0] 30)).alloc (.cells #[.int .i64 1, .int .u64 1] 30)).alloc (.cells #[.int .i64 0, .int .u64 3] 30)).cell? ⟨w.heap.size + 1 + 1, 0, none⟩ = some (.slice (some ⟨w.heap.size, 0, none⟩) 2 2) := (blk_cell (blk_alloc (blk_alloc (blk_alloc k2 _) _) _) 0).trans rfl
  have z1 : (((W2.alloc (.cells #[.int .i64 0, .int .u64 0] 30)).alloc (.cells #[.int .i64 1, .int .u64 1] 30)).alloc (.cells #[.int .i64 0, .int .u64 3] 30)).cell? ⟨w.heap.size + 1 + 1, 1, none⟩ = some (.slice (some ⟨w.heap.size + 1, 0, none⟩) 2 2) := (blk_cell (blk_alloc (blk_alloc (blk_alloc k2 _) _) _) 1).trans rfl
  have z2 : (((W2.alloc (.cells #[.int .i64 0, .int .u64 0] 30)).alloc (.cells #[.int .i64 1, .int .u64 1] 30)).alloc (.cells #[.int .i64 0, .int .u64 3] 30)).cell? ⟨g3, 0, none⟩ = some (.int .i64 1) := (blk_cell (blk_alloc (blk_alloc (blk_alloc k3 _) _) _) 0).trans rfl
  have z3 : (((W2.alloc (.cells #[.int .i64 0, .int .u64 0] 30)).alloc (.cells #[.int .i64 1, .int .u64 1] 30)).alloc (.cells #[.int .i64 0, .int .u64 3] 30)).cell? ⟨g3, 1, none⟩ = some (.int .u64 2) := (blk_cell (blk_alloc (blk_alloc (blk_alloc k3 _) _) _) 1).trans rfl
  go_wp2_with fail
  clear z0 z1 z2 z3
  refine (lattice_Print.calls 9 _ _ lvs _ _ cts 1 2 _ _ (row lvs (blk_alloc (blk_alloc (blk_alloc k0 _) _) _) (by decide)) (by decide) (row cts (blk_alloc (blk_alloc (blk_alloc k1 _) _) _) (by decide)) (by decide) pr1).mono ?_
  rintro e W3 ⟨rfl, hb3⟩
  have k6 : W3.heap[W2.heap.size + 1]? = some (.cells #[.int .i64 1, .int .u64 1] 30 (0, 0)) := by
    have := blk_new (W2.alloc (.cells #[.int .i64 0, .int .u64 0] 30)) (.cells #[.int .i64 1, .int .u64 1] 30)
    rw [World.size_alloc] at this
    exact blk_below (blk_alloc this _) hb3
  have k7 : W3.heap[W2.heap.size + 1 + 1]? = some (.cells #[.int .i64 0, .int .u64 3] 30 (0, 0)) := by
    have := blk_new ((W2.alloc (.cells #[.int .i64 0, .int .u64 0] 30)).alloc (.cells #[.int .i64 1, .int .u64 1] 30)) (.cells #[.int .i64 0, .int .u64 3] 30)
    rw [World.size_alloc, World.size_alloc] at this
    exact blk_below this hb3
  replace b0 := below_step (below_alloc (below_alloc (below_alloc b0 (.cells #[.int .i64 0, .int .u64 0] 30)) (.cells #[.int .i64 1, .int .u64 1] 30)) (.cells #[.int .i64 0, .int .u64 3] 30)) hb3
  clear hb3 k0 k1 k2 k3
  generalize W2.heap.size + 1 + 1 = g7 at *
  generalize W2.heap.size + 1 = g6 at *
  have z0 : (W3).cell? ⟨g6, 0, none⟩ = some (.int .i64 1) := (blk_cell k6 0).trans rfl
  have z1 : (W3).cell? ⟨g6, 1, none⟩ = some (.int .u64 1) := (blk_cell k6 1).trans rfl
  have z2 : (W3).cell? ⟨g7, 0, none⟩ = some (.int .i64 0) := (blk_cell k7 0).trans rfl
  have z3 : (W3).cell? ⟨g7, 1, none⟩ = some (.int .u64 3) := (blk_cell k7 1).trans rfl
  go_wp2_with fail
  refine (lattice_Join.calls 1 1 0 3 _ _ _ j1).mono ?_
  rintro e W4 ⟨rfl, hb⟩
  replace k6 := blk_below k6 hb
  replace k7 := blk_below k7 hb
  replace b0 := below_step b0 hb
  clear hb z0 z1 z2 z3
  have z0 : (W4).cell? ⟨g6, 0, none⟩ = some (.int .i64 1) := (blk_cell k6 0).trans rfl
  have z1 : (W4).cell? ⟨g6, 1, none⟩ = some (.int .u64 1) := (blk_cell k6 1).trans rfl
  have z2 : (W4).cell? ⟨g7, 0, none⟩ = some (.int .i64 0) := (blk_cell k7 0).trans rfl
  have z3 : (W4).cell? ⟨g7, 1, none⟩ = some (.int .u64 3) := (blk_cell k7 1).trans rfl
  go_wp2_with fail
  refine (lattice_Meet.calls 1 1 0 3 _ _ _ m1).mono ?_
  rintro e W5 ⟨rfl, hb⟩
  replace k6 := blk_below k6 hb
  replace k7 := blk_below k7 hb
  replace b0 := below_step b0 hb
  clear hb z0 z1 z2 z3
  have z0 : (W5).cell? ⟨g6, 0, none⟩ = some (.int .i64 1) := (blk_cell k6 0).trans rfl
  have z1 : (W5).cell? ⟨g6, 1, none⟩ = some (.int .u64 1) := (blk_cell k6 1).trans rfl
  have z2 : (W5).cell? ⟨g7, 0, none⟩ = some (.int .i64 0) := (blk_cell k7 0).trans rfl
  have z3 : (W5).cell? ⟨g7, 1, none⟩ = some (.int .u64 3) := (blk_cell k7 1).trans rfl
  go_wp2_with fail
  refine (lattice_Over.calls 1 1 0 3 _ _ o1).mono ?_
  rintro e W6 ⟨rfl, hb⟩
  replace k6 := blk_below k6 hb
  replace k7 := blk_below k7 hb
  replace b0 := below_step b0 hb
  clear hb z0 z1 z2 z3
  have z0 : (W6).cell? ⟨g6, 0, none⟩ = some (.int .i64 1) := (blk_cell k6 0).trans rfl
  have z1 : (W6).cell? ⟨g6, 1, none⟩ = some (.int .u64 1) := (blk_cell k6 1).trans rfl
  have z2 : (W6).cell? ⟨g7, 0, none⟩ = some (.int .i64 0) := (blk_cell k7 0).trans rfl
  have z3 : (W6).cell? ⟨g7, 1, none⟩ = some (.int .u64 3) := (blk_cell k7 1).trans rfl
  go_wp2_with fail
  refine (lattice_Over.calls 1 1 1 1 _ _ o2).mono ?_
  rintro e W7 ⟨rfl, hb⟩
  replace k6 := blk_below k6 hb
  replace k7 := blk_below k7 hb
  replace b0 := below_step b0 hb
  clear hb z0 z1 z2 z3
  have z0 : (W7).cell? ⟨g6, 0, none⟩ = some (.int .i64 1) := (blk_cell k6 0).trans rfl
  have z1 : (W7).cell? ⟨g6, 1, none⟩ = some (.int .u64 1) := (blk_cell k6 1).trans rfl
  have z2 : (W7).cell? ⟨g7, 0, none⟩ = some (.int .i64 0) := (blk_cell k7 0).trans rfl
  have z3 : (W7).cell? ⟨g7, 1, none⟩ = some (.int .u64 3) := (blk_cell k7 1).trans rfl
  go_wp2_with fail
  refine (lattice_Right.calls 1 1 2 1 _ _ r1).mono ?_
  rintro e W8 ⟨rfl, hb⟩
  replace k6 := blk_below k6 hb
  replace k7 := blk_below k7 hb
  replace b0 := below_step b0 hb
  clear hb z0 z1 z2 z3
  have z0 : (W8).cell? ⟨g6, 0, none⟩ = some (.int .i64 1) := (blk_cell k6 0).trans rfl
  have z1 : (W8).cell? ⟨g6, 1, none⟩ = some (.int .u64 1) := (blk_cell k6 1).trans rfl
  have z2 : (W8).cell? ⟨g7, 0, none⟩ = some (.int .i64 0) := (blk_cell k7 0).trans rfl
  have z3 : (W8).cell? ⟨g7, 1, none⟩ = some (.int .u64 3) := (blk_cell k7 1).trans rfl
  go_wp2_with fail
  refine (lattice_All.calls 9 _ _ [⟨1, 1⟩, ⟨0, 3⟩] _ _ _ (row2 (blk_new W8 _)) (by decide) a1).mono ?_
  rintro e W9 ⟨rfl, hb⟩
  replace b0 := below_step (below_alloc b0 (.cells #[.int .i64 1, .int .u64 1, .int .i64 0, .int .u64 3] 30)) hb
  go_wp2_with fail
  go_ret
  exact ⟨rfl, b0⟩
end Alv
end Go.Proofs.YthgafcaoibfchaaDoor.X
end
section
namespace Go.Proofs.YthgafcaoibfchaaDoor.X
open Go.RowKit Go.Shelf Go.Proofs Go.Proofs.YthgafcaoibfchaaDoorW.PrintWords Go.Proofs.YthgafcaoibfchaaDoorW.PrintLast Go.Proofs.YthgafcaoibfchaaDoorW.PrintMore
set_option linter.unusedVariables false
set_option linter.unusedSimpArgs false
namespace Lat
def bv (x : Int) : BitVec 64 := BitVec.ofInt 64 x
theorem wrap_nat (A : BitVec 64) : IntKind.u64.wrap (A.toNat : Int) = (A.toNat : Int) := by
  have h := A.isLt
  simp only [IntKind.wrap, IntKind.bits, IntKind.signed, Bool.false_and, Bool.false_eq_true, if_false]
  omega
theorem bits_or (x y : Int) : Go.bits .or .u64 x y = ((bv x ||| bv y).toNat : Int) := wrap_nat _
theorem bits_and (x y : Int) : Go.bits .and .u64 x y = ((bv x &&& bv y).toNat : Int) := wrap_nat _
theorem bv_toNat {x : Int} (h0 : 0 ≤ x) (h1 : x ≤ 18446744073709551615) : ((bv x).toNat : Int) = x := by
  unfold bv
  rw [BitVec.toNat_ofInt]
  omega
theorem ext {x y : Int} (hx0 : 0 ≤ x) (hx1 : x ≤ 18446744073709551615) (hy0 : 0 ≤ y) (hy1 : y ≤ 18446744073709551615) (h : ∀ i : Nat, (bv x).getLsbD i = (bv y).getLsbD i) : x = y := by
  rw [← bv_toNat hx0 hx1, ← bv_toNat hy0 hy1, BitVec.eq_of_getLsbD_eq (fun i _ => h i)]
def ov (a0 a1 b0 b1 : Int) : Bool := decide (b0 ≤ a0) && (Go.bits .andNot .u64 b1 a1 == 0)
theorem over (a0 a1 b0 b1 : Int) : lattice_Over.f a0 a1 b0 b1 = some (ov a0 a1 b0 b1) := by
  unfold lattice_Over.f ov
  split
  · rename_i h; simp only [ge_iff_le] at h; simp [h]
  · rename_i h; simp only [ge_iff_le] at h; simp [h]
theorem join (a0 a1 b0 b1 : Int) : lattice_Join.f a0 a1 b0 b1 = some (mx a0 b0, Go.bits .or .u64 a1 b1) := rfl
end Lat
end Go.Proofs.YthgafcaoibfchaaDoor.X
end
section
namespace Go.Proofs.YthgafcaoibfchaaDoor.Y
open Go.RowKit Go.Proofs.YthgafcaoibfchaaDoorW.PrintWords Go.Proofs.YthgafcaoibfchaaDoorW.PrintLast Go.Proofs.YthgafcaoibfchaaDoorW.PrintMore
attribute [local go_sem] max2_int min2_int max_two min_two max_three min_three max_four min_four
set_option linter.unusedVariables false
set_option linter.unusedSimpArgs false
def errW : Option Int → Value
  | none => .nilIface
  | some c => .iface 0 (.int .i64 c)
theorem errW_none : errW none = .nilIface := rfl
theorem errW_some (c : Int) : errW (some c) = .iface 0 (.int .i64 c) := rfl
theorem xbne_nil (l : List UInt8) : (l != []) = !l.isEmpty := by cases l <;> rfl
theorem xbeq_nil (l : List UInt8) : (l == []) = l.isEmpty := by cases l <;> rfl
end Go.Proofs.YthgafcaoibfchaaDoor.Y
end
