/- Words and walks that the row of NfaRuns needs: printed by programs, and plain laws. -/
import Derived.Test.YthgafcaoibfchaaDoorM3
import Derived.Test.YthgafcaoibfchaaDoorM0
import Derived.Test.YthgafcaoibfchaaDoorM2
namespace Go.Proofs.YthgafcaoibfchaaDoorW.PrintWords
end Go.Proofs.YthgafcaoibfchaaDoorW.PrintWords
namespace Go.Proofs.YthgafcaoibfchaaDoorW.PrintLast
end Go.Proofs.YthgafcaoibfchaaDoorW.PrintLast
namespace Go.Proofs.YthgafcaoibfchaaDoorW.PrintMore
end Go.Proofs.YthgafcaoibfchaaDoorW.PrintMore
section
namespace Go.Proofs.YthgafcaoibfchaaDoor.X
open Go.RowKit Go.Shelf Go.Proofs Go.Proofs.YthgafcaoibfchaaDoorW.PrintWords Go.Proofs.YthgafcaoibfchaaDoorW.PrintLast Go.Proofs.YthgafcaoibfchaaDoorW.PrintMore
set_option linter.unusedVariables false
set_option linter.unusedSimpArgs false
set_option maxHeartbeats 4000000 in
set_option maxRecDepth 100000 in
theorem Pth.getD_mem {l : List Pth.Part} {k : Nat} (h : k < l.length) : l.getD k default ∈ l := by
 rw [List.getD_eq_getElem?_getD, List.getElem?_eq_getElem h]; exact List.getElem_mem h
set_option maxHeartbeats 4000000 in
set_option maxRecDepth 100000 in
theorem Pth.index_calls (v : Value) (l : List Pth.Part) (w : World) (hF : Eng.Reads w v l.length 2 (Pth.cellsP l)) (hl : l.length ≤ 4611686018427387904) (hs : ∀ p ∈ l, p.2.size ≤ 9223372036854775807) (hT : Tabs.Holds w) : Calls Tryd.prog 131 #[v, .func (.func 110) #[] #[]] w fun e w' => e = .returned (.int .i64 (Pth.firstBad l 0)) ∧ Below w.heap.size w w' := by
 have hu115 := Tryd.underlying115
 refine Eng.enter Tryd.func131 rfl fun act0 d0 s0 v0 => ?_
 have s0 : act0.tmps.size = 19 := s0
 have h0_0 : act0.eval (.tmp 0) = v := v0 0 (by simp)
 have h1_0 : act0.eval (.tmp 1) = .func (.func 110) #[] #[] := v0 1 (by simp)
 clear v0
 have bl0 : Below w.heap.size w w := Below.refl _ _
 refine wp_seq ?_
 refine Eng.regionS (Eng.still [fun u_ => u_ = .int .i64 0]) (fun _ => .plain) 1 0 19 s0 rfl (by kernel_rfl) (Eng.still_stable _) (Or.inr (Eng.still_any _)) ?_ ?_
 ·refine Eng.Steps.cons (fun _ => ?_) (Eng.Steps.nil)
  ·refine Eng.plain rfl rfl fun a w' H => ?_
   exact Eng.val (w1 := w') (v := .int .i64 0) (Eng.run_assign rfl (rfl : a.eval (.const (.int .i64 0)) = .int .i64 0)) (Below.refl _ _) rfl
 intro act1 w1 T
 have h0_1 := (T.rest 0 (by kernel_rfl)).trans h0_0
 have h1_1 := (T.rest 1 (by kernel_rfl)).trans h1_0
 have Fp_1 := Eng.Reads.below hF T.below
 have d1 := T.defers.trans d0
 have s1 := T.size.trans s0
 have bl1 := bl0.trans (T.below.mono bl0.size)
 clear T
 refine Eng.tail_nil ?_
 show Code.wp Tryd.prog _ _ _ _
 refine wp_seq ?_
 refine wp_seq ?_
 refine Eng.regionS (Eng.still [fun u_ => u_ = v, fun u_ => u_ = .int .i64 ((l.length : Nat) : Int), fun u_ => u_ = .int .i64 0]) (fun _ => .plain) 3 0 19 s1 rfl (by kernel_rfl) (Eng.still_stable _) (Or.inr (Eng.still_any _)) ?_ ?_
 ·refine Eng.Steps.cons (fun _ => ?_) (Eng.Steps.cons (fun _ => ?_) (Eng.Steps.cons (fun _ => ?_) (Eng.Steps.nil)))
  ·refine Eng.plain rfl rfl fun a w' H => ?_
   exact Eng.val (w1 := w') (v := v) (Eng.run_move rfl ((H.kept 0 (by kernel_rfl)).trans h0_1)) (Below.refl _ _) rfl
  ·refine Eng.plain rfl rfl fun a w' H => ?_
   refine Eng.val (w1 := w') (v := .int .i64 ((l.length : Nat) : Int)) ?_ (Below.refl _ _) rfl
   exact Eng.run_len_sl rfl Tryd.underlying82 (show a.eval (.tmp 6) = v from (H.dep 0 6 (by kernel_rfl) rfl)) (Eng.Reads.below Fp_1 H.below)
  ·refine Eng.plain rfl rfl fun a w' H => ?_
   exact Eng.val (w1 := w') (v := .int .i64 0) (Eng.run_move rfl (rfl : a.eval (.const (.int .i64 0)) = .int .i64 0)) (Below.refl _ _) rfl
 intro act2 w2 T
 have h0_2 := (T.rest 0 (by kernel_rfl)).trans h0_1
 have h1_2 := (T.rest 1 (by kernel_rfl)).trans h1_1
 have h7_2 : act2.eval (.tmp 7) = .int .i64 ((l.length : Nat) : Int) := T.done 1 7 rfl rfl
 have h8_2 : act2.eval (.tmp 8) = .int .i64 0 := T.done 2 8 rfl rfl
 have d2 := T.defers.trans d1
 have s2 := T.size.trans s1
 have bl2 := bl1.trans (T.below.mono bl1.size)
 clear T
 refine Eng.tail_nil ?_
 show Code.wp Tryd.prog _ _ _ _
 refine wp_block ?_
 refine Eng.loopN (fun n a w' => ∃ (k : Nat), l.length - k = n ∧ k ≤ l.length ∧ Pth.firstBad l 0 = Pth.firstBad (l.drop k) (k : Nat) ∧ a.defers = [] ∧ a.tmps.size = 19 ∧ Below w.heap.size w w' ∧ a.eval (.tmp 0) = v ∧ a.eval (.tmp 1) = .func (.func 110) #[] #[] ∧ a.eval (.tmp 7) = .int .i64 ((l.length : Nat) : Int) ∧ a.eval (.tmp 8) = .int .i64 (k : Nat)) (n0 := l.length - 0) ?_ ?_
 ·exact ⟨0, rfl, by omega, by rw [List.drop_zero]; rfl, d2, s2, bl2, h0_2, h1_2, h7_2, (h8_2.trans (by first | rfl | (congr 1; rw [Eng.i64_id (by omega) (by omega)]; omega) | (simp; done)))⟩
 rintro n act3 w3 ⟨k, rfl, hc0_3, hc1_3, d3, s3, bl3, h0_3, h1_3, h7_3, h8_3⟩
 have Fp_3 := Eng.Reads.below hF bl3
 have hk1 := hc0_3
 have hb1 := hc1_3
 refine wp_seq ?_
 obtain ⟨q9, Bq9⟩ : ∃ b : Bool, b = (decide ((k : Nat) < ((l.length : Nat) : Int))) := ⟨_, rfl⟩
 refine Eng.regionS (Eng.still [fun u_ => u_ = .bool q9]) (fun _ => .plain) 1 0 19 s3 rfl (by kernel_rfl) (Eng.still_stable _) (Or.inr (Eng.still_any _)) ?_ ?_
 ·refine Eng.Steps.cons (fun _ => ?_) (Eng.Steps.nil)
  ·refine Eng.plain rfl rfl fun a w' H => ?_
   refine Eng.val (w1 := w') (v := .bool (decide ((k : Nat) < ((l.length : Nat) : Int)))) ?_ (Below.refl _ _) (by show _ = Value.bool q9; rw [Bq9])
   have e0 := ((H.kept 8 (by kernel_rfl)).trans h8_3)
   have e1 := ((H.kept 7 (by kernel_rfl)).trans h7_3)
   simp only [execOp, resolve, e0, e1]
   go_simp
 intro act4 w4 T
 have h0_4 := (T.rest 0 (by kernel_rfl)).trans h0_3
 have h1_4 := (T.rest 1 (by kernel_rfl)).trans h1_3
 have h7_4 := (T.rest 7 (by kernel_rfl)).trans h7_3
 have h8_4 := (T.rest 8 (by kernel_rfl)).trans h8_3
 have Fp_4 := Eng.Reads.below Fp_3 T.below
 have h9_4 : act4.eval (.tmp 9) = .bool q9 := T.done 0 9 rfl rfl
 have d4 := T.defers.trans d3
 have s4 := T.size.trans s3
 have bl4 := bl3.trans (T.below.mono bl3.size)
 clear T
 refine Eng.tail_nil ?_
 show Code.wp Tryd.prog _ _ _ _
 refine wp_seq ?_
 refine wp_cond_split h9_4 (fun hq => ?_) (fun hq => ?_)
 ·
  have c9 := Bq9.symm.trans hq
  clear hq
  have c9 := of_decide_eq_true c9
  have hk0 : k < l.length := by omega
  refine wp_skip ?_
  show Code.wp Tryd.prog _ _ _ _
  refine wp_seq ?_
  refine wp_block ?_
  refine wp_seq ?_
  refine Eng.regionS (Eng.still [fun u_ => u_ = .int .i64 (k : Nat), fun u_ => u_ = .int .i64 (k : Nat)]) (fun _ => .plain) 2 0 19 s4 rfl (by kernel_rfl) (Eng.still_stable _) (Or.inr (Eng.still_any _)) ?_ ?_
  ·refine Eng.Steps.cons (fun _ => ?_) (Eng.Steps.cons (fun _ => ?_) (Eng.Steps.nil))
   ·refine Eng.plain rfl rfl fun a w' H => ?_
    exact Eng.val (w1 := w') (v := .int .i64 (k : Nat)) (Eng.run_move rfl ((H.kept 8 (by kernel_rfl)).trans h8_4)) (Below.refl _ _) rfl
   ·refine Eng.plain rfl rfl fun a w' H => ?_
    exact Eng.val (w1 := w') (v := .int .i64 (k : Nat)) (Eng.run_assign rfl (H.dep 0 10 (by kernel_rfl) rfl)) (Below.refl _ _) rfl
  intro act6 w6 T
  have h0_6 := (T.rest 0 (by kernel_rfl)).trans h0_4
  have h1_6 := (T.rest 1 (by kernel_rfl)).trans h1_4
  have h7_6 := (T.rest 7 (by kernel_rfl)).trans h7_4
  have h8_6 := (T.rest 8 (by kernel_rfl)).trans h8_4
  have Fp_6 := Eng.Reads.below Fp_4 T.below
  have h5_6 : act6.eval (.tmp 5) = .int .i64 (k : Nat) := T.done 1 5 rfl rfl
  have d6 := T.defers.trans d4
  have s6 := T.size.trans s4
  have bl6 := bl4.trans (T.below.mono bl4.size)
  clear T
  refine Eng.tail_nil ?_
  show Code.wp Tryd.prog _ _ _ _
  refine wp_seq ?_
  obtain ⟨q16, Bq16⟩ : ∃ b : Bool, b = (!Pth.right1 ((l.getD k default).1) ((l.getD k default).2)) := ⟨_, rfl⟩
  refine Eng.regionS (Eng.still [fun u_ => u_ = .func (.func 110) #[] #[], fun u_ => u_ = v, fun u_ => u_ = .int .i64 (k : Nat), fun u_ => u_ = Eng.elemPtr v (k * 2), fun u_ => u_ = .agg #[.int .i64 ((l.getD k default).1), .string ((l.getD k default).2)], fun u_ => u_ = .bool q16]) (fun _ => .plain) 6 0 19 s6 rfl (by kernel_rfl) (Eng.still_stable _) (Or.inr (Eng.still_any _)) ?_ ?_
  ·refine Eng.Steps.cons (fun _ => ?_) (Eng.Steps.cons (fun _ => ?_) (Eng.Steps.cons (fun _ => ?_) (Eng.Steps.cons (fun _ => ?_) (Eng.Steps.cons (fun _ => ?_) (Eng.Steps.cons (fun _ => ?_) (Eng.Steps.nil))))))
   ·refine Eng.plain rfl rfl fun a w' H => ?_
    exact Eng.val (w1 := w') (v := .func (.func 110) #[] #[]) (Eng.run_move rfl ((H.kept 1 (by kernel_rfl)).trans h1_6)) (Below.refl _ _) rfl
   ·refine Eng.plain rfl rfl fun a w' H => ?_
    exact Eng.val (w1 := w') (v := v) (Eng.run_move rfl ((H.kept 0 (by kernel_rfl)).trans h0_6)) (Below.refl _ _) rfl
   ·refine Eng.plain rfl rfl fun a w' H => ?_
    exact Eng.val (w1 := w') (v := .int .i64 (k : Nat)) (Eng.run_move rfl ((H.kept 5 (by kernel_rfl)).trans h5_6)) (Below.refl _ _) rfl
   ·refine Eng.plain rfl rfl fun a w' H => ?_
    refine Eng.val (w1 := w') (v := Eng.elemPtr v (k * 2)) ?_ (Below.refl _ _) rfl
    exact Eng.run_index_sl rfl Tryd.underlying82 (by kernel_rfl) (show a.eval (.tmp 12) = v from (H.dep 1 12 (by kernel_rfl) rfl)) ((show a.eval (.tmp 13) = .int .i64 (k : Nat) from (H.dep 2 13 (by kernel_rfl) rfl)).trans (congrArg (Value.int _) (show (k : Nat) = ((k : Nat) : Int) from by omega))) (Eng.Reads.below Fp_6 H.below) (by omega) rfl
   ·refine Eng.plain rfl rfl fun a w' H => ?_
    refine Eng.val (w1 := w') (v := .agg #[.int .i64 ((l.getD k default).1), .string ((l.getD k default).2)]) ?_ (Below.refl _ _) rfl
    exact Eng.run_load_els [.int .i64 ((l.getD k default).1), .string ((l.getD k default).2)] rfl (show a.eval (.tmp 14) = Eng.elemPtr v (k * 2) from (H.dep 3 14 (by kernel_rfl) rfl)) (Eng.Reads.below Fp_6 H.below) (Pth.cells_at l k (by omega)) rfl Tryd.underlying115 rfl (by kernel_rfl)
   ·refine Eng.plain rfl rfl fun a w' H => ?_
    refine Eng.callv Tryd.func110 (by kernel_rfl) (by kernel_rfl) rfl (H.dep 0 11 (by kernel_rfl) rfl) #[.agg #[.int .i64 ((l.getD k default).1), .string ((l.getD k default).2)]] ?_ ?_
    ·have e0 : a.eval (.tmp 15) = .agg #[.int .i64 ((l.getD k default).1), .string ((l.getD k default).2)] := (H.dep 4 15 (by kernel_rfl) rfl); simp only [List.map_toArray, List.map_cons, List.map_nil, e0]
    refine (Pth.clo_calls ((l.getD k default).1) ((l.getD k default).2) _ (hs _ (Pth.getD_mem hk0)) (Tabs.below (Tabs.below hT bl6) H.below)).mono ?_
    rintro e w'' ⟨rfl, hb⟩
    exact ⟨_, rfl, (by show _ = Value.bool q16; rw [Bq16]), hb⟩
  intro act7 w7 T
  have h0_7 := (T.rest 0 (by kernel_rfl)).trans h0_6
  have h1_7 := (T.rest 1 (by kernel_rfl)).trans h1_6
  have h5_7 := (T.rest 5 (by kernel_rfl)).trans h5_6
  have h7_7 := (T.rest 7 (by kernel_rfl)).trans h7_6
  have h8_7 := (T.rest 8 (by kernel_rfl)).trans h8_6
  have h16_7 : act7.eval (.tmp 16) = .bool q16 := T.done 5 16 rfl rfl
  have d7 := T.defers.trans d6
  have s7 := T.size.trans s6
  have bl7 := bl6.trans (T.below.mono bl6.size)
  clear T
  refine Eng.tail_nil ?_
  show Code.wp Tryd.prog _ _ _ _
  refine wp_cond_split h16_7 (fun hq => ?_) (fun hq => ?_)
  ·
   have c16 := Bq16.symm.trans hq
   clear hq
   refine wp_seq ?_
   refine Eng.regionS (Eng.still [fun u_ => u_ = .int .i64 (k : Nat), fun u_ => u_ = .int .i64 (k : Nat)]) (fun _ => .plain) 2 0 19 s7 rfl (by kernel_rfl) (Eng.still_stable _) (Or.inr (Eng.still_any _)) ?_ ?_
   ·refine Eng.Steps.cons (fun _ => ?_) (Eng.Steps.cons (fun _ => ?_) (Eng.Steps.nil))
    ·refine Eng.plain rfl rfl fun a w' H => ?_
     exact Eng.val (w1 := w') (v := .int .i64 (k : Nat)) (Eng.run_move rfl ((H.kept 5 (by kernel_rfl)).trans h5_7)) (Below.refl _ _) rfl
    ·refine Eng.plain rfl rfl fun a w' H => ?_
     exact Eng.val (w1 := w') (v := .int .i64 (k : Nat)) (Eng.run_assign rfl (H.dep 0 17 (by kernel_rfl) rfl)) (Below.refl _ _) rfl
   intro act9 w9 T
   have h4_9 : act9.eval (.tmp 4) = .int .i64 (k : Nat) := T.done 1 4 rfl rfl
   have d9 := T.defers.trans d7
   have bl9 := bl7.trans (T.below.mono bl7.size)
   clear T
   refine Eng.tail_nil ?_
   show Code.wp Tryd.prog _ _ _ _
   refine wp_ret ?_
   repeat (first | refine Eng.in_ret ?_ | refine Eng.then_ret ?_)
   exact Eng.ret1 rfl d9 h4_9 ⟨by rw [hb1]; first | (rw [Pth.firstBad_drop hk0, if_pos c16]; done) | (rw [List.drop_eq_nil_of_le (by omega)]; rfl), bl9⟩
  ·
   have c16 := Bq16.symm.trans hq
   clear hq
   refine wp_skip ?_
   show Code.wp Tryd.prog _ _ _ _
   refine Eng.regionS (Eng.still [fun u_ => u_ = .int .i64 (IntKind.i64.wrap ((k : Nat) + 1)), fun u_ => u_ = .int .i64 (IntKind.i64.wrap ((k : Nat) + 1))]) (fun _ => .plain) 2 0 19 s7 rfl (by kernel_rfl) (Eng.still_stable _) (Or.inr (Eng.still_any _)) ?_ ?_
   ·refine Eng.Steps.cons (fun _ => ?_) (Eng.Steps.cons (fun _ => ?_) (Eng.Steps.nil))
    ·refine Eng.plain rfl rfl fun a w' H => ?_
     refine Eng.val (w1 := w') (v := .int .i64 (IntKind.i64.wrap ((k : Nat) + 1))) ?_ (Below.refl _ _) rfl
     have e0 := ((H.kept 8 (by kernel_rfl)).trans h8_7)
     have e1 : a.eval (.const (.int .i64 1)) = .int .i64 1 := (rfl : a.eval (.const (.int .i64 1)) = .int .i64 1)
     simp only [execOp, resolve, e0, e1]
     go_simp
    ·refine Eng.plain rfl rfl fun a w' H => ?_
     exact Eng.val (w1 := w') (v := .int .i64 (IntKind.i64.wrap ((k : Nat) + 1))) (Eng.run_move rfl (H.dep 0 18 (by kernel_rfl) rfl)) (Below.refl _ _) rfl
   intro act11 w11 T
   have h0_11 := (T.rest 0 (by kernel_rfl)).trans h0_7
   have h1_11 := (T.rest 1 (by kernel_rfl)).trans h1_7
   have h7_11 := (T.rest 7 (by kernel_rfl)).trans h7_7
   have h8_11 : act11.eval (.tmp 8) = .int .i64 (IntKind.i64.wrap ((k : Nat) + 1)) := T.done 1 8 rfl rfl
   have d11 := T.defers.trans d7
   have s11 := T.size.trans s7
   have bl11 := bl7.trans (T.below.mono bl7.size)
   clear T
   refine Eng.tail_nil ?_
   exact ⟨_, by omega, k + 1, rfl, by omega, by rw [hb1, Pth.firstBad_drop hk0, if_neg (by rw [c16]; simp)]; rfl, d11, s11, bl11, h0_11, h1_11, h7_11, (h8_11.trans (by first | rfl | (congr 1; rw [Eng.i64_id (by omega) (by omega)]; omega) | (simp; done)))⟩
 ·
  have c9 := Bq9.symm.trans hq
  clear hq
  have c9 := of_decide_eq_false c9
  refine wp_exit ?_
  show Code.wp Tryd.prog _ _ _ _
  show Code.wp Tryd.prog _ _ _ _
  refine wp_seq ?_
  refine Eng.regionS (Eng.still [fun u_ => u_ = .int .i64 (-1)]) (fun _ => .plain) 1 0 19 s4 rfl (by kernel_rfl) (Eng.still_stable _) (Or.inr (Eng.still_any _)) ?_ ?_
  ·refine Eng.Steps.cons (fun _ => ?_) (Eng.Steps.nil)
   ·refine Eng.plain rfl rfl fun a w' H => ?_
    exact Eng.val (w1 := w') (v := .int .i64 (-1)) (Eng.run_assign rfl (rfl : a.eval (.const (.int .i64 (-1))) = .int .i64 (-1))) (Below.refl _ _) rfl
  intro act13 w13 T
  have h4_13 : act13.eval (.tmp 4) = .int .i64 (-1) := T.done 0 4 rfl rfl
  have d13 := T.defers.trans d4
  have bl13 := bl4.trans (T.below.mono bl4.size)
  clear T
  refine Eng.tail_nil ?_
  show Code.wp Tryd.prog _ _ _ _
  refine wp_ret ?_
  repeat (first | refine Eng.in_ret ?_ | refine Eng.then_ret ?_)
  exact Eng.ret1 rfl d13 h4_13 ⟨by rw [hb1]; first | (rw [Pth.firstBad_drop hk0, if_pos c16]; done) | (rw [List.drop_eq_nil_of_le (by omega)]; rfl), bl13⟩
end Go.Proofs.YthgafcaoibfchaaDoor.X
end
section
namespace Go.Proofs.YthgafcaoibfchaaDoor.X
open Go.RowKit Go.Shelf Go.Proofs Go.Proofs.YthgafcaoibfchaaDoorW.PrintWords Go.Proofs.YthgafcaoibfchaaDoorW.PrintLast Go.Proofs.YthgafcaoibfchaaDoorW.PrintMore
set_option linter.unusedVariables false
set_option linter.unusedSimpArgs false
set_option maxHeartbeats 4000000 in
set_option maxRecDepth 100000 in
theorem Pth.contains_calls (v : Value) (l : List Pth.Part) (w : World) (hF : Eng.Reads w v l.length 2 (Pth.cellsP l)) (hl : l.length ≤ 4611686018427387904) (hs : ∀ p ∈ l, p.2.size ≤ 9223372036854775807) (hT : Tabs.Holds w) : Calls Tryd.prog 109 #[v, .func (.func 110) #[] #[]] w fun e w' => e = .returned (.bool (!(l.all fun p => Pth.right1 p.1 p.2))) ∧ Below w.heap.size w w' := by
 have hu115 := Tryd.underlying115
 refine Eng.enter Tryd.func109 rfl fun act0 d0 s0 v0 => ?_
 have s0 : act0.tmps.size = 9 := s0
 have h0_0 : act0.eval (.tmp 0) = v := v0 0 (by simp)
 have h1_0 : act0.eval (.tmp 1) = .func (.func 110) #[] #[] := v0 1 (by simp)
 clear v0
 have bl0 : Below w.heap.size w w := Below.refl _ _
 refine wp_seq ?_
 refine Eng.regionS (Eng.still [fun u_ => u_ = .bool false]) (fun _ => .plain) 1 0 9 s0 rfl (by kernel_rfl) (Eng.still_stable _) (Or.inr (Eng.still_any _)) ?_ ?_
 ·refine Eng.Steps.cons (fun _ => ?_) (Eng.Steps.nil)
  ·refine Eng.plain rfl rfl fun a w' H => ?_
   exact Eng.val (w1 := w') (v := .bool false) (Eng.run_assign rfl (rfl : a.eval (.const (.bool false)) = .bool false)) (Below.refl _ _) rfl
 intro act1 w1 T
 have h0_1 := (T.rest 0 (by kernel_rfl)).trans h0_0
 have h1_1 := (T.rest 1 (by kernel_rfl)).trans h1_0
 have Fp_1 := Eng.Reads.below hF T.below
 have d1 := T.defers.trans d0
 have s1 := T.size.trans s0
 have bl1 := bl0.trans (T.below.mono bl0.size)
 clear T
 refine Eng.tail_nil ?_
 show Code.wp Tryd.prog _ _ _ _
 refine wp_seq ?_
 obtain ⟨q8, Bq8⟩ : ∃ b : Bool, b = (decide ((Pth.firstBad l 0) ≥ 0)) := ⟨_, rfl⟩
 refine Eng.regionS (Eng.still [fun u_ => u_ = v, fun u_ => u_ = .func (.func 110) #[] #[], fun u_ => u_ = .int .i64 (Pth.firstBad l 0), fun u_ => u_ = .bool q8, fun u_ => u_ = .bool q8]) (fun _ => .plain) 5 0 9 s1 rfl (by kernel_rfl) (Eng.still_stable _) (Or.inr (Eng.still_any _)) ?_ ?_
 ·refine Eng.Steps.cons (fun _ => ?_) (Eng.Steps.cons (fun _ => ?_) (Eng.Steps.cons (fun _ => ?_) (Eng.Steps.cons (fun _ => ?_) (Eng.Steps.cons (fun _ => ?_) (Eng.Steps.nil)))))
  ·refine Eng.plain rfl rfl fun a w' H => ?_
   exact Eng.val (w1 := w') (v := v) (Eng.run_move rfl ((H.kept 0 (by kernel_rfl)).trans h0_1)) (Below.refl _ _) rfl
  ·refine Eng.plain rfl rfl fun a w' H => ?_
   exact Eng.val (w1 := w') (v := .func (.func 110) #[] #[]) (Eng.run_move rfl ((H.kept 1 (by kernel_rfl)).trans h1_1)) (Below.refl _ _) rfl
  ·refine Eng.plain rfl rfl fun a w' H => ?_
   refine Eng.call Tryd.func131 (by kernel_rfl) (by kernel_rfl) rfl #[v, .func (.func 110) #[] #[]] ?_ ?_
   ·have e0 : a.eval (.tmp 5) = v := (H.dep 0 5 (by kernel_rfl) rfl); have e1 : a.eval (.tmp 6) = .func (.func 110) #[] #[] := (H.dep 1 6 (by kernel_rfl) rfl); simp only [List.map_toArray, List.map_cons, List.map_nil, e0, e1]
   refine (Pth.index_calls v l _ (Eng.Reads.below Fp_1 H.below) (by omega) hs (Tabs.below (Tabs.below hT bl1) H.below)).mono ?_
   rintro e w'' ⟨rfl, hb⟩
   exact ⟨_, rfl, rfl, hb⟩
  ·refine Eng.plain rfl rfl fun a w' H => ?_
   refine Eng.val (w1 := w') (v := .bool (decide ((Pth.firstBad l 0) ≥ 0))) ?_ (Below.refl _ _) (by show _ = Value.bool q8; rw [Bq8])
   have e0 : a.eval (.tmp 7) = .int .i64 (Pth.firstBad l 0) := (H.dep 2 7 (by kernel_rfl) rfl)
   have e1 : a.eval (.const (.int .i64 0)) = .int .i64 0 := (rfl : a.eval (.const (.int .i64 0)) = .int .i64 0)
   simp only [execOp, resolve, e0, e1]
   go_simp
  ·refine Eng.plain rfl rfl fun a w' H => ?_
   exact Eng.val (w1 := w') (v := .bool q8) (Eng.run_assign rfl (H.dep 3 8 (by kernel_rfl) rfl)) (Below.refl _ _) rfl
 intro act2 w2 T
 have h4_2 : act2.eval (.tmp 4) = .bool q8 := T.done 4 4 rfl rfl
 have d2 := T.defers.trans d1
 have bl2 := bl1.trans (T.below.mono bl1.size)
 clear T
 refine Eng.tail_nil ?_
 show Code.wp Tryd.prog _ _ _ _
 refine wp_ret ?_
 repeat (first | refine Eng.in_ret ?_ | refine Eng.then_ret ?_)
 exact Eng.ret1 rfl d2 (h4_2.trans (by rw [Bq8, Pth.firstBad_all l 0 (by omega)])) ⟨rfl, bl2⟩
set_option maxHeartbeats 4000000 in
set_option maxRecDepth 100000 in
theorem Pth.right_calls (v : Value) (l : List Pth.Part) (w : World) (hF : Eng.Reads w v l.length 2 (Pth.cellsP l)) (hl : l.length ≤ 4611686018427387904) (hs : ∀ p ∈ l, p.2.size ≤ 9223372036854775807) (hT : Tabs.Holds w) : Calls Tryd.prog 77 #[v] w fun e w' => e = .returned (.bool (Pth.rightB l)) ∧ Below w.heap.size w w' := by
 have hu115 := Tryd.underlying115
 refine Eng.enter Tryd.func77 rfl fun act0 d0 s0 v0 => ?_
 have s0 : act0.tmps.size = 11 := s0
 have h0_0 : act0.eval (.tmp 0) = v := v0 0 (by simp)
 clear v0
 have bl0 : Below w.heap.size w w := Below.refl _ _
 refine wp_seq ?_
 refine Eng.regionS (Eng.still [fun u_ => u_ = .bool false]) (fun _ => .plain) 1 0 11 s0 rfl (by kernel_rfl) (Eng.still_stable _) (Or.inr (Eng.still_any _)) ?_ ?_
 ·refine Eng.Steps.cons (fun _ => ?_) (Eng.Steps.nil)
  ·refine Eng.plain rfl rfl fun a w' H => ?_
   exact Eng.val (w1 := w') (v := .bool false) (Eng.run_assign rfl (rfl : a.eval (.const (.bool false)) = .bool false)) (Below.refl _ _) rfl
 intro act1 w1 T
 have h0_1 := (T.rest 0 (by kernel_rfl)).trans h0_0
 have Fp_1 := Eng.Reads.below hF T.below
 have d1 := T.defers.trans d0
 have s1 := T.size.trans s0
 have bl1 := bl0.trans (T.below.mono bl0.size)
 clear T
 refine Eng.tail_nil ?_
 show Code.wp Tryd.prog _ _ _ _
 refine wp_seq ?_
 obtain ⟨q5, Bq5⟩ : ∃ b : Bool, b = (decide (((l.length : Nat) : Int) ≤ 20)) := ⟨_, rfl⟩
 obtain ⟨q8, Bq8⟩ : ∃ b : Bool, b = (!(l.all fun p => Pth.right1 p.1 p.2)) := ⟨_, rfl⟩
 obtain ⟨q9, Bq9⟩ : ∃ b : Bool, b = (!q8) := ⟨_, rfl⟩
 obtain ⟨q10, Bq10⟩ : ∃ b : Bool, b = (q5 && q9) := ⟨_, rfl⟩
 refine Eng.regionS (Eng.still [fun u_ => u_ = v, fun u_ => u_ = .int .i64 ((l.length : Nat) : Int), fun u_ => u_ = .bool q5, fun u_ => u_ = .bool q5, fun u_ => u_ = bif (q5 == true) then (v) else undef, fun u_ => u_ = bif (q5 == true) then (.bool q8) else undef, fun u_ => u_ = bif (q5 == true) then (.bool q9) else undef, fun u_ => u_ = .bool q10, fun u_ => u_ = .bool q10]) (fun _ => .plain) 9 0 11 s1 rfl (by kernel_rfl) (Eng.still_stable _) (Or.inr (Eng.still_any _)) ?_ ?_
 ·refine Eng.Steps.cons (fun _ => ?_) (Eng.Steps.cons (fun _ => ?_) (Eng.Steps.cons (fun _ => ?_) (Eng.Steps.cons (fun _ => ?_) (Eng.Steps.cons (fun _ => ?_) (Eng.Steps.cons (fun _ => ?_) (Eng.Steps.cons (fun _ => ?_) (Eng.Steps.cons (fun _ => ?_) (Eng.Steps.cons (fun _ => ?_) (Eng.Steps.nil)))))))))
  ·refine Eng.plain rfl rfl fun a w' H => ?_
   exact Eng.val (w1 := w') (v := v) (Eng.run_move rfl ((H.kept 0 (by kernel_rfl)).trans h0_1)) (Below.refl _ _) rfl
  ·refine Eng.plain rfl rfl fun a w' H => ?_
   refine Eng.val (w1 := w') (v := .int .i64 ((l.length : Nat) : Int)) ?_ (Below.refl _ _) rfl
   exact Eng.run_len_sl rfl Tryd.underlying82 (show a.eval (.tmp 3) = v from (H.dep 0 3 (by kernel_rfl) rfl)) (Eng.Reads.below Fp_1 H.below)
  ·refine Eng.plain rfl rfl fun a w' H => ?_
   refine Eng.val (w1 := w') (v := .bool (decide (((l.length : Nat) : Int) ≤ 20))) ?_ (Below.refl _ _) (by show _ = Value.bool q5; rw [Bq5])
   have e0 : a.eval (.tmp 4) = .int .i64 ((l.length : Nat) : Int) := (H.dep 1 4 (by kernel_rfl) rfl)
   have e1 : a.eval (.const (.int .i64 20)) = .int .i64 20 := (rfl : a.eval (.const (.int .i64 20)) = .int .i64 20)
   simp only [execOp, resolve, e0, e1]
   go_simp
  ·refine Eng.plain rfl rfl fun a w' H => ?_
   exact Eng.val (w1 := w') (v := .bool q5) (Eng.run_move rfl (H.dep 2 5 (by kernel_rfl) rfl)) (Below.refl _ _) rfl
  ·refine Eng.guarded1 (j := 3) (d := 6) (b := q5) rfl rfl (by kernel_rfl) rfl (fun v w h => h) (fun hG w => Eng.off hG) fun hG a w' H => ?_
   exact Eng.val (w1 := w') (v := v) (Eng.run_move rfl ((H.kept 0 (by kernel_rfl)).trans h0_1)) (Below.refl _ _) (Eng.off' hG rfl)
  ·refine Eng.guarded1 (j := 3) (d := 6) (b := q5) rfl rfl (by kernel_rfl) rfl (fun v w h => h) (fun hG w => Eng.off hG) fun hG a w' H => ?_
   refine Eng.call Tryd.func109 (by kernel_rfl) (by kernel_rfl) rfl #[v, .func (.func 110) #[] #[]] ?_ ?_
   ·have e0 : a.eval (.tmp 7) = v := (Eng.on (H.dep 4 7 (by kernel_rfl) rfl) hG); have e1 : a.eval (.func 110) = .func (.func 110) #[] #[] := (rfl : a.eval (.func 110) = .func (.func 110) #[] #[]); simp only [List.map_toArray, List.map_cons, List.map_nil, e0, e1]
   refine (Pth.contains_calls v l _ (Eng.Reads.below Fp_1 H.below) (by omega) hs (Tabs.below (Tabs.below hT bl1) H.below)).mono ?_
   rintro e w'' ⟨rfl, hb⟩
   exact ⟨_, rfl, (Eng.off' hG (by rw [Bq8])), hb⟩
  ·refine Eng.guarded1 (j := 3) (d := 6) (b := q5) rfl rfl (by kernel_rfl) rfl (fun v w h => h) (fun hG w => Eng.off hG) fun hG a w' H => ?_
   exact Eng.val (w1 := w') (v := .bool (!q8)) (Eng.run_not rfl (Eng.on (H.dep 5 8 (by kernel_rfl) rfl) hG)) (Below.refl _ _) (Eng.off' hG (by rw [Bq9]))
  ·refine Eng.plain rfl rfl fun a w' H => ?_
   exact Eng.val (w1 := w') (v := .bool (q5 && q9)) (Eng.run_and rfl rfl (G := true) (H.dep 3 6 (by kernel_rfl) rfl) (fun hb => (Eng.on (H.dep 6 9 (by kernel_rfl) rfl) (Eng.mk1 hb)))) (Below.refl _ _) (by show _ = Value.bool q10; rw [Bq10])
  ·refine Eng.plain rfl rfl fun a w' H => ?_
   exact Eng.val (w1 := w') (v := .bool q10) (Eng.run_assign rfl (H.dep 7 10 (by kernel_rfl) rfl)) (Below.refl _ _) rfl
 intro act2 w2 T
 have h2_2 : act2.eval (.tmp 2) = .bool q10 := T.done 8 2 rfl rfl
 have d2 := T.defers.trans d1
 have bl2 := bl1.trans (T.below.mono bl1.size)
 clear T
 refine Eng.tail_nil ?_
 show Code.wp Tryd.prog _ _ _ _
 refine wp_ret ?_
 repeat (first | refine Eng.in_ret ?_ | refine Eng.then_ret ?_)
 exact Eng.ret1 rfl d2 (h2_2.trans (by rw [Bq10, Bq9, Bq8, Bq5, Bool.not_not]; rfl)) ⟨rfl, bl2⟩
end Go.Proofs.YthgafcaoibfchaaDoor.X
end
section
namespace Go.Proofs.YthgafcaoibfchaaDoor.X
open Go.RowKit Go.Shelf Go.Proofs Go.Proofs.YthgafcaoibfchaaDoorW.PrintWords Go.Proofs.YthgafcaoibfchaaDoorW.PrintLast Go.Proofs.YthgafcaoibfchaaDoorW.PrintMore
set_option linter.unusedVariables false
set_option linter.unusedSimpArgs false
set_option maxHeartbeats 4000000 in
set_option maxRecDepth 100000 in
theorem Nfa.begin_calls (pv bv : Value) (bs : List Int) (many i : Int) (w : World) (hb : Eng.Reads w bv bs.length 1 (Nfa.ints bs)) (hi : 0 ≤ i) : Calls Tryd.prog 86 #[.agg #[pv, bv, .int .i64 many], .int .i64 i] w fun e w' => e = .returned (.int .i64 (Nfa.beginF bs i)) ∧ Below w.heap.size w w' := by
 have hm := Eng.Reads.len_le hb
 refine Eng.enter Tryd.func86 rfl fun act0 d0 s0 v0 => ?_
 have s0 : act0.tmps.size = 15 := s0
 have h0_0 : act0.eval (.tmp 0) = .agg #[pv, bv, .int .i64 many] := v0 0 (by simp)
 have h1_0 : act0.eval (.tmp 1) = .int .i64 i := v0 1 (by simp)
 clear v0
 have bl0 : Below w.heap.size w w := Below.refl _ _
 refine wp_seq ?_
 refine Eng.regionS (Eng.still [fun u_ => True, fun u_ => u_ = .int .i64 0]) (fun i => ([.alloc 65 #[pv, bv, .int .i64 many], .plain] : List Eng.Kind).getD i .plain) 2 0 15 s0 rfl (by kernel_rfl) (Eng.still_stable _) (Or.inr (Eng.still_any _)) ?_ ?_
 ·refine Eng.Steps.cons (fun _ => ?_) (Eng.Steps.cons (fun _ => ?_) (Eng.Steps.nil))
  ·refine Eng.made rfl (by simp) rfl (fun a w' hd ho => ?_) (fun _ _ => trivial)
   exact Eng.run_box rfl ((ho 0 (by kernel_rfl)).trans h0_0)
  ·refine Eng.plain rfl rfl fun a w' H => ?_
   exact Eng.val (w1 := w') (v := .int .i64 0) (Eng.run_assign rfl (rfl : a.eval (.const (.int .i64 0)) = .int .i64 0)) (Below.refl _ _) rfl
 intro act1 w1 T
 have h1_1 := (T.rest 1 (by kernel_rfl)).trans h1_0
 have Fbb_1 := Eng.Reads.below hb T.below
 obtain ⟨g2_1, h2_1, rg2_1, lg2_1_1, kg2_1_1⟩ := T.al 0 2 _ _ rfl rfl rfl (by kernel_rfl)
 have d1 := T.defers.trans d0
 have s1 := T.size.trans s0
 have bl1 := bl0.trans (T.below.mono bl0.size)
 clear T
 refine Eng.tail_nil ?_
 show Code.wp Tryd.prog _ _ _ _
 refine wp_seq ?_
 refine wp_seq ?_
 obtain ⟨q9, Bq9⟩ : ∃ b : Bool, b = (decide (i ≥ ((bs.length : Nat) : Int))) := ⟨_, rfl⟩
 refine Eng.regionS (Eng.still [fun u_ => u_ = .int .i64 i, fun u_ => u_ = .pointer (some ⟨g2_1, 1, none⟩), fun u_ => u_ = bv, fun u_ => u_ = .int .i64 ((bs.length : Nat) : Int), fun u_ => u_ = .bool q9]) (fun _ => .plain) 5 0 15 s1 rfl (by kernel_rfl) (Eng.still_stable _) (Or.inr (Eng.still_any _)) ?_ ?_
 ·refine Eng.Steps.cons (fun _ => ?_) (Eng.Steps.cons (fun _ => ?_) (Eng.Steps.cons (fun _ => ?_) (Eng.Steps.cons (fun _ => ?_) (Eng.Steps.cons (fun _ => ?_) (Eng.Steps.nil)))))
  ·refine Eng.plain rfl rfl fun a w' H => ?_
   exact Eng.val (w1 := w') (v := .int .i64 i) (Eng.run_move rfl ((H.kept 1 (by kernel_rfl)).trans h1_1)) (Below.refl _ _) rfl
  ·refine Eng.plain rfl rfl fun a w' H => ?_
   refine Eng.val (w1 := w') (v := .pointer (some ⟨g2_1, 1, none⟩)) ?_ (Below.refl _ _) rfl
   have e0 := ((H.kept 2 (by kernel_rfl)).trans h2_1)
   simp only [execOp, resolve, e0]
   go_simp
  ·refine Eng.plain rfl rfl fun a w' H => ?_
   have kb := (H.below.block _ lg2_1_1).trans kg2_1_1
   have z0 : w'.cell? ⟨g2_1, 1, none⟩ = some (bv) := (Eng.cells kb 1).trans rfl
   refine Eng.val (w1 := w') (v := bv) ?_ (Below.refl _ _) rfl
   have e0 : a.eval (.tmp 6) = .pointer (some ⟨g2_1, 1, none⟩) := (H.dep 1 6 (by kernel_rfl) rfl)
   simp only [execOp, resolve, e0]
   go_simp
  ·refine Eng.plain rfl rfl fun a w' H => ?_
   refine Eng.val (w1 := w') (v := .int .i64 ((bs.length : Nat) : Int)) ?_ (Below.refl _ _) rfl
   exact Eng.run_len_sl rfl Tryd.underlying63 (show a.eval (.tmp 7) = bv from (H.dep 2 7 (by kernel_rfl) rfl)) (Eng.Reads.below Fbb_1 H.below)
  ·refine Eng.plain rfl rfl fun a w' H => ?_
   refine Eng.val (w1 := w') (v := .bool (decide (i ≥ ((bs.length : Nat) : Int)))) ?_ (Below.refl _ _) (by show _ = Value.bool q9; rw [Bq9])
   have e0 : a.eval (.tmp 5) = .int .i64 i := (H.dep 0 5 (by kernel_rfl) rfl)
   have e1 : a.eval (.tmp 8) = .int .i64 ((bs.length : Nat) : Int) := (H.dep 3 8 (by kernel_rfl) rfl)
   simp only [execOp, resolve, e0, e1]
   go_simp
 intro act2 w2 T
 have h1_2 := (T.rest 1 (by kernel_rfl)).trans h1_1
 have h2_2 := (T.rest 2 (by kernel_rfl)).trans h2_1
 have kg2_1_2 := (T.below.block _ lg2_1_1).trans kg2_1_1
 have lg2_1_2 := Nat.lt_of_lt_of_le lg2_1_1 T.below.size
 have Fbb_2 := Eng.Reads.below Fbb_1 T.below
 have h9_2 : act2.eval (.tmp 9) = .bool q9 := T.done 4 9 rfl rfl
 have d2 := T.defers.trans d1
 have s2 := T.size.trans s1
 have bl2 := bl1.trans (T.below.mono bl1.size)
 clear T
 refine Eng.tail_nil ?_
 show Code.wp Tryd.prog _ _ _ _
 refine wp_cond_split h9_2 (fun hq => ?_) (fun hq => ?_)
 ·
  have c9 := Bq9.symm.trans hq
  clear hq
  have c9 := of_decide_eq_true c9
  refine wp_seq ?_
  refine Eng.regionS (Eng.still [fun u_ => u_ = .int .i64 512]) (fun _ => .plain) 1 0 15 s2 rfl (by kernel_rfl) (Eng.still_stable _) (Or.inr (Eng.still_any _)) ?_ ?_
  ·refine Eng.Steps.cons (fun _ => ?_) (Eng.Steps.nil)
   ·refine Eng.plain rfl rfl fun a w' H => ?_
    exact Eng.val (w1 := w') (v := .int .i64 512) (Eng.run_assign rfl (rfl : a.eval (.const (.int .i64 512)) = .int .i64 512)) (Below.refl _ _) rfl
  intro act4 w4 T
  have h4_4 : act4.eval (.tmp 4) = .int .i64 512 := T.done 0 4 rfl rfl
  have d4 := T.defers.trans d2
  have bl4 := bl2.trans (T.below.mono bl2.size)
  clear T
  refine Eng.tail_nil ?_
  show Code.wp Tryd.prog _ _ _ _
  refine wp_ret ?_
  repeat (first | refine Eng.in_ret ?_ | refine Eng.then_ret ?_)
  exact Eng.ret1 rfl d4 (h4_4.trans (by unfold Nfa.beginF; first | (rw [if_pos c9]; done) | (rw [if_neg c9]; done))) ⟨rfl, bl4⟩
 ·
  have c9 := Bq9.symm.trans hq
  clear hq
  have c9 := of_decide_eq_false c9
  have hi1 := c9
  refine wp_skip ?_
  show Code.wp Tryd.prog _ _ _ _
  refine wp_seq ?_
  refine Eng.regionS (Eng.still [fun u_ => u_ = .pointer (some ⟨g2_1, 1, none⟩), fun u_ => u_ = bv, fun u_ => u_ = .int .i64 i, fun u_ => u_ = Eng.elemPtr bv (i.toNat * 1), fun u_ => u_ = .int .i64 (bs.getD i.toNat 0), fun u_ => u_ = .int .i64 (bs.getD i.toNat 0)]) (fun _ => .plain) 6 0 15 s2 rfl (by kernel_rfl) (Eng.still_stable _) (Or.inr (Eng.still_any _)) ?_ ?_
  ·refine Eng.Steps.cons (fun _ => ?_) (Eng.Steps.cons (fun _ => ?_) (Eng.Steps.cons (fun _ => ?_) (Eng.Steps.cons (fun _ => ?_) (Eng.Steps.cons (fun _ => ?_) (Eng.Steps.cons (fun _ => ?_) (Eng.Steps.nil))))))
   ·refine Eng.plain rfl rfl fun a w' H => ?_
    refine Eng.val (w1 := w') (v := .pointer (some ⟨g2_1, 1, none⟩)) ?_ (Below.refl _ _) rfl
    have e0 := ((H.kept 2 (by kernel_rfl)).trans h2_2)
    simp only [execOp, resolve, e0]
    go_simp
   ·refine Eng.plain rfl rfl fun a w' H => ?_
    have kb := (H.below.block _ lg2_1_2).trans kg2_1_2
    have z0 : w'.cell? ⟨g2_1, 1, none⟩ = some (bv) := (Eng.cells kb 1).trans rfl
    refine Eng.val (w1 := w') (v := bv) ?_ (Below.refl _ _) rfl
    have e0 : a.eval (.tmp 10) = .pointer (some ⟨g2_1, 1, none⟩) := (H.dep 0 10 (by kernel_rfl) rfl)
    simp only [execOp, resolve, e0]
    go_simp
   ·refine Eng.plain rfl rfl fun a w' H => ?_
    exact Eng.val (w1 := w') (v := .int .i64 i) (Eng.run_move rfl ((H.kept 1 (by kernel_rfl)).trans h1_2)) (Below.refl _ _) rfl
   ·refine Eng.plain rfl rfl fun a w' H => ?_
    refine Eng.val (w1 := w') (v := Eng.elemPtr bv (i.toNat * 1)) ?_ (Below.refl _ _) rfl
    exact Eng.run_index_sl rfl Tryd.underlying63 (by kernel_rfl) (show a.eval (.tmp 11) = bv from (H.dep 1 11 (by kernel_rfl) rfl)) ((show a.eval (.tmp 12) = .int .i64 i from (H.dep 2 12 (by kernel_rfl) rfl)).trans (congrArg (Value.int _) (show i = ((i.toNat : Nat) : Int) from by omega))) (Eng.Reads.below Fbb_2 H.below) (by omega) rfl
   ·refine Eng.plain rfl rfl fun a w' H => ?_
    refine Eng.val (w1 := w') (v := .int .i64 (bs.getD i.toNat 0)) ?_ (Below.refl _ _) rfl
    exact Eng.run_load_el (.int .i64 (bs.getD i.toNat 0)) rfl (show a.eval (.tmp 13) = Eng.elemPtr bv (i.toNat * 1) from (H.dep 3 13 (by kernel_rfl) rfl)) (Eng.Reads.below Fbb_2 H.below) (Nfa.ints_at bs i.toNat (by omega)) (by kernel_rfl)
   ·refine Eng.plain rfl rfl fun a w' H => ?_
    exact Eng.val (w1 := w') (v := .int .i64 (bs.getD i.toNat 0)) (Eng.run_assign rfl (H.dep 4 14 (by kernel_rfl) rfl)) (Below.refl _ _) rfl
  intro act6 w6 T
  have h4_6 : act6.eval (.tmp 4) = .int .i64 (bs.getD i.toNat 0) := T.done 5 4 rfl rfl
  have d6 := T.defers.trans d2
  have bl6 := bl2.trans (T.below.mono bl2.size)
  clear T
  refine Eng.tail_nil ?_
  show Code.wp Tryd.prog _ _ _ _
  refine wp_ret ?_
  repeat (first | refine Eng.in_ret ?_ | refine Eng.then_ret ?_)
  exact Eng.ret1 rfl d6 (h4_6.trans (by unfold Nfa.beginF; first | (rw [if_pos c9]; done) | (rw [if_neg c9]; done))) ⟨rfl, bl6⟩
end Go.Proofs.YthgafcaoibfchaaDoor.X
end
