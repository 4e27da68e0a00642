/- Words and walks that the row of NfaRuns needs: printed by programs, and plain laws. -/
import Derived.Test.YthgafcaoibfchaaDoorM4
import Derived.Test.YthgafcaoibfchaaDoorM3
import Derived.Test.YthgafcaoibfchaaDoorM5
namespace Go.Proofs.YthgafcaoibfchaaDoorW.PrintWords
end Go.Proofs.YthgafcaoibfchaaDoorW.PrintWords
namespace Go.Proofs.YthgafcaoibfchaaDoorW.PrintLast
end Go.Proofs.YthgafcaoibfchaaDoorW.PrintLast
namespace Go.Proofs.YthgafcaoibfchaaDoorW.PrintMore
end Go.Proofs.YthgafcaoibfchaaDoorW.PrintMore
section
namespace Go.Proofs.YthgafcaoibfchaaDoor.X
open Go.RowKit Go.Shelf Go.Proofs Go.Proofs.YthgafcaoibfchaaDoorW.PrintWords Go.Proofs.YthgafcaoibfchaaDoorW.PrintLast Go.Proofs.YthgafcaoibfchaaDoorW.PrintMore
set_option linter.unusedVariables false
set_option linter.unusedSimpArgs false
set_option maxHeartbeats 4000000 in
set_option maxRecDepth 100000 in
theorem Nfa.parts_in (m ly bt : Nat) (w : World) (pv bv : Value) (many : Int) (ps : List (List Pth.Part)) (bs : List Int) (vs : List Value) (hvl : vs.length = ps.length) (hp : Eng.Reads w pv ps.length 1 vs) (hin : ∀ k, k < ps.length → Eng.Reads w (vs.getD k undef) (ps.getD k []).length 2 (Pth.cellsP (ps.getD k []))) (hb : Eng.Reads w bv bs.length 1 (Nfa.ints bs)) (K : List Nfa.It → World → Prop) (hK : ∀ pre W W', K pre W → Below W.heap.size W W' → K pre W') (hT : ∀ pre W, K pre W → Below w.heap.size w W ∧ W.heap[bt]? = some (.cells #[pv, bv, .int .i64 many] 65 (0, 0))) (hY : ∀ pre x W, (pre ++ [x]) <+: Nfa.items ps bs → K pre W → YieldAt Fence.wide m Tryd.prog ly (Nfa.enc x) W fun e W' => e = .returned (.bool true) ∧ K (pre ++ [x]) W') (W0 : World) (h0 : K [] W0) : Calls Tryd.prog 116 #[.func (.yield ly) #[] #[], .pointer (some ⟨bt, 0, none⟩)] W0 fun e W' => (∃ v, e = .returned v) ∧ K (Nfa.items ps bs) W' := by
 have hmp := Eng.Reads.len_le hp
 have hu115 := Tryd.underlying115
 refine Eng.enter Tryd.func116 rfl fun act0 d0 s0 v0 => ?_
 have s0 : act0.tmps.size = 33 := s0
 have h0_0 : act0.eval (.tmp 0) = .func (.yield ly) #[] #[] := v0 0 (by simp)
 have h1_0 : act0.eval (.tmp 1) = .pointer (some ⟨bt, 0, none⟩) := v0 1 (by simp)
 clear v0
 refine wp_seq ?_
 refine Eng.regionS (Eng.still [fun u_ => u_ = .pointer (some ⟨bt, 0, none⟩), fun u_ => u_ = pv, fun u_ => u_ = .int .i64 ((ps.length : Nat) : Int), fun u_ => u_ = .int .i64 0]) (fun _ => .plain) 4 0 33 s0 rfl (by kernel_rfl) (Eng.still_stable _) (Or.inr (Eng.still_any _)) ?_ ?_
 ·refine Eng.Steps.cons (fun _ => ?_) (Eng.Steps.cons (fun _ => ?_) (Eng.Steps.cons (fun _ => ?_) (Eng.Steps.cons (fun _ => ?_) (Eng.Steps.nil))))
  ·refine Eng.plain rfl rfl fun a w' H => ?_
   refine Eng.val (w1 := w') (v := .pointer (some ⟨bt, 0, none⟩)) ?_ (Below.refl _ _) rfl
   have e0 := ((H.kept 1 (by kernel_rfl)).trans h1_0)
   simp only [execOp, resolve, e0]
   go_simp
  ·refine Eng.plain rfl rfl fun a w' H => ?_
   have kb := (H.below.block _ (Array.getElem?_eq_some_iff.1 (hT _ _ h0).2).1).trans (hT _ _ h0).2
   have z0 : w'.cell? ⟨bt, 0, none⟩ = some (pv) := (Eng.cells kb 0).trans rfl
   refine Eng.val (w1 := w') (v := pv) ?_ (Below.refl _ _) rfl
   have e0 : a.eval (.tmp 7) = .pointer (some ⟨bt, 0, none⟩) := (H.dep 0 7 (by kernel_rfl) rfl)
   simp only [execOp, resolve, e0]
   go_simp
  ·refine Eng.plain rfl rfl fun a w' H => ?_
   refine Eng.val (w1 := w') (v := .int .i64 ((ps.length : Nat) : Int)) ?_ (Below.refl _ _) rfl
   exact Eng.run_len_sl rfl Tryd.underlying62 (show a.eval (.tmp 8) = pv from (H.dep 1 8 (by kernel_rfl) rfl)) (Eng.Reads.below (Eng.Reads.below hp (hT _ _ h0).1) H.below)
  ·refine Eng.plain rfl rfl fun a w' H => ?_
   exact Eng.val (w1 := w') (v := .int .i64 0) (Eng.run_move rfl (rfl : a.eval (.const (.int .i64 0)) = .int .i64 0)) (Below.refl _ _) rfl
 intro act1 w1 T
 have h0_1 := (T.rest 0 (by kernel_rfl)).trans h0_0
 have h1_1 := (T.rest 1 (by kernel_rfl)).trans h1_0
 have kbt_1 := (T.below.block _ (Array.getElem?_eq_some_iff.1 (hT _ _ h0).2).1).trans (hT _ _ h0).2
 have lbt_1 := Nat.lt_of_lt_of_le (Array.getElem?_eq_some_iff.1 (hT _ _ h0).2).1 T.below.size
 have h8_1 : act1.eval (.tmp 8) = pv := T.done 1 8 rfl rfl
 have h9_1 : act1.eval (.tmp 9) = .int .i64 ((ps.length : Nat) : Int) := T.done 2 9 rfl rfl
 have h10_1 : act1.eval (.tmp 10) = .int .i64 0 := T.done 3 10 rfl rfl
 have d1 := T.defers.trans d0
 have s1 := T.size.trans s0
 have bl1 := (hT _ _ h0).1.trans (T.below.mono (hT _ _ h0).1.size)
 have J1 := hK _ _ _ h0 T.below
 clear T
 refine Eng.tail_nil ?_
 refine wp_block ?_
 refine Eng.loopN (fun n a w' => ∃ (k : Nat), ps.length - k = n ∧ (k ≤ ps.length) ∧ (K (Nfa.itemsTo ps bs k 0) w') ∧ a.defers = [] ∧ a.tmps.size = 33 ∧ Below w.heap.size w w' ∧ a.eval (.tmp 0) = .func (.yield ly) #[] #[] ∧ a.eval (.tmp 1) = .pointer (some ⟨bt, 0, none⟩) ∧ a.eval (.tmp 8) = pv ∧ a.eval (.tmp 9) = .int .i64 ((ps.length : Nat) : Int) ∧ a.eval (.tmp 10) = .int .i64 (k : Nat) ∧ w'.heap[bt]? = some (.cells (#[pv, bv, .int .i64 many]) 65 (0, 0)) ∧ bt < w'.heap.size) (n0 := ps.length - 0) ?_ ?_
 ·exact ⟨0, rfl, by omega, by rw [Nfa.itemsTo_zero]; exact J1, d1, s1, bl1, h0_1, h1_1, h8_1, h9_1, (h10_1.trans (by first | rfl | (congr 1; rw [Eng.i64_id (by omega) (by omega)]; omega) | (simp; done))), kbt_1, lbt_1⟩
 rintro n act2 w2 ⟨k, rfl, hc0_2, hc1_2, d2, s2, bl2, h0_2, h1_2, h8_2, h9_2, h10_2, kbt_2, lbt_2⟩
 have Fpp_2 := Eng.Reads.below hp bl2
 have hk1 := hc0_2
 refine wp_seq ?_
 obtain ⟨q11, Bq11⟩ : ∃ b : Bool, b = (decide ((k : Nat) < ((ps.length : Nat) : Int))) := ⟨_, rfl⟩
 refine Eng.regionS (Eng.still [fun u_ => u_ = .bool q11]) (fun _ => .plain) 1 0 33 s2 rfl (by kernel_rfl) (Eng.still_stable _) (Or.inr (Eng.still_any _)) ?_ ?_
 ·refine Eng.Steps.cons (fun _ => ?_) (Eng.Steps.nil)
  ·refine Eng.plain rfl rfl fun a w' H => ?_
   refine Eng.val (w1 := w') (v := .bool (decide ((k : Nat) < ((ps.length : Nat) : Int)))) ?_ (Below.refl _ _) (by show _ = Value.bool q11; rw [Bq11])
   have e0 := ((H.kept 10 (by kernel_rfl)).trans h10_2)
   have e1 := ((H.kept 9 (by kernel_rfl)).trans h9_2)
   simp only [execOp, resolve, e0, e1]
   go_simp
 intro act3 w3 T
 have h0_3 := (T.rest 0 (by kernel_rfl)).trans h0_2
 have h1_3 := (T.rest 1 (by kernel_rfl)).trans h1_2
 have h8_3 := (T.rest 8 (by kernel_rfl)).trans h8_2
 have h9_3 := (T.rest 9 (by kernel_rfl)).trans h9_2
 have h10_3 := (T.rest 10 (by kernel_rfl)).trans h10_2
 have kbt_3 := (T.below.block _ lbt_2).trans kbt_2
 have lbt_3 := Nat.lt_of_lt_of_le lbt_2 T.below.size
 have Fpp_3 := Eng.Reads.below Fpp_2 T.below
 have h11_3 : act3.eval (.tmp 11) = .bool q11 := T.done 0 11 rfl rfl
 have d3 := T.defers.trans d2
 have s3 := T.size.trans s2
 have bl3 := bl2.trans (T.below.mono bl2.size)
 have J3 := hK _ _ _ hc1_2 T.below
 clear T
 refine Eng.tail_nil ?_
 refine wp_seq ?_
 refine wp_cond_split h11_3 (fun hq => ?_) (fun hq => ?_)
 ·
  have c11 := Bq11.symm.trans hq
  clear hq
  have c11 := of_decide_eq_true c11
  have hk0 : k < ps.length := by omega
  have Fin0 := hin k hk0
  have hmi := Eng.Reads.len_le Fin0
  have Finn5 := Eng.Reads.below Fin0 bl3
  refine wp_skip ?_
  refine wp_seq ?_
  refine wp_block ?_
  refine wp_seq ?_
  refine Eng.regionS (Eng.still [fun u_ => u_ = .int .i64 (k : Nat), fun u_ => u_ = Eng.elemPtr pv (k * 1), fun u_ => u_ = (vs.getD k undef), fun u_ => u_ = .int .i64 (k : Nat), fun u_ => u_ = (vs.getD k undef)]) (fun _ => .plain) 5 0 33 s3 rfl (by kernel_rfl) (Eng.still_stable _) (Or.inr (Eng.still_any _)) ?_ ?_
  ·refine Eng.Steps.cons (fun _ => ?_) (Eng.Steps.cons (fun _ => ?_) (Eng.Steps.cons (fun _ => ?_) (Eng.Steps.cons (fun _ => ?_) (Eng.Steps.cons (fun _ => ?_) (Eng.Steps.nil)))))
   ·refine Eng.plain rfl rfl fun a w' H => ?_
    exact Eng.val (w1 := w') (v := .int .i64 (k : Nat)) (Eng.run_move rfl ((H.kept 10 (by kernel_rfl)).trans h10_3)) (Below.refl _ _) rfl
   ·refine Eng.plain rfl rfl fun a w' H => ?_
    refine Eng.val (w1 := w') (v := Eng.elemPtr pv (k * 1)) ?_ (Below.refl _ _) rfl
    exact Eng.run_index_sl rfl Tryd.underlying62 (by kernel_rfl) (show a.eval (.tmp 8) = pv from ((H.kept 8 (by kernel_rfl)).trans h8_3)) ((show a.eval (.tmp 10) = .int .i64 (k : Nat) from ((H.kept 10 (by kernel_rfl)).trans h10_3)).trans (congrArg (Value.int _) (show (k : Nat) = ((k : Nat) : Int) from by omega))) (Eng.Reads.below Fpp_3 H.below) (by omega) rfl
   ·refine Eng.plain rfl rfl fun a w' H => ?_
    refine Eng.val (w1 := w') (v := (vs.getD k undef)) ?_ (Below.refl _ _) rfl
    exact Eng.run_load_el ((vs.getD k undef)) rfl (show a.eval (.tmp 13) = Eng.elemPtr pv (k * 1) from (H.dep 1 13 (by kernel_rfl) rfl)) (Eng.Reads.below Fpp_3 H.below) (Nfa.at_one vs hvl (by omega)) (by kernel_rfl)
   ·refine Eng.plain rfl rfl fun a w' H => ?_
    exact Eng.val (w1 := w') (v := .int .i64 (k : Nat)) (Eng.run_assign rfl (H.dep 0 12 (by kernel_rfl) rfl)) (Below.refl _ _) rfl
   ·refine Eng.plain rfl rfl fun a w' H => ?_
    exact Eng.val (w1 := w') (v := (vs.getD k undef)) (Eng.run_assign rfl (H.dep 2 14 (by kernel_rfl) rfl)) (Below.refl _ _) rfl
  intro act6 w6 T
  have h0_6 := (T.rest 0 (by kernel_rfl)).trans h0_3
  have h1_6 := (T.rest 1 (by kernel_rfl)).trans h1_3
  have h8_6 := (T.rest 8 (by kernel_rfl)).trans h8_3
  have h9_6 := (T.rest 9 (by kernel_rfl)).trans h9_3
  have h10_6 := (T.rest 10 (by kernel_rfl)).trans h10_3
  have h11_6 := (T.rest 11 (by kernel_rfl)).trans h11_3
  have kbt_6 := (T.below.block _ lbt_3).trans kbt_3
  have lbt_6 := Nat.lt_of_lt_of_le lbt_3 T.below.size
  have Finn_6 := Eng.Reads.below Finn5 T.below
  have h3_6 : act6.eval (.tmp 3) = .int .i64 (k : Nat) := T.done 3 3 rfl rfl
  have h4_6 : act6.eval (.tmp 4) = (vs.getD k undef) := T.done 4 4 rfl rfl
  have d6 := T.defers.trans d3
  have s6 := T.size.trans s3
  have bl6 := bl3.trans (T.below.mono bl3.size)
  have J6 := hK _ _ _ J3 T.below
  clear T
  refine Eng.tail_nil ?_
  refine wp_seq ?_
  refine Eng.regionS (Eng.still [fun u_ => u_ = (vs.getD k undef), fun u_ => u_ = .int .i64 (((ps.getD k []).length : Nat) : Int), fun u_ => u_ = .int .i64 0]) (fun _ => .plain) 3 0 33 s6 rfl (by kernel_rfl) (Eng.still_stable _) (Or.inr (Eng.still_any _)) ?_ ?_
  ·refine Eng.Steps.cons (fun _ => ?_) (Eng.Steps.cons (fun _ => ?_) (Eng.Steps.cons (fun _ => ?_) (Eng.Steps.nil)))
   ·refine Eng.plain rfl rfl fun a w' H => ?_
    exact Eng.val (w1 := w') (v := (vs.getD k undef)) (Eng.run_move rfl ((H.kept 4 (by kernel_rfl)).trans h4_6)) (Below.refl _ _) rfl
   ·refine Eng.plain rfl rfl fun a w' H => ?_
    refine Eng.val (w1 := w') (v := .int .i64 (((ps.getD k []).length : Nat) : Int)) ?_ (Below.refl _ _) rfl
    exact Eng.run_len_sl rfl Tryd.underlying82 (show a.eval (.tmp 15) = (vs.getD k undef) from (H.dep 0 15 (by kernel_rfl) rfl)) (Eng.Reads.below Finn_6 H.below)
   ·refine Eng.plain rfl rfl fun a w' H => ?_
    exact Eng.val (w1 := w') (v := .int .i64 0) (Eng.run_move rfl (rfl : a.eval (.const (.int .i64 0)) = .int .i64 0)) (Below.refl _ _) rfl
  intro act7 w7 T
  have h0_7 := (T.rest 0 (by kernel_rfl)).trans h0_6
  have h1_7 := (T.rest 1 (by kernel_rfl)).trans h1_6
  have h3_7 := (T.rest 3 (by kernel_rfl)).trans h3_6
  have h4_7 := (T.rest 4 (by kernel_rfl)).trans h4_6
  have h8_7 := (T.rest 8 (by kernel_rfl)).trans h8_6
  have h9_7 := (T.rest 9 (by kernel_rfl)).trans h9_6
  have h10_7 := (T.rest 10 (by kernel_rfl)).trans h10_6
  have h11_7 := (T.rest 11 (by kernel_rfl)).trans h11_6
  have kbt_7 := (T.below.block _ lbt_6).trans kbt_6
  have lbt_7 := Nat.lt_of_lt_of_le lbt_6 T.below.size
  have h15_7 : act7.eval (.tmp 15) = (vs.getD k undef) := T.done 0 15 rfl rfl
  have h16_7 : act7.eval (.tmp 16) = .int .i64 (((ps.getD k []).length : Nat) : Int) := T.done 1 16 rfl rfl
  have h17_7 : act7.eval (.tmp 17) = .int .i64 0 := T.done 2 17 rfl rfl
  have d7 := T.defers.trans d6
  have s7 := T.size.trans s6
  have bl7 := bl6.trans (T.below.mono bl6.size)
  have J7 := hK _ _ _ J6 T.below
  clear T
  refine Eng.tail_nil ?_
  refine wp_block ?_
  refine Eng.loopN (fun n a w' => ∃ (j : Nat), (ps.getD k []).length - j = n ∧ (j ≤ (ps.getD k []).length) ∧ (K (Nfa.itemsTo ps bs k j) w') ∧ a.defers = [] ∧ a.tmps.size = 33 ∧ Below w.heap.size w w' ∧ a.eval (.tmp 0) = .func (.yield ly) #[] #[] ∧ a.eval (.tmp 1) = .pointer (some ⟨bt, 0, none⟩) ∧ a.eval (.tmp 3) = .int .i64 (k : Nat) ∧ a.eval (.tmp 4) = (vs.getD k undef) ∧ a.eval (.tmp 8) = pv ∧ a.eval (.tmp 9) = .int .i64 ((ps.length : Nat) : Int) ∧ a.eval (.tmp 10) = .int .i64 (k : Nat) ∧ a.eval (.tmp 11) = .bool q11 ∧ a.eval (.tmp 15) = (vs.getD k undef) ∧ a.eval (.tmp 16) = .int .i64 (((ps.getD k []).length : Nat) : Int) ∧ a.eval (.tmp 17) = .int .i64 (j : Nat) ∧ w'.heap[bt]? = some (.cells (#[pv, bv, .int .i64 many]) 65 (0, 0)) ∧ bt < w'.heap.size) (n0 := (ps.getD k []).length - 0) ?_ ?_
  ·exact ⟨0, rfl, by omega, J7, d7, s7, bl7, h0_7, h1_7, h3_7, h4_7, h8_7, h9_7, h10_7, h11_7, h15_7, h16_7, (h17_7.trans (by first | rfl | (congr 1; rw [Eng.i64_id (by omega) (by omega)]; omega) | (simp; done))), kbt_7, lbt_7⟩
  rintro n act8 w8 ⟨j, rfl, hc0_8, hc1_8, d8, s8, bl8, h0_8, h1_8, h3_8, h4_8, h8_8, h9_8, h10_8, h11_8, h15_8, h16_8, h17_8, kbt_8, lbt_8⟩
  have Fbb_8 := Eng.Reads.below hb bl8
  have Finn_8 := Eng.Reads.below Fin0 bl8
  have hj1 := hc0_8
  refine wp_seq ?_
  obtain ⟨q18, Bq18⟩ : ∃ b : Bool, b = (decide ((j : Nat) < (((ps.getD k []).length : Nat) : Int))) := ⟨_, rfl⟩
  refine Eng.regionS (Eng.still [fun u_ => u_ = .bool q18]) (fun _ => .plain) 1 0 33 s8 rfl (by kernel_rfl) (Eng.still_stable _) (Or.inr (Eng.still_any _)) ?_ ?_
  ·refine Eng.Steps.cons (fun _ => ?_) (Eng.Steps.nil)
   ·refine Eng.plain rfl rfl fun a w' H => ?_
    refine Eng.val (w1 := w') (v := .bool (decide ((j : Nat) < (((ps.getD k []).length : Nat) : Int)))) ?_ (Below.refl _ _) (by show _ = Value.bool q18; rw [Bq18])
    have e0 := ((H.kept 17 (by kernel_rfl)).trans h17_8)
    have e1 := ((H.kept 16 (by kernel_rfl)).trans h16_8)
    simp only [execOp, resolve, e0, e1]
    go_simp
  intro act9 w9 T
  have h0_9 := (T.rest 0 (by kernel_rfl)).trans h0_8
  have h1_9 := (T.rest 1 (by kernel_rfl)).trans h1_8
  have h3_9 := (T.rest 3 (by kernel_rfl)).trans h3_8
  have h4_9 := (T.rest 4 (by kernel_rfl)).trans h4_8
  have h8_9 := (T.rest 8 (by kernel_rfl)).trans h8_8
  have h9_9 := (T.rest 9 (by kernel_rfl)).trans h9_8
  have h10_9 := (T.rest 10 (by kernel_rfl)).trans h10_8
  have h11_9 := (T.rest 11 (by kernel_rfl)).trans h11_8
  have h15_9 := (T.rest 15 (by kernel_rfl)).trans h15_8
  have h16_9 := (T.rest 16 (by kernel_rfl)).trans h16_8
  have h17_9 := (T.rest 17 (by kernel_rfl)).trans h17_8
  have kbt_9 := (T.below.block _ lbt_8).trans kbt_8
  have lbt_9 := Nat.lt_of_lt_of_le lbt_8 T.below.size
  have Fbb_9 := Eng.Reads.below Fbb_8 T.below
  have Finn_9 := Eng.Reads.below Finn_8 T.below
  have h18_9 : act9.eval (.tmp 18) = .bool q18 := T.done 0 18 rfl rfl
  have d9 := T.defers.trans d8
  have s9 := T.size.trans s8
  have bl9 := bl8.trans (T.below.mono bl8.size)
  have J9 := hK _ _ _ hc1_8 T.below
  clear T
  refine Eng.tail_nil ?_
  refine wp_seq ?_
  refine wp_cond_split h18_9 (fun hq => ?_) (fun hq => ?_)
  ·
   have c18 := Bq18.symm.trans hq
   clear hq
   have c18 := of_decide_eq_true c18
   have hj0 : j < (ps.getD k []).length := by omega
   refine wp_skip ?_
   refine wp_seq ?_
   refine wp_block ?_
   refine wp_seq ?_
   refine Eng.regionS (Eng.still [fun u_ => u_ = .int .i64 (j : Nat), fun u_ => u_ = Eng.elemPtr (vs.getD k undef) (j * 2), fun u_ => u_ = .agg #[.int .i64 (((ps.getD k []).getD j default).1), .string (((ps.getD k []).getD j default).2)], fun u_ => True, fun u_ => u_ = .int .i64 (j : Nat), fun u_ => True]) (fun i => ([.plain, .plain, .plain, .alloc 115 #[.int .i64 0, .string ⟨#[]⟩], .plain, .store 3 #[.int .i64 (((ps.getD k []).getD j default).1), .string (((ps.getD k []).getD j default).2)]] : List Eng.Kind).getD i .plain) 6 0 33 s9 rfl (by kernel_rfl) (Eng.still_stable _) (Or.inr (Eng.still_any _)) ?_ ?_
   ·refine Eng.Steps.cons (fun _ => ?_) (Eng.Steps.cons (fun _ => ?_) (Eng.Steps.cons (fun _ => ?_) (Eng.Steps.cons (fun _ => ?_) (Eng.Steps.cons (fun _ => ?_) (Eng.Steps.cons (fun _ => ?_) (Eng.Steps.nil))))))
    ·refine Eng.plain rfl rfl fun a w' H => ?_
     exact Eng.val (w1 := w') (v := .int .i64 (j : Nat)) (Eng.run_move rfl ((H.kept 17 (by kernel_rfl)).trans h17_9)) (Below.refl _ _) rfl
    ·refine Eng.plain rfl rfl fun a w' H => ?_
     refine Eng.val (w1 := w') (v := Eng.elemPtr (vs.getD k undef) (j * 2)) ?_ (Below.refl _ _) rfl
     exact Eng.run_index_sl rfl Tryd.underlying82 (by kernel_rfl) (show a.eval (.tmp 15) = (vs.getD k undef) from ((H.kept 15 (by kernel_rfl)).trans h15_9)) ((show a.eval (.tmp 17) = .int .i64 (j : Nat) from ((H.kept 17 (by kernel_rfl)).trans h17_9)).trans (congrArg (Value.int _) (show (j : Nat) = ((j : Nat) : Int) from by omega))) (Eng.Reads.below Finn_9 H.below) (by omega) rfl
    ·refine Eng.plain rfl rfl fun a w' H => ?_
     refine Eng.val (w1 := w') (v := .agg #[.int .i64 (((ps.getD k []).getD j default).1), .string (((ps.getD k []).getD j default).2)]) ?_ (Below.refl _ _) rfl
     exact Eng.run_load_els [.int .i64 (((ps.getD k []).getD j default).1), .string (((ps.getD k []).getD j default).2)] rfl (show a.eval (.tmp 20) = Eng.elemPtr (vs.getD k undef) (j * 2) from (H.dep 1 20 (by kernel_rfl) rfl)) (Eng.Reads.below Finn_9 H.below) (Pth.cells_at (ps.getD k []) j (by omega)) rfl Tryd.underlying115 rfl (by kernel_rfl)
    ·refine Eng.made rfl (by simp) rfl (fun a w' hd ho => ?_) (fun _ _ => trivial)
     simp only [execOp]
     go_simp
    ·refine Eng.plain rfl rfl fun a w' H => ?_
     exact Eng.val (w1 := w') (v := .int .i64 (j : Nat)) (Eng.run_assign rfl (H.dep 0 19 (by kernel_rfl) rfl)) (Below.refl _ _) rfl
    ·refine Eng.stored [.int .i64 (((ps.getD k []).getD j default).1), .string (((ps.getD k []).getD j default).2)] rfl rfl rfl (j := 3) (d := 6) (by kernel_rfl) rfl rfl (Eng.store_uniq (by kernel_rfl)) rfl rfl fun a w' g e hc hd ho => ?_
     have e0 : a.eval _ = .agg #[.int .i64 (((ps.getD k []).getD j default).1), .string (((ps.getD k []).getD j default).2)] := (hd 2 21 (by kernel_rfl) rfl)
     have z0 := (Eng.cells hc 0).trans rfl
     have z1 := (Eng.cells hc 1).trans rfl
     have f0 := Eng.unfrozen hc 0
     have f1 := Eng.unfrozen hc 1
     simp only [execOp, e, e0]
     go_simp
     rfl
   intro act11 w11 T
   have h0_11 := (T.rest 0 (by kernel_rfl)).trans h0_9
   have h1_11 := (T.rest 1 (by kernel_rfl)).trans h1_9
   have h3_11 := (T.rest 3 (by kernel_rfl)).trans h3_9
   have h4_11 := (T.rest 4 (by kernel_rfl)).trans h4_9
   have h8_11 := (T.rest 8 (by kernel_rfl)).trans h8_9
   have h9_11 := (T.rest 9 (by kernel_rfl)).trans h9_9
   have h10_11 := (T.rest 10 (by kernel_rfl)).trans h10_9
   have h11_11 := (T.rest 11 (by kernel_rfl)).trans h11_9
   have h15_11 := (T.rest 15 (by kernel_rfl)).trans h15_9
   have h16_11 := (T.rest 16 (by kernel_rfl)).trans h16_9
   have h17_11 := (T.rest 17 (by kernel_rfl)).trans h17_9
   have kbt_11 := (T.below.block _ lbt_9).trans kbt_9
   have lbt_11 := Nat.lt_of_lt_of_le lbt_9 T.below.size
   have Fbb_11 := Eng.Reads.below Fbb_9 T.below
   obtain ⟨g6_11, h6_11, rg6_11, lg6_11_11, kg6_11_11⟩ := T.st 3 6 5 _ _ _ rfl rfl rfl rfl rfl
   have h5_11 : act11.eval (.tmp 5) = .int .i64 (j : Nat) := T.done 4 5 rfl rfl
   have d11 := T.defers.trans d9
   have s11 := T.size.trans s9
   have J11 := hK _ _ _ J9 T.below
   clear T
   refine Eng.tail_nil ?_
   refine wp_seq ?_
   refine (wpIn_wide (n := m + 1)).1 ?_
   refine EngI.regionD EngI.free_wide (Eng.still [fun u_ => u_ = .func (.yield ly) #[] #[], fun u_ => u_ = .agg #[pv, bv, .int .i64 many], fun u_ => u_ = .int .i64 (k : Nat), fun u_ => u_ = .int .i64 (Nfa.beginF bs (k : Nat)), fun u_ => u_ = .int .i64 (j : Nat), fun u_ => u_ = .int .i64 (IntKind.i64.wrap ((Nfa.beginF bs (k : Nat)) + (j : Nat))), fun u_ => u_ = .agg #[.int .i64 (((ps.getD k []).getD j default).1), .string (((ps.getD k []).getD j default).2)]]) (fun _ => .plain) 7 2 33 (by kernel_rfl) s11 rfl (by kernel_rfl) (Eng.still_stable _) (Or.inr (Eng.still_any _)) (by kernel_rfl) ?_ ?_
   ·refine Eng.Steps.cons (fun _ => ?_) (Eng.Steps.cons (fun _ => ?_) (Eng.Steps.cons (fun _ => ?_) (Eng.Steps.cons (fun _ => ?_) (Eng.Steps.cons (fun _ => ?_) (Eng.Steps.cons (fun _ => ?_) (Eng.Steps.cons (fun _ => ?_) (Eng.Steps.cons (fun hlt => ?_) (Eng.Steps.cons (fun hlt => ?_) (Eng.Steps.nil)))))))))
    ·refine Eng.plain rfl rfl fun a w' H => ?_
     exact Eng.val (w1 := w') (v := .func (.yield ly) #[] #[]) (Eng.run_move rfl ((H.kept 0 (by kernel_rfl)).trans h0_11)) (Below.refl _ _) rfl
    ·refine Eng.plain rfl rfl fun a w' H => ?_
     have kb := (H.below.block _ lbt_11).trans kbt_11
     have z0 : w'.cell? ⟨bt, 0, none⟩ = some (pv) := (Eng.cells kb 0).trans rfl
     have z1 : w'.cell? ⟨bt, 1, none⟩ = some (bv) := (Eng.cells kb 1).trans rfl
     have z2 : w'.cell? ⟨bt, 2, none⟩ = some (.int .i64 many) := (Eng.cells kb 2).trans rfl
     refine Eng.val (w1 := w') (v := .agg #[pv, bv, .int .i64 many]) ?_ (Below.refl _ _) rfl
     have e0 := ((H.kept 1 (by kernel_rfl)).trans h1_11)
     simp only [execOp, resolve, e0]
     go_simp
    ·refine Eng.plain rfl rfl fun a w' H => ?_
     exact Eng.val (w1 := w') (v := .int .i64 (k : Nat)) (Eng.run_move rfl ((H.kept 3 (by kernel_rfl)).trans h3_11)) (Below.refl _ _) rfl
    ·refine Eng.plain rfl rfl fun a w' H => ?_
     refine Eng.call Tryd.func86 (by kernel_rfl) (by kernel_rfl) rfl #[.agg #[pv, bv, .int .i64 many], .int .i64 (k : Nat)] ?_ ?_
     ·have e0 : a.eval (.tmp 23) = .agg #[pv, bv, .int .i64 many] := (H.dep 1 23 (by kernel_rfl) rfl); have e1 : a.eval (.tmp 24) = .int .i64 (k : Nat) := (H.dep 2 24 (by kernel_rfl) rfl); simp only [List.map_toArray, List.map_cons, List.map_nil, e0, e1]
     refine (Nfa.begin_calls pv bv bs many (k : Nat) _ (Eng.Reads.below Fbb_11 H.below) (by omega)).mono ?_
     rintro e w'' ⟨rfl, hb⟩
     exact ⟨_, rfl, rfl, hb⟩
    ·refine Eng.plain rfl rfl fun a w' H => ?_
     exact Eng.val (w1 := w') (v := .int .i64 (j : Nat)) (Eng.run_move rfl ((H.kept 5 (by kernel_rfl)).trans h5_11)) (Below.refl _ _) rfl
    ·refine Eng.plain rfl rfl fun a w' H => ?_
     refine Eng.val (w1 := w') (v := .int .i64 (IntKind.i64.wrap ((Nfa.beginF bs (k : Nat)) + (j : Nat)))) ?_ (Below.refl _ _) rfl
     have e0 : a.eval (.tmp 25) = .int .i64 (Nfa.beginF bs (k : Nat)) := (H.dep 3 25 (by kernel_rfl) rfl)
     have e1 : a.eval (.tmp 26) = .int .i64 (j : Nat) := (H.dep 4 26 (by kernel_rfl) rfl)
     simp only [execOp, resolve, e0, e1]
     go_simp
    ·refine Eng.plain rfl rfl fun a w' H => ?_
     have kb := (H.below.block _ lg6_11_11).trans kg6_11_11
     have z0 : w'.cell? ⟨g6_11, 0, none⟩ = some (.int .i64 (((ps.getD k []).getD j default).1)) := (Eng.cells kb 0).trans rfl
     have z1 : w'.cell? ⟨g6_11, 1, none⟩ = some (.string (((ps.getD k []).getD j default).2)) := (Eng.cells kb 1).trans rfl
     refine Eng.val (w1 := w') (v := .agg #[.int .i64 (((ps.getD k []).getD j default).1), .string (((ps.getD k []).getD j default).2)]) ?_ (Below.refl _ _) rfl
     have e0 := ((H.kept 6 (by kernel_rfl)).trans h6_11)
     simp only [execOp, resolve, e0]
     go_simp
    ·exact absurd hlt (by decide)
    ·exact absurd hlt (by decide)
   intro act12 w12 T
   have h0_12 := (T.rest 0 (by kernel_rfl)).trans h0_11
   have h1_12 := (T.rest 1 (by kernel_rfl)).trans h1_11
   have h3_12 := (T.rest 3 (by kernel_rfl)).trans h3_11
   have h4_12 := (T.rest 4 (by kernel_rfl)).trans h4_11
   have h8_12 := (T.rest 8 (by kernel_rfl)).trans h8_11
   have h9_12 := (T.rest 9 (by kernel_rfl)).trans h9_11
   have h10_12 := (T.rest 10 (by kernel_rfl)).trans h10_11
   have h11_12 := (T.rest 11 (by kernel_rfl)).trans h11_11
   have h15_12 := (T.rest 15 (by kernel_rfl)).trans h15_11
   have h16_12 := (T.rest 16 (by kernel_rfl)).trans h16_11
   have h17_12 := (T.rest 17 (by kernel_rfl)).trans h17_11
   have h22_12 : act12.eval (.tmp 22) = .func (.yield ly) #[] #[] := T.done 0 22 rfl rfl
   have h27_12 : act12.eval (.tmp 27) = .int .i64 (IntKind.i64.wrap ((Nfa.beginF bs (k : Nat)) + (j : Nat))) := T.done 5 27 rfl rfl
   have h28_12 : act12.eval (.tmp 28) = .agg #[.int .i64 (((ps.getD k []).getD j default).1), .string (((ps.getD k []).getD j default).2)] := T.done 6 28 rfl rfl
   have d12 := T.defers.trans d11
   have s12 := T.size.trans s11
   have J12 := hK _ _ _ J11 T.below
   clear T
   refine EngI.tail_yield (args := Nfa.enc (Nfa.item ps bs k j)) rfl rfl rfl rfl h22_12 (by have e0 : act12.eval (.tmp 27) = .int .i64 (IntKind.i64.wrap ((Nfa.beginF bs (k : Nat)) + (j : Nat))) := h27_12; have e1 : act12.eval (.tmp 28) = .agg #[.int .i64 (((ps.getD k []).getD j default).1), .string (((ps.getD k []).getD j default).2)] := h28_12; simp only [List.map_toArray, List.map_cons, List.map_nil, e0, e1]; rfl) s12 rfl (hY _ _ _ (Nfa.itemsTo_prefix ps bs hk0 hj0) J12) fun w13 act13 J13 d13 s13 hv hr => ?_
   have h0_13 := (hr 0 rfl).trans h0_12
   have h1_13 := (hr 1 rfl).trans h1_12
   have h3_13 := (hr 3 rfl).trans h3_12
   have h4_13 := (hr 4 rfl).trans h4_12
   have h8_13 := (hr 8 rfl).trans h8_12
   have h9_13 := (hr 9 rfl).trans h9_12
   have h10_13 := (hr 10 rfl).trans h10_12
   have h11_13 := (hr 11 rfl).trans h11_12
   have h15_13 := (hr 15 rfl).trans h15_12
   have h16_13 := (hr 16 rfl).trans h16_12
   have h17_13 := (hr 17 rfl).trans h17_12
   have h29_13 : act13.eval (.tmp 29) = .bool true := hv
   have d13 := d13.trans d12
   clear hv hr
   have bl13 := (hT _ _ J13).1
   have kbt_13 := (hT _ _ J13).2
   have lbt_13 := (Array.getElem?_eq_some_iff.1 kbt_13).1
   refine EngI.tail_val EngI.free_wide rfl rfl rfl rfl (Eng.run_not rfl h29_13) s13 rfl fun act14 d14 s14 hv hr => ?_
   have h0_14 := (hr 0 rfl).trans h0_13
   have h1_14 := (hr 1 rfl).trans h1_13
   have h3_14 := (hr 3 rfl).trans h3_13
   have h4_14 := (hr 4 rfl).trans h4_13
   have h8_14 := (hr 8 rfl).trans h8_13
   have h9_14 := (hr 9 rfl).trans h9_13
   have h10_14 := (hr 10 rfl).trans h10_13
   have h11_14 := (hr 11 rfl).trans h11_13
   have h15_14 := (hr 15 rfl).trans h15_13
   have h16_14 := (hr 16 rfl).trans h16_13
   have h17_14 := (hr 17 rfl).trans h17_13
   have h30_14 : act14.eval (.tmp 30) = .bool (!true) := hv
   have d14 := d14.trans d13
   clear hv hr
   refine EngI.tail_nil ?_
   have n30 : (!true) = false := by
    rfl
   refine wp_cond_false (h30_14.trans (by rw [n30])) ?_
   refine wp_skip ?_
   refine Eng.regionS (Eng.still [fun u_ => u_ = .int .i64 (IntKind.i64.wrap ((j : Nat) + 1)), fun u_ => u_ = .int .i64 (IntKind.i64.wrap ((j : Nat) + 1))]) (fun _ => .plain) 2 0 33 s14 rfl (by kernel_rfl) (Eng.still_stable _) (Or.inr (Eng.still_any _)) ?_ ?_
   ·refine Eng.Steps.cons (fun _ => ?_) (Eng.Steps.cons (fun _ => ?_) (Eng.Steps.nil))
    ·refine Eng.plain rfl rfl fun a w' H => ?_
     refine Eng.val (w1 := w') (v := .int .i64 (IntKind.i64.wrap ((j : Nat) + 1))) ?_ (Below.refl _ _) rfl
     have e0 := ((H.kept 17 (by kernel_rfl)).trans h17_14)
     have e1 : a.eval (.const (.int .i64 1)) = .int .i64 1 := (rfl : a.eval (.const (.int .i64 1)) = .int .i64 1)
     simp only [execOp, resolve, e0, e1]
     go_simp
    ·refine Eng.plain rfl rfl fun a w' H => ?_
     exact Eng.val (w1 := w') (v := .int .i64 (IntKind.i64.wrap ((j : Nat) + 1))) (Eng.run_move rfl (H.dep 0 31 (by kernel_rfl) rfl)) (Below.refl _ _) rfl
   intro act15 w15 T
   have h0_15 := (T.rest 0 (by kernel_rfl)).trans h0_14
   have h1_15 := (T.rest 1 (by kernel_rfl)).trans h1_14
   have h3_15 := (T.rest 3 (by kernel_rfl)).trans h3_14
   have h4_15 := (T.rest 4 (by kernel_rfl)).trans h4_14
   have h8_15 := (T.rest 8 (by kernel_rfl)).trans h8_14
   have h9_15 := (T.rest 9 (by kernel_rfl)).trans h9_14
   have h10_15 := (T.rest 10 (by kernel_rfl)).trans h10_14
   have h11_15 := (T.rest 11 (by kernel_rfl)).trans h11_14
   have h15_15 := (T.rest 15 (by kernel_rfl)).trans h15_14
   have h16_15 := (T.rest 16 (by kernel_rfl)).trans h16_14
   have kbt_15 := (T.below.block _ lbt_13).trans kbt_13
   have lbt_15 := Nat.lt_of_lt_of_le lbt_13 T.below.size
   have h17_15 : act15.eval (.tmp 17) = .int .i64 (IntKind.i64.wrap ((j : Nat) + 1)) := T.done 1 17 rfl rfl
   have d15 := T.defers.trans d14
   have s15 := T.size.trans s14
   have bl15 := bl13.trans (T.below.mono bl13.size)
   have J15 := hK _ _ _ J13 T.below
   clear T
   refine Eng.tail_nil ?_
   exact ⟨_, by omega, j + 1, rfl, by omega, by rw [Nfa.itemsTo_succ]; exact J15, d15, s15, bl15, h0_15, h1_15, h3_15, h4_15, h8_15, h9_15, h10_15, h11_15, h15_15, h16_15, (h17_15.trans (by first | rfl | (congr 1; rw [Eng.i64_id (by omega) (by omega)]; omega) | (simp; done))), kbt_15, lbt_15⟩
  ·
   have c18 := Bq18.symm.trans hq
   clear hq
   have c18 := of_decide_eq_false c18
   have hje : j = (ps.getD k []).length := by omega
   refine wp_exit ?_
   refine Eng.regionS (Eng.still [fun u_ => u_ = .int .i64 (IntKind.i64.wrap ((k : Nat) + 1)), fun u_ => u_ = .int .i64 (IntKind.i64.wrap ((k : Nat) + 1))]) (fun _ => .plain) 2 0 33 s9 rfl (by kernel_rfl) (Eng.still_stable _) (Or.inr (Eng.still_any _)) ?_ ?_
   ·refine Eng.Steps.cons (fun _ => ?_) (Eng.Steps.cons (fun _ => ?_) (Eng.Steps.nil))
    ·refine Eng.plain rfl rfl fun a w' H => ?_
     refine Eng.val (w1 := w') (v := .int .i64 (IntKind.i64.wrap ((k : Nat) + 1))) ?_ (Below.refl _ _) rfl
     have e0 := ((H.kept 10 (by kernel_rfl)).trans h10_9)
     have e1 : a.eval (.const (.int .i64 1)) = .int .i64 1 := (rfl : a.eval (.const (.int .i64 1)) = .int .i64 1)
     simp only [execOp, resolve, e0, e1]
     go_simp
    ·refine Eng.plain rfl rfl fun a w' H => ?_
     exact Eng.val (w1 := w') (v := .int .i64 (IntKind.i64.wrap ((k : Nat) + 1))) (Eng.run_move rfl (H.dep 0 32 (by kernel_rfl) rfl)) (Below.refl _ _) rfl
   intro act17 w17 T
   have h0_17 := (T.rest 0 (by kernel_rfl)).trans h0_9
   have h1_17 := (T.rest 1 (by kernel_rfl)).trans h1_9
   have h8_17 := (T.rest 8 (by kernel_rfl)).trans h8_9
   have h9_17 := (T.rest 9 (by kernel_rfl)).trans h9_9
   have kbt_17 := (T.below.block _ lbt_9).trans kbt_9
   have lbt_17 := Nat.lt_of_lt_of_le lbt_9 T.below.size
   have h10_17 : act17.eval (.tmp 10) = .int .i64 (IntKind.i64.wrap ((k : Nat) + 1)) := T.done 1 10 rfl rfl
   have d17 := T.defers.trans d9
   have s17 := T.size.trans s9
   have bl17 := bl9.trans (T.below.mono bl9.size)
   have J17 := hK _ _ _ J9 T.below
   clear T
   refine Eng.tail_nil ?_
   exact ⟨_, by omega, k + 1, rfl, by omega, by rw [← Nfa.itemsTo_end, ← hje]; exact J17, d17, s17, bl17, h0_17, h1_17, h8_17, h9_17, (h10_17.trans (by first | rfl | (congr 1; rw [Eng.i64_id (by omega) (by omega)]; omega) | (simp; done))), kbt_17, lbt_17⟩
 ·
  have c11 := Bq11.symm.trans hq
  clear hq
  have c11 := of_decide_eq_false c11
  refine wp_exit ?_
  obtain rfl : k = ps.length := by omega
  show bodyPost Tryd.prog Tryd.f116 (fun e W' => (∃ v, e = .returned v) ∧ K (Nfa.items ps bs) W') .normal act3 w3
  exact Eng.ret0 rfl d3 fun v => ⟨⟨v, rfl⟩, by rw [← Nfa.itemsTo_all]; exact J3⟩
end Go.Proofs.YthgafcaoibfchaaDoor.X
end
section
namespace Go.Proofs.YthgafcaoibfchaaDoor.X
open Go.RowKit Go.Shelf Go.Proofs Go.Proofs.YthgafcaoibfchaaDoorW.PrintWords Go.Proofs.YthgafcaoibfchaaDoorW.PrintLast Go.Proofs.YthgafcaoibfchaaDoorW.PrintMore
set_option linter.unusedVariables false
set_option linter.unusedSimpArgs false
set_option maxHeartbeats 4000000 in
set_option maxRecDepth 100000 in
theorem Nfa.closed_calls (pv bv : Value) (many : Int) (ps : List (List Pth.Part)) (bs : List Int) (vs : List Value) (s : List Int) (w : World) (hs : s.length = 8) (hvl : vs.length = ps.length) (hp : Eng.Reads w pv ps.length 1 vs) (hin : ∀ k, k < ps.length → Eng.Reads w (vs.getD k undef) (ps.getD k []).length 2 (Pth.cellsP (ps.getD k []))) (hb : Eng.Reads w bv bs.length 1 (Nfa.ints bs)) : Calls Tryd.prog 91 #[.agg #[pv, bv, .int .i64 many], .agg ((List.map (Value.int .u64) s).toArray)] w fun e w' => e = .returned (.agg (List.map (Value.int .u64) (Nfa.closeF s (Nfa.items ps bs))).toArray) ∧ Below w.heap.size w w' := by
 have hu115 := Tryd.underlying115
 refine Eng.enterM (n := 0) Tryd.func91 rfl fun act0 d0 s0 v0 => ?_
 have s0 : act0.tmps.size = 23 := s0
 have h0_0 : act0.eval (.tmp 0) = .agg #[pv, bv, .int .i64 many] := v0 0 (by simp)
 have h1_0 : act0.eval (.tmp 1) = .agg ((List.map (Value.int .u64) s).toArray) := v0 1 (by simp)
 clear v0
 have bl0 : Below w.heap.size w w := Below.refl _ _
 refine wp_seq ?_
 refine Eng.regionS (Eng.still [fun u_ => True, fun u_ => True, fun u_ => True]) (fun i => ([.alloc 65 #[pv, bv, .int .i64 many], .alloc 74 ((List.map (Value.int .u64) s).toArray), .alloc 74 ((List.map (Value.int .u64) (List.replicate 8 0)).toArray)] : List Eng.Kind).getD i .plain) 3 0 23 s0 rfl (by kernel_rfl) (Eng.still_stable _) (Or.inr (Eng.still_any _)) ?_ ?_
 ·refine Eng.Steps.cons (fun _ => ?_) (Eng.Steps.cons (fun _ => ?_) (Eng.Steps.cons (fun _ => ?_) (Eng.Steps.nil)))
  ·refine Eng.made rfl (by simp) rfl (fun a w' hd ho => ?_) (fun _ _ => trivial)
   exact Eng.run_box rfl ((ho 0 (by kernel_rfl)).trans h0_0)
  ·refine Eng.made rfl (by simp) rfl (fun a w' hd ho => ?_) (fun _ _ => trivial)
   exact Eng.run_box rfl ((ho 1 (by kernel_rfl)).trans h1_0)
  ·refine Eng.made rfl (by simp) rfl (fun a w' hd ho => ?_) (fun _ _ => trivial)
   exact Eng.run_alloc rfl (by kernel_rfl)
 intro act1 w1 T
 obtain ⟨g2_1, h2_1, rg2_1, lg2_1_1, kg2_1_1⟩ := T.al 0 2 _ _ rfl rfl rfl (by kernel_rfl)
 obtain ⟨g3_1, h3_1, rg3_1, lg3_1_1, kg3_1_1⟩ := T.al 1 3 _ _ rfl rfl rfl (by kernel_rfl)
 have og3_1 : w.heap.size ≤ g3_1 := Nat.le_trans bl0.size rg3_1
 have ne_g3_1_g2_1 : g2_1 ≠ g3_1 := T.ne 0 1 2 3 rfl rfl rfl rfl rfl rfl h2_1 h3_1 rfl
 obtain ⟨g4_1, h4_1, rg4_1, lg4_1_1, kg4_1_1⟩ := T.al 2 4 _ _ rfl rfl rfl (by kernel_rfl)
 have og4_1 : w.heap.size ≤ g4_1 := Nat.le_trans bl0.size rg4_1
 have ne_g4_1_g3_1 : g3_1 ≠ g4_1 := T.ne 1 2 3 4 rfl rfl rfl rfl rfl rfl h3_1 h4_1 rfl
 have d1 := T.defers.trans d0
 have s1 := T.size.trans s0
 have bl1 := bl0.trans (T.below.mono bl0.size)
 clear T
 refine Eng.tail_nil ?_
 refine wp_seq ?_
 refine wp_seq ?_
 refine (wpIn_wide (n := 1)).1 ?_
 refine EngI.regionS EngI.free_wide (Eng.still [fun u_ => u_ = .agg #[pv, bv, .int .i64 many]]) (fun _ => .plain) 1 1 23 s1 rfl (by kernel_rfl) (Eng.still_stable _) (Or.inr (Eng.still_any _)) (by kernel_rfl) ?_ ?_
 ·refine Eng.Steps.cons (fun _ => ?_) (Eng.Steps.cons (fun hlt => ?_) (Eng.Steps.nil))
  ·refine Eng.plain rfl rfl fun a w' H => ?_
   have kb := (H.below.block _ lg2_1_1).trans kg2_1_1
   have z0 : w'.cell? ⟨g2_1, 0, none⟩ = some (pv) := (Eng.cells kb 0).trans rfl
   have z1 : w'.cell? ⟨g2_1, 1, none⟩ = some (bv) := (Eng.cells kb 1).trans rfl
   have z2 : w'.cell? ⟨g2_1, 2, none⟩ = some (.int .i64 many) := (Eng.cells kb 2).trans rfl
   refine Eng.val (w1 := w') (v := .agg #[pv, bv, .int .i64 many]) ?_ (Below.refl _ _) rfl
   have e0 := ((H.kept 2 (by kernel_rfl)).trans h2_1)
   simp only [execOp, resolve, e0]
   go_simp
  ·exact absurd hlt (by decide)
 intro act2 w2 T
 have h3_2 := (T.rest 3 (by kernel_rfl)).trans h3_1
 have h4_2 := (T.rest 4 (by kernel_rfl)).trans h4_1
 have kg2_1_2 := (T.below.block _ lg2_1_1).trans kg2_1_1
 have lg2_1_2 := Nat.lt_of_lt_of_le lg2_1_1 T.below.size
 have kg3_1_2 := (T.below.block _ lg3_1_1).trans kg3_1_1
 have lg3_1_2 := Nat.lt_of_lt_of_le lg3_1_1 T.below.size
 have kg4_1_2 := (T.below.block _ lg4_1_1).trans kg4_1_1
 have lg4_1_2 := Nat.lt_of_lt_of_le lg4_1_1 T.below.size
 have h7_2 : act2.eval (.tmp 7) = .agg #[pv, bv, .int .i64 many] := T.done 0 7 rfl rfl
 have d2 := T.defers.trans d1
 have s2 := T.size.trans s1
 have bl2 := bl1.trans (T.below.mono bl1.size)
 clear T
 refine EngI.tail_call EngI.free_wide Tryd.func89 (by kernel_rfl) (by kernel_rfl) rfl rfl rfl rfl #[.agg #[pv, bv, .int .i64 many]] (by have e0 : act2.eval (.tmp 7) = .agg #[pv, bv, .int .i64 many] := h7_2; simp only [List.map_toArray, List.map_cons, List.map_nil, e0]) s2 rfl (R := fun v w' => ∃ bt, v = .func (.func 116) #[] #[.pointer (some ⟨bt, 0, none⟩)] ∧ w2.heap.size ≤ bt ∧ bt < w'.heap.size ∧ w'.heap[bt]? = some (.cells #[pv, bv, .int .i64 many] 65 (0, 0)) ∧ Below w2.heap.size w2 w') ((Nfa.parts_calls pv bv many _).mono ?_) fun v_3 w3 act3 R d3 s3 hv hr => ?_
 ·rintro e w1 ⟨bt, rfl, h1, h2, h3, h4⟩; exact ⟨_, rfl, bt, rfl, h1, h2, h3, h4⟩
 have h3_3 := (hr 3 rfl).trans h3_2
 have h4_3 := (hr 4 rfl).trans h4_2
 have h8_3 : act3.eval (.tmp 8) = v_3 := hv
 have d3 := d3.trans d2
 clear hv hr
 obtain ⟨bt, hv1, hlo, hlt, hbt, hb3⟩ := R
 rw [hv1] at h8_3
 have kg2_1_3 := (hb3.block _ lg2_1_2).trans kg2_1_2
 have lg2_1_3 := Nat.lt_of_lt_of_le lg2_1_2 hb3.size
 have kg3_1_3 := (hb3.block _ lg3_1_2).trans kg3_1_2
 have lg3_1_3 := Nat.lt_of_lt_of_le lg3_1_2 hb3.size
 have ne_bt_g3_1 : g3_1 ≠ bt := fun e => Nat.lt_irrefl _ (Nat.lt_of_lt_of_le (e ▸ lg3_1_2) hlo)
 have kg4_1_3 := (hb3.block _ lg4_1_2).trans kg4_1_2
 have lg4_1_3 := Nat.lt_of_lt_of_le lg4_1_2 hb3.size
 have bl3 := bl2.trans (hb3.mono bl2.size)
 refine EngI.tail_nil ?_
 refine wp_block ?_
 refine Eng.range_rule (n := 0) (m := 0) (Nfa.items ps bs) Nfa.enc (fun pre W_ => Below w.heap.size w W_ ∧ W_.heap[g2_1]? = some (.cells (#[pv, bv, .int .i64 many]) 65 (0, 0)) ∧ W_.heap[g3_1]? = some (.cells ((List.map (Value.int .u64) (Nfa.closeF s pre)).toArray) 74 (0, 0)) ∧ W_.heap[g4_1]? = some (.cells ((List.map (Value.int .u64) (List.replicate 8 0)).toArray) 74 (0, 0)) ∧ W_.heap[bt]? = some (.cells (#[pv, bv, .int .i64 many]) 65 (0, 0))) h8_3 (Eng.enters Tryd.func116 (by kernel_rfl) rfl) (fun _ => rfl) ?_ ?_ ?_ ?_ ?_
 ·exact ⟨bl3, kg2_1_3, kg3_1_3, kg4_1_3, hbt⟩
 ·rintro pre W1 W2 ⟨b, k0, k1, k2, k3⟩ hb; exact ⟨b.trans (hb.mono bl3.size), (hb.block _ lg2_1_3).trans k0, (hb.block _ lg3_1_3).trans k1, (hb.block _ lg4_1_3).trans k2, (hb.block _ hlt).trans k3⟩
 ·exact fun lp K hK hKJ hY W0 h0 => Nfa.parts_in 0 lp bt w pv bv many ps bs vs hvl hp hin hb K hK (fun pre W h => ⟨(hKJ _ _ h).1, (hKJ _ _ h).2.2.2.2⟩) hY W0 h0
 ·
  rintro pre x w5 lp act5 hpre ⟨bl5, kg2_1_5, kg3_1_5, kg4_1_5, kbt_5⟩ hV5 hl5 d5 ht
  obtain ⟨s5, h9_5, h10_5, hr⟩ := Eng.range_act2 (v0 := .int .i64 x.1) (v1 := .agg #[.int .i64 x.2.1, .string x.2.2]) ht s3 rfl rfl rfl
  have h3_5 := (hr 3 rfl).trans h3_3
  clear hr ht
  have lg2_1_5 := (Array.getElem?_eq_some_iff.1 kg2_1_5).1
  have lg3_1_5 := (Array.getElem?_eq_some_iff.1 kg3_1_5).1
  have lg4_1_5 := (Array.getElem?_eq_some_iff.1 kg4_1_5).1
  have lbt_5 := (Array.getElem?_eq_some_iff.1 kbt_5).1
  have kp5 := Eng.Kept.refl w3.heap.size w5
  refine wpIn_seq ?_
  refine EngI.regionS (EngI.free_wide.inRound lp) (Eng.still [fun u_ => u_ = .int .i64 x.1]) (fun _ => .plain) 1 0 23 s5 rfl (by kernel_rfl) (Eng.still_stable _) (Or.inr (Eng.still_any _)) (by kernel_rfl) ?_ ?_
  ·refine Eng.Steps.cons (fun _ => ?_) (Eng.Steps.nil)
   ·refine Eng.plain rfl rfl fun a w' H => ?_
    exact Eng.val (w1 := w') (v := .int .i64 x.1) (Eng.run_assign rfl ((H.kept 9 (by kernel_rfl)).trans h9_5)) (Below.refl _ _) rfl
  intro act6 w6 T
  have h3_6 := (T.rest 3 (by kernel_rfl)).trans h3_5
  have h10_6 := (T.rest 10 (by kernel_rfl)).trans h10_5
  have kg2_1_6 := (T.below.block _ lg2_1_5).trans kg2_1_5
  have lg2_1_6 := Nat.lt_of_lt_of_le lg2_1_5 T.below.size
  have kg3_1_6 := (T.below.block _ lg3_1_5).trans kg3_1_5
  have lg3_1_6 := Nat.lt_of_lt_of_le lg3_1_5 T.below.size
  have kg4_1_6 := (T.below.block _ lg4_1_5).trans kg4_1_5
  have lg4_1_6 := Nat.lt_of_lt_of_le lg4_1_5 T.below.size
  have kbt_6 := (T.below.block _ lbt_5).trans kbt_5
  have lbt_6 := Nat.lt_of_lt_of_le lbt_5 T.below.size
  have h5_6 : act6.eval (.tmp 5) = .int .i64 x.1 := T.done 0 5 rfl rfl
  have s6 := T.size.trans s5
  have bl6 := bl5.trans (T.below.mono bl5.size)
  have kp6 := kp5.trans (Eng.Kept.below T.below)
  clear T
  refine EngI.tail_nil ?_
  first | show Code.wpIn _ _ Tryd.prog _ _ _ _ | skip
  refine EngI.regionS (EngI.free_wide.inRound lp) (Eng.still [fun u_ => True, fun u_ => True]) (fun i => ([.alloc 115 #[.int .i64 0, .string ⟨#[]⟩], .store 0 #[.int .i64 x.2.1, .string x.2.2]] : List Eng.Kind).getD i .plain) 2 0 23 s6 rfl (by kernel_rfl) (Eng.still_stable _) (Or.inr (Eng.still_any _)) (by kernel_rfl) ?_ ?_
  ·refine Eng.Steps.cons (fun _ => ?_) (Eng.Steps.cons (fun _ => ?_) (Eng.Steps.nil))
   ·refine Eng.made rfl (by simp) rfl (fun a w' hd ho => ?_) (fun _ _ => trivial)
    simp only [execOp]
    go_simp
   ·refine Eng.stored [.int .i64 x.2.1, .string x.2.2] rfl rfl rfl (j := 0) (d := 6) (by kernel_rfl) rfl rfl (Eng.store_uniq (by kernel_rfl)) rfl rfl fun a w' g e hc hd ho => ?_
    have e0 : a.eval _ = .agg #[.int .i64 x.2.1, .string x.2.2] := ((ho 10 (by kernel_rfl)).trans h10_6)
    have z0 := (Eng.cells hc 0).trans rfl
    have z1 := (Eng.cells hc 1).trans rfl
    have f0 := Eng.unfrozen hc 0
    have f1 := Eng.unfrozen hc 1
    simp only [execOp, e, e0]
    go_simp
    rfl
  intro act7 w7 T
  have h3_7 := (T.rest 3 (by kernel_rfl)).trans h3_6
  have h5_7 := (T.rest 5 (by kernel_rfl)).trans h5_6
  have kg2_1_7 := (T.below.block _ lg2_1_6).trans kg2_1_6
  have kg3_1_7 := (T.below.block _ lg3_1_6).trans kg3_1_6
  have kg4_1_7 := (T.below.block _ lg4_1_6).trans kg4_1_6
  have kbt_7 := (T.below.block _ lbt_6).trans kbt_6
  obtain ⟨g6_7, h6_7, rg6_7, lg6_7_7, kg6_7_7⟩ := T.st 0 6 1 _ _ _ rfl rfl rfl rfl rfl
  have rrg6_7 := Nat.le_trans kp6.size rg6_7
  have s7 := T.size.trans s6
  have bl7 := bl6.trans (T.below.mono bl6.size)
  have kp7 := kp6.trans (Eng.Kept.below T.below)
  clear T
  refine EngI.tail_nil ?_
  refine ⟨kp7, ⟨bl7, kg2_1_7, kg3_1_7, kg4_1_7, kbt_7⟩, ?_⟩
  rintro w8 hfar hsz hb2 ⟨bl8, kg2_1_8, kg3_1_8, kg4_1_8, kbt_8⟩
  have lg2_1_8 := (Array.getElem?_eq_some_iff.1 kg2_1_8).1
  have lg3_1_8 := (Array.getElem?_eq_some_iff.1 kg3_1_8).1
  have lg4_1_8 := (Array.getElem?_eq_some_iff.1 kg4_1_8).1
  have lbt_8 := (Array.getElem?_eq_some_iff.1 kbt_8).1
  have kg6_7_8 := (hfar _ (fun e => Nat.lt_irrefl _ (Nat.lt_of_lt_of_le (e ▸ hl5) rrg6_7))).trans kg6_7_7
  have lg6_7_8 := Nat.lt_of_lt_of_eq lg6_7_7 hsz.symm
  have kp8 := Eng.Kept.refl w3.heap.size w8
  clear hfar hb2
  refine wpIn_block ?_
  refine wpIn_seq ?_
  obtain ⟨q13, Bq13⟩ : ∃ b : Bool, b = (x.2.1 == 2) := ⟨_, rfl⟩
  obtain ⟨q17, Bq17⟩ : ∃ b : Bool, b = (Nfa.has (Nfa.closeF s pre) x.1) := ⟨_, rfl⟩
  obtain ⟨q18, Bq18⟩ : ∃ b : Bool, b = (q13 && q17) := ⟨_, rfl⟩
  refine EngI.regionS (EngI.free_wide.inRound lp) (Eng.still [fun u_ => u_ = .pointer (some ⟨g6_7, 0, none⟩), fun u_ => u_ = .int .i64 x.2.1, fun u_ => u_ = .bool q13, fun u_ => u_ = .bool q13, fun u_ => u_ = bif (q13 == true) then (.agg ((List.map (Value.int .u64) (Nfa.closeF s pre)).toArray)) else undef, fun u_ => u_ = bif (q13 == true) then (.int .i64 x.1) else undef, fun u_ => u_ = bif (q13 == true) then (.bool q17) else undef, fun u_ => u_ = .bool q18]) (fun _ => .plain) 8 0 23 s7 rfl (by kernel_rfl) (Eng.still_stable _) (Or.inr (Eng.still_any _)) (by kernel_rfl) ?_ ?_
  ·refine Eng.Steps.cons (fun _ => ?_) (Eng.Steps.cons (fun _ => ?_) (Eng.Steps.cons (fun _ => ?_) (Eng.Steps.cons (fun _ => ?_) (Eng.Steps.cons (fun _ => ?_) (Eng.Steps.cons (fun _ => ?_) (Eng.Steps.cons (fun _ => ?_) (Eng.Steps.cons (fun _ => ?_) (Eng.Steps.nil))))))))
   ·refine Eng.plain rfl rfl fun a w' H => ?_
    refine Eng.val (w1 := w') (v := .pointer (some ⟨g6_7, 0, none⟩)) ?_ (Below.refl _ _) rfl
    have e0 := ((H.kept 6 (by kernel_rfl)).trans h6_7)
    simp only [execOp, resolve, e0]
    go_simp
   ·refine Eng.plain rfl rfl fun a w' H => ?_
    have kb := (H.below.block _ lg6_7_8).trans kg6_7_8
    have z0 : w'.cell? ⟨g6_7, 0, none⟩ = some (.int .i64 x.2.1) := (Eng.cells kb 0).trans rfl
    refine Eng.val (w1 := w') (v := .int .i64 x.2.1) ?_ (Below.refl _ _) rfl
    have e0 : a.eval (.tmp 11) = .pointer (some ⟨g6_7, 0, none⟩) := (H.dep 0 11 (by kernel_rfl) rfl)
    simp only [execOp, resolve, e0]
    go_simp
   ·refine Eng.plain rfl rfl fun a w' H => ?_
    refine Eng.val (w1 := w') (v := .bool (x.2.1 == 2)) ?_ (Below.refl _ _) (by show _ = Value.bool q13; rw [Bq13])
    have e0 : a.eval (.tmp 12) = .int .i64 x.2.1 := (H.dep 1 12 (by kernel_rfl) rfl)
    have e1 : a.eval (.const (.int .i64 2)) = .int .i64 2 := (rfl : a.eval (.const (.int .i64 2)) = .int .i64 2)
    simp only [execOp, resolve, e0, e1]
    go_simp
   ·refine Eng.plain rfl rfl fun a w' H => ?_
    exact Eng.val (w1 := w') (v := .bool q13) (Eng.run_move rfl (H.dep 2 13 (by kernel_rfl) rfl)) (Below.refl _ _) rfl
   ·refine Eng.guarded1 (j := 3) (d := 14) (b := q13) rfl rfl (by kernel_rfl) rfl (fun v w h => h) (fun hG w => Eng.off hG) fun hG a w' H => ?_
    have kb := (H.below.block _ lg3_1_8).trans kg3_1_8
    refine Eng.val (w1 := w') (v := .agg ((List.map (Value.int .u64) (Nfa.closeF s pre)).toArray)) ?_ (Below.refl _ _) (Eng.off' hG rfl)
    exact Eng.run_load_all rfl ((H.kept 3 (by kernel_rfl)).trans h3_7) kb Tryd.underlying74 rfl (by rw [Nfa.cells_size ((Nfa.closeF_len _ _).trans hs)]; kernel_rfl)
   ·refine Eng.guarded1 (j := 3) (d := 14) (b := q13) rfl rfl (by kernel_rfl) rfl (fun v w h => h) (fun hG w => Eng.off hG) fun hG a w' H => ?_
    exact Eng.val (w1 := w') (v := .int .i64 x.1) (Eng.run_move rfl ((H.kept 5 (by kernel_rfl)).trans h5_7)) (Below.refl _ _) (Eng.off' hG rfl)
   ·refine Eng.guarded1 (j := 3) (d := 14) (b := q13) rfl rfl (by kernel_rfl) rfl (fun v w h => h) (fun hG w => Eng.off hG) fun hG a w' H => ?_
    refine Eng.call Tryd.func85 (by kernel_rfl) (by kernel_rfl) rfl #[.agg ((List.map (Value.int .u64) (Nfa.closeF s pre)).toArray), .int .i64 x.1] ?_ ?_
    ·have e0 : a.eval (.tmp 15) = .agg ((List.map (Value.int .u64) (Nfa.closeF s pre)).toArray) := (Eng.on (H.dep 4 15 (by kernel_rfl) rfl) hG); have e1 : a.eval (.tmp 16) = .int .i64 x.1 := (Eng.on (H.dep 5 16 (by kernel_rfl) rfl) hG); simp only [List.map_toArray, List.map_cons, List.map_nil, e0, e1]
    refine (Nfa.has_calls (Nfa.closeF s pre) x.1 _ ((Nfa.closeF_len _ _).trans hs)).mono ?_
    rintro e w'' ⟨rfl, hb⟩
    exact ⟨_, rfl, (Eng.off' hG (by rw [Bq17])), hb⟩
   ·refine Eng.plain rfl rfl fun a w' H => ?_
    exact Eng.val (w1 := w') (v := .bool (q13 && q17)) (Eng.run_and rfl rfl (G := true) (H.dep 3 14 (by kernel_rfl) rfl) (fun hb => (Eng.on (H.dep 6 17 (by kernel_rfl) rfl) (Eng.mk1 hb)))) (Below.refl _ _) (by show _ = Value.bool q18; rw [Bq18])
  intro act9 w9 T
  have h3_9 := (T.rest 3 (by kernel_rfl)).trans h3_7
  have h5_9 := (T.rest 5 (by kernel_rfl)).trans h5_7
  have kg2_1_9 := (T.below.block _ lg2_1_8).trans kg2_1_8
  have lg2_1_9 := Nat.lt_of_lt_of_le lg2_1_8 T.below.size
  have kg3_1_9 := (T.below.block _ lg3_1_8).trans kg3_1_8
  have lg3_1_9 := Nat.lt_of_lt_of_le lg3_1_8 T.below.size
  have kg4_1_9 := (T.below.block _ lg4_1_8).trans kg4_1_8
  have lg4_1_9 := Nat.lt_of_lt_of_le lg4_1_8 T.below.size
  have kbt_9 := (T.below.block _ lbt_8).trans kbt_8
  have lbt_9 := Nat.lt_of_lt_of_le lbt_8 T.below.size
  have h18_9 : act9.eval (.tmp 18) = .bool q18 := T.done 7 18 rfl rfl
  have s9 := T.size.trans s7
  have bl9 := bl8.trans (T.below.mono bl8.size)
  have kp9 := kp8.trans (Eng.Kept.below T.below)
  clear T
  refine EngI.tail_nil ?_
  first | show Code.wpIn _ _ Tryd.prog _ _ _ _ | skip
  refine wpIn_cond_split h18_9 (fun hq => ?_) (fun hq => ?_)
  ·
   have c18 := Bq18.symm.trans hq
   clear hq
   rw [Bq13, Bq17] at c18
   refine EngI.regionS (EngI.free_wide.inRound lp) (Eng.still [fun u_ => u_ = .int .i64 x.1, fun u_ => u_ = .int .i64 (IntKind.i64.wrap (x.1 + 1))]) (fun _ => .plain) 2 1 23 s9 rfl (by kernel_rfl) (Eng.still_stable _) (Or.inr (Eng.still_any _)) (by kernel_rfl) ?_ ?_
   ·refine Eng.Steps.cons (fun _ => ?_) (Eng.Steps.cons (fun _ => ?_) (Eng.Steps.cons (fun hlt => ?_) (Eng.Steps.nil)))
    ·refine Eng.plain rfl rfl fun a w' H => ?_
     exact Eng.val (w1 := w') (v := .int .i64 x.1) (Eng.run_move rfl ((H.kept 5 (by kernel_rfl)).trans h5_9)) (Below.refl _ _) rfl
    ·refine Eng.plain rfl rfl fun a w' H => ?_
     refine Eng.val (w1 := w') (v := .int .i64 (IntKind.i64.wrap (x.1 + 1))) ?_ (Below.refl _ _) rfl
     have e0 : a.eval (.tmp 19) = .int .i64 x.1 := (H.dep 0 19 (by kernel_rfl) rfl)
     have e1 : a.eval (.const (.int .i64 1)) = .int .i64 1 := (rfl : a.eval (.const (.int .i64 1)) = .int .i64 1)
     simp only [execOp, resolve, e0, e1]
     go_simp
    ·exact absurd hlt (by decide)
   intro act11 w11 T
   have h3_11 := (T.rest 3 (by kernel_rfl)).trans h3_9
   have kg2_1_11 := (T.below.block _ lg2_1_9).trans kg2_1_9
   have lg2_1_11 := Nat.lt_of_lt_of_le lg2_1_9 T.below.size
   have kg3_1_11 := (T.below.block _ lg3_1_9).trans kg3_1_9
   have kg4_1_11 := (T.below.block _ lg4_1_9).trans kg4_1_9
   have lg4_1_11 := Nat.lt_of_lt_of_le lg4_1_9 T.below.size
   have kbt_11 := (T.below.block _ lbt_9).trans kbt_9
   have lbt_11 := Nat.lt_of_lt_of_le lbt_9 T.below.size
   have h20_11 : act11.eval (.tmp 20) = .int .i64 (IntKind.i64.wrap (x.1 + 1)) := T.done 1 20 rfl rfl
   have s11 := T.size.trans s9
   have bl11 := bl9.trans (T.below.mono bl9.size)
   have kp11 := kp9.trans (Eng.Kept.below T.below)
   clear T
   refine EngI.tail_call (EngI.free_wide.inRound lp) Tryd.func90 (by kernel_rfl) (by kernel_rfl) rfl rfl rfl rfl #[.pointer (some ⟨g3_1, 0, none⟩), .int .i64 (IntKind.i64.wrap (x.1 + 1))] (by have e0 : act11.eval (.tmp 3) = .pointer (some ⟨g3_1, 0, none⟩) := h3_11; have e1 : act11.eval (.tmp 20) = .int .i64 (IntKind.i64.wrap (x.1 + 1)) := h20_11; simp only [List.map_toArray, List.map_cons, List.map_nil, e0, e1]) s11 rfl (R := fun _ w' => Eng.Turns w11 w' g3_1 (.cells ((List.map (Value.int .u64) (Nfa.put (Nfa.closeF s pre) (IntKind.i64.wrap (x.1 + 1)))).toArray) 74 (0, 0))) ((Nfa.put_calls g3_1 (Nfa.closeF s pre) (IntKind.i64.wrap (x.1 + 1)) _ ((Nfa.closeF_len _ _).trans hs) kg3_1_11).mono ?_) fun v_12 w12 act12 R d12 s12 hv hr => ?_
   ·rintro e w1 ⟨v, rfl, R⟩; exact ⟨v, rfl, R⟩
   clear hv hr
   have bl12 := Eng.Turns.below R bl11 og3_1 (Nat.le_refl _)
   have kp12 := kp11.trans (Eng.Turns.kept R lg3_1_3)
   have kg2_1_12 := (R.far _ ne_g3_1_g2_1 lg2_1_11).trans kg2_1_11
   have kg3_1_12 := R.new
   have kg4_1_12 := (R.far _ ne_g4_1_g3_1.symm lg4_1_11).trans kg4_1_11
   have kbt_12 := (R.far _ ne_bt_g3_1.symm lbt_11).trans kbt_11
   clear R
   refine EngI.tail_nil ?_
   exact ⟨rfl, ⟨bl12, kg2_1_12, (kg3_1_12.trans (by rw [Nfa.closeF_snoc]; first | (rw [if_pos c18]; done) | (rw [if_neg (by rw [c18]; simp)]; done))), kg4_1_12, kbt_12⟩, kp12⟩
  ·
   have c18 := Bq18.symm.trans hq
   clear hq
   rw [Bq13, Bq17] at c18
   refine wpIn_skip ?_
   exact ⟨rfl, ⟨bl9, kg2_1_9, (kg3_1_9.trans (by rw [Nfa.closeF_snoc]; first | (rw [if_pos c18]; done) | (rw [if_neg (by rw [c18]; simp)]; done))), kg4_1_9, kbt_9⟩, kp9⟩
 ·
  rintro w14 act14 ⟨bl14, kg2_1_14, kg3_1_14, kg4_1_14, kbt_14⟩ ht hd hD14
  have h3_14 : act14.eval (.tmp 3) = .pointer (some ⟨g3_1, 0, none⟩) := (Eng.act_eval ht 3).trans h3_3
  have h4_14 : act14.eval (.tmp 4) = .pointer (some ⟨g4_1, 0, none⟩) := (Eng.act_eval ht 4).trans h4_3
  have s14 : act14.tmps.size = 23 := by rw [ht]; exact s3
  have d14 := hd.trans (congrArg _ d3)
  clear ht hd
  have lg3_1_14 := (Array.getElem?_eq_some_iff.1 kg3_1_14).1
  have lg4_1_14 := (Array.getElem?_eq_some_iff.1 kg4_1_14).1
  refine wp_seq ?_
  refine Eng.regionS (Eng.still [fun u_ => u_ = .agg ((List.map (Value.int .u64) (Nfa.closeF s (Nfa.items ps bs))).toArray)]) (fun _ => .plain) 1 1 23 s14 rfl (by kernel_rfl) (Eng.still_stable _) (Or.inr (Eng.still_any _)) ?_ ?_
  ·refine Eng.Steps.cons (fun _ => ?_) (Eng.Steps.cons (fun hlt => ?_) (Eng.Steps.nil))
   ·refine Eng.plain rfl rfl fun a w' H => ?_
    have kb := (H.below.block _ lg3_1_14).trans kg3_1_14
    refine Eng.val (w1 := w') (v := .agg ((List.map (Value.int .u64) (Nfa.closeF s (Nfa.items ps bs))).toArray)) ?_ (Below.refl _ _) rfl
    exact Eng.run_load_all rfl ((H.kept 3 (by kernel_rfl)).trans h3_14) kb Tryd.underlying74 rfl (by rw [Nfa.cells_size ((Nfa.closeF_len _ _).trans hs)]; kernel_rfl)
   ·exact absurd hlt (by decide)
  intro act15 w15 T
  have h4_15 := (T.rest 4 (by kernel_rfl)).trans h4_14
  have kg4_1_15 := (T.below.block _ lg4_1_14).trans kg4_1_14
  have h22_15 : act15.eval (.tmp 22) = .agg ((List.map (Value.int .u64) (Nfa.closeF s (Nfa.items ps bs))).toArray) := T.done 0 22 rfl rfl
  have d15 := T.defers.trans d14
  have bl15 := bl14.trans (T.below.mono bl14.size)
  have D15 := (T.below.block _ (Array.getElem?_eq_some_iff.1 hD14).1).trans hD14
  clear T
  refine Eng.tail_arr rfl rfl rfl rfl h4_15 h22_15 kg4_1_15 (by rw [Nfa.cells_size ((Nfa.closeF_len _ _).trans hs)]; kernel_rfl) ((Nfa.cells_size (by simp)).trans (Nfa.cells_size ((Nfa.closeF_len _ _).trans hs)).symm) (by simp [Value.oneCell']) fun w16 S => ?_
  have kg4_1_16 := S.new
  have bl16 := S.below bl15 og4_1
  have D16 := (S.far _ (Eng.def_ne D15 kg4_1_15)).trans D15
  clear S
  refine Eng.tail_nil ?_
  refine wp_ret ?_
  repeat (first | refine Eng.in_ret ?_ | refine Eng.then_ret ?_)
  exact Eng.retcM rfl d15 D16 h4_15 kg4_1_16 Tryd.underlying74 rfl (by rw [Nfa.cells_size ((Nfa.closeF_len _ _).trans hs)]; kernel_rfl) fun w1 hb => ⟨rfl, bl16.trans (hb.mono bl3.size)⟩
end Go.Proofs.YthgafcaoibfchaaDoor.X
end
section
namespace Go.Proofs.YthgafcaoibfchaaDoor.X
open Go.RowKit Go.Shelf Go.Proofs Go.Proofs.YthgafcaoibfchaaDoorW.PrintWords Go.Proofs.YthgafcaoibfchaaDoorW.PrintLast Go.Proofs.YthgafcaoibfchaaDoorW.PrintMore
set_option linter.unusedVariables false
set_option linter.unusedSimpArgs false
set_option maxHeartbeats 4000000 in
set_option maxRecDepth 100000 in
theorem Nfa.start_calls (pv bv : Value) (many : Int) (ps : List (List Pth.Part)) (bs : List Int) (vs : List Value) (w : World) (hvl : vs.length = ps.length) (hp : Eng.Reads w pv ps.length 1 vs) (hin : ∀ k, k < ps.length → Eng.Reads w (vs.getD k undef) (ps.getD k []).length 2 (Pth.cellsP (ps.getD k []))) (hb : Eng.Reads w bv bs.length 1 (Nfa.ints bs)) : Calls Tryd.prog 50 #[.agg #[pv, bv, .int .i64 many]] w fun e w' => e = .returned (.agg (List.map (Value.int .u64) (Nfa.start ps bs)).toArray) ∧ Below w.heap.size w w' := by
 have hm := Eng.Reads.len_le hp
 refine Eng.enter Tryd.func50 rfl fun act0 d0 s0 v0 => ?_
 have s0 : act0.tmps.size = 18 := s0
 have h0_0 : act0.eval (.tmp 0) = .agg #[pv, bv, .int .i64 many] := v0 0 (by simp)
 clear v0
 have bl0 : Below w.heap.size w w := Below.refl _ _
 refine wp_seq ?_
 refine Eng.regionS (Eng.still [fun u_ => True, fun u_ => True]) (fun i => ([.alloc 65 #[pv, bv, .int .i64 many], .alloc 74 ((List.map (Value.int .u64) (List.replicate 8 0)).toArray)] : List Eng.Kind).getD i .plain) 2 0 18 s0 rfl (by kernel_rfl) (Eng.still_stable _) (Or.inr (Eng.still_any _)) ?_ ?_
 ·refine Eng.Steps.cons (fun _ => ?_) (Eng.Steps.cons (fun _ => ?_) (Eng.Steps.nil))
  ·refine Eng.made rfl (by simp) rfl (fun a w' hd ho => ?_) (fun _ _ => trivial)
   exact Eng.run_box rfl ((ho 0 (by kernel_rfl)).trans h0_0)
  ·refine Eng.made rfl (by simp) rfl (fun a w' hd ho => ?_) (fun _ _ => trivial)
   exact Eng.run_alloc rfl (by kernel_rfl)
 intro act1 w1 T
 have h0_1 := (T.rest 0 (by kernel_rfl)).trans h0_0
 have Fpp_1 := Eng.Reads.below hp T.below
 obtain ⟨g1_1, h1_1, rg1_1, lg1_1_1, kg1_1_1⟩ := T.al 0 1 _ _ rfl rfl rfl (by kernel_rfl)
 obtain ⟨g2_1, h2_1, rg2_1, lg2_1_1, kg2_1_1⟩ := T.al 1 2 _ _ rfl rfl rfl (by kernel_rfl)
 have og2_1 : w.heap.size ≤ g2_1 := Nat.le_trans bl0.size rg2_1
 have ne_g2_1_g1_1 : g1_1 ≠ g2_1 := T.ne 0 1 1 2 rfl rfl rfl rfl rfl rfl h1_1 h2_1 rfl
 have d1 := T.defers.trans d0
 have s1 := T.size.trans s0
 have bl1 := bl0.trans (T.below.mono bl0.size)
 clear T
 refine Eng.tail_nil ?_
 refine wp_seq ?_
 refine wp_seq ?_
 refine Eng.regionS (Eng.still [fun u_ => u_ = .pointer (some ⟨g1_1, 0, none⟩), fun u_ => u_ = pv, fun u_ => u_ = .int .i64 ((ps.length : Nat) : Int), fun u_ => u_ = .int .i64 0]) (fun _ => .plain) 4 0 18 s1 rfl (by kernel_rfl) (Eng.still_stable _) (Or.inr (Eng.still_any _)) ?_ ?_
 ·refine Eng.Steps.cons (fun _ => ?_) (Eng.Steps.cons (fun _ => ?_) (Eng.Steps.cons (fun _ => ?_) (Eng.Steps.cons (fun _ => ?_) (Eng.Steps.nil))))
  ·refine Eng.plain rfl rfl fun a w' H => ?_
   refine Eng.val (w1 := w') (v := .pointer (some ⟨g1_1, 0, none⟩)) ?_ (Below.refl _ _) rfl
   have e0 := ((H.kept 1 (by kernel_rfl)).trans h1_1)
   simp only [execOp, resolve, e0]
   go_simp
  ·refine Eng.plain rfl rfl fun a w' H => ?_
   have kb := (H.below.block _ lg1_1_1).trans kg1_1_1
   have z0 : w'.cell? ⟨g1_1, 0, none⟩ = some (pv) := (Eng.cells kb 0).trans rfl
   refine Eng.val (w1 := w') (v := pv) ?_ (Below.refl _ _) rfl
   have e0 : a.eval (.tmp 4) = .pointer (some ⟨g1_1, 0, none⟩) := (H.dep 0 4 (by kernel_rfl) rfl)
   simp only [execOp, resolve, e0]
   go_simp
  ·refine Eng.plain rfl rfl fun a w' H => ?_
   refine Eng.val (w1 := w') (v := .int .i64 ((ps.length : Nat) : Int)) ?_ (Below.refl _ _) rfl
   exact Eng.run_len_sl rfl Tryd.underlying62 (show a.eval (.tmp 5) = pv from (H.dep 1 5 (by kernel_rfl) rfl)) (Eng.Reads.below Fpp_1 H.below)
  ·refine Eng.plain rfl rfl fun a w' H => ?_
   exact Eng.val (w1 := w') (v := .int .i64 0) (Eng.run_move rfl (rfl : a.eval (.const (.int .i64 0)) = .int .i64 0)) (Below.refl _ _) rfl
 intro act2 w2 T
 have h0_2 := (T.rest 0 (by kernel_rfl)).trans h0_1
 have h1_2 := (T.rest 1 (by kernel_rfl)).trans h1_1
 have h2_2 := (T.rest 2 (by kernel_rfl)).trans h2_1
 have kg1_1_2 := (T.below.block _ lg1_1_1).trans kg1_1_1
 have lg1_1_2 := Nat.lt_of_lt_of_le lg1_1_1 T.below.size
 have kg2_1_2 := (T.below.block _ lg2_1_1).trans kg2_1_1
 have lg2_1_2 := Nat.lt_of_lt_of_le lg2_1_1 T.below.size
 have h6_2 : act2.eval (.tmp 6) = .int .i64 ((ps.length : Nat) : Int) := T.done 2 6 rfl rfl
 have h7_2 : act2.eval (.tmp 7) = .int .i64 0 := T.done 3 7 rfl rfl
 have d2 := T.defers.trans d1
 have s2 := T.size.trans s1
 have bl2 := bl1.trans (T.below.mono bl1.size)
 clear T
 refine Eng.tail_nil ?_
 refine wp_block ?_
 refine Eng.loopN (fun n a w' => ∃ (k : Nat), ps.length - k = n ∧ (k ≤ ps.length) ∧ a.defers = [] ∧ a.tmps.size = 18 ∧ Below w.heap.size w w' ∧ a.eval (.tmp 0) = .agg #[pv, bv, .int .i64 many] ∧ a.eval (.tmp 1) = .pointer (some ⟨g1_1, 0, none⟩) ∧ a.eval (.tmp 2) = .pointer (some ⟨g2_1, 0, none⟩) ∧ a.eval (.tmp 6) = .int .i64 ((ps.length : Nat) : Int) ∧ a.eval (.tmp 7) = .int .i64 (k : Nat) ∧ w'.heap[g1_1]? = some (.cells (#[pv, bv, .int .i64 many]) 65 (0, 0)) ∧ g1_1 < w'.heap.size ∧ w'.heap[g2_1]? = some (.cells ((List.map (Value.int .u64) (Nfa.begins bs k)).toArray) 74 (0, 0)) ∧ g2_1 < w'.heap.size) (n0 := ps.length - 0) ?_ ?_
 ·exact ⟨0, rfl, by omega, d2, s2, bl2, h0_2, h1_2, h2_2, h6_2, (h7_2.trans (by first | rfl | (congr 1; rw [Eng.i64_id (by omega) (by omega)]; omega) | (simp; done))), kg1_1_2, lg1_1_2, (kg2_1_2.trans (by first | rfl | (rw [Nfa.begins_succ]; done))), lg2_1_2⟩
 rintro n act3 w3 ⟨k, rfl, hc0_3, d3, s3, bl3, h0_3, h1_3, h2_3, h6_3, h7_3, kg1_1_3, lg1_1_3, kg2_1_3, lg2_1_3⟩
 have Fpp_3 := Eng.Reads.below hp bl3
 have Fbb_3 := Eng.Reads.below hb bl3
 have hk1 := hc0_3
 refine wp_seq ?_
 obtain ⟨q8, Bq8⟩ : ∃ b : Bool, b = (decide ((k : Nat) < ((ps.length : Nat) : Int))) := ⟨_, rfl⟩
 refine Eng.regionS (Eng.still [fun u_ => u_ = .bool q8]) (fun _ => .plain) 1 0 18 s3 rfl (by kernel_rfl) (Eng.still_stable _) (Or.inr (Eng.still_any _)) ?_ ?_
 ·refine Eng.Steps.cons (fun _ => ?_) (Eng.Steps.nil)
  ·refine Eng.plain rfl rfl fun a w' H => ?_
   refine Eng.val (w1 := w') (v := .bool (decide ((k : Nat) < ((ps.length : Nat) : Int)))) ?_ (Below.refl _ _) (by show _ = Value.bool q8; rw [Bq8])
   have e0 := ((H.kept 7 (by kernel_rfl)).trans h7_3)
   have e1 := ((H.kept 6 (by kernel_rfl)).trans h6_3)
   simp only [execOp, resolve, e0, e1]
   go_simp
 intro act4 w4 T
 have h0_4 := (T.rest 0 (by kernel_rfl)).trans h0_3
 have h1_4 := (T.rest 1 (by kernel_rfl)).trans h1_3
 have h2_4 := (T.rest 2 (by kernel_rfl)).trans h2_3
 have h6_4 := (T.rest 6 (by kernel_rfl)).trans h6_3
 have h7_4 := (T.rest 7 (by kernel_rfl)).trans h7_3
 have kg1_1_4 := (T.below.block _ lg1_1_3).trans kg1_1_3
 have lg1_1_4 := Nat.lt_of_lt_of_le lg1_1_3 T.below.size
 have kg2_1_4 := (T.below.block _ lg2_1_3).trans kg2_1_3
 have lg2_1_4 := Nat.lt_of_lt_of_le lg2_1_3 T.below.size
 have Fpp_4 := Eng.Reads.below Fpp_3 T.below
 have Fbb_4 := Eng.Reads.below Fbb_3 T.below
 have h8_4 : act4.eval (.tmp 8) = .bool q8 := T.done 0 8 rfl rfl
 have d4 := T.defers.trans d3
 have s4 := T.size.trans s3
 have bl4 := bl3.trans (T.below.mono bl3.size)
 clear T
 refine Eng.tail_nil ?_
 refine wp_seq ?_
 refine wp_cond_split h8_4 (fun hq => ?_) (fun hq => ?_)
 ·
  have c8 := Bq8.symm.trans hq
  clear hq
  have c8 := of_decide_eq_true c8
  have hk0 : k < ps.length := by omega
  refine wp_skip ?_
  refine wp_seq ?_
  refine wp_block ?_
  refine wp_seq ?_
  refine Eng.regionS (Eng.still [fun u_ => u_ = .int .i64 (k : Nat), fun u_ => u_ = .int .i64 (k : Nat)]) (fun _ => .plain) 2 0 18 s4 rfl (by kernel_rfl) (Eng.still_stable _) (Or.inr (Eng.still_any _)) ?_ ?_
  ·refine Eng.Steps.cons (fun _ => ?_) (Eng.Steps.cons (fun _ => ?_) (Eng.Steps.nil))
   ·refine Eng.plain rfl rfl fun a w' H => ?_
    exact Eng.val (w1 := w') (v := .int .i64 (k : Nat)) (Eng.run_move rfl ((H.kept 7 (by kernel_rfl)).trans h7_4)) (Below.refl _ _) rfl
   ·refine Eng.plain rfl rfl fun a w' H => ?_
    exact Eng.val (w1 := w') (v := .int .i64 (k : Nat)) (Eng.run_assign rfl (H.dep 0 9 (by kernel_rfl) rfl)) (Below.refl _ _) rfl
  intro act6 w6 T
  have h0_6 := (T.rest 0 (by kernel_rfl)).trans h0_4
  have h1_6 := (T.rest 1 (by kernel_rfl)).trans h1_4
  have h2_6 := (T.rest 2 (by kernel_rfl)).trans h2_4
  have h6_6 := (T.rest 6 (by kernel_rfl)).trans h6_4
  have h7_6 := (T.rest 7 (by kernel_rfl)).trans h7_4
  have kg1_1_6 := (T.below.block _ lg1_1_4).trans kg1_1_4
  have lg1_1_6 := Nat.lt_of_lt_of_le lg1_1_4 T.below.size
  have kg2_1_6 := (T.below.block _ lg2_1_4).trans kg2_1_4
  have lg2_1_6 := Nat.lt_of_lt_of_le lg2_1_4 T.below.size
  have Fbb_6 := Eng.Reads.below Fbb_4 T.below
  have h3_6 : act6.eval (.tmp 3) = .int .i64 (k : Nat) := T.done 1 3 rfl rfl
  have d6 := T.defers.trans d4
  have s6 := T.size.trans s4
  have bl6 := bl4.trans (T.below.mono bl4.size)
  clear T
  refine Eng.tail_nil ?_
  refine (wpIn_wide (n := 1)).1 ?_
  refine EngI.regionS EngI.free_wide (Eng.still [fun u_ => u_ = .agg #[pv, bv, .int .i64 many], fun u_ => u_ = .int .i64 (k : Nat), fun u_ => u_ = .int .i64 (Nfa.beginF bs (k : Nat))]) (fun _ => .plain) 3 1 18 s6 rfl (by kernel_rfl) (Eng.still_stable _) (Or.inr (Eng.still_any _)) (by kernel_rfl) ?_ ?_
  ·refine Eng.Steps.cons (fun _ => ?_) (Eng.Steps.cons (fun _ => ?_) (Eng.Steps.cons (fun _ => ?_) (Eng.Steps.cons (fun hlt => ?_) (Eng.Steps.nil))))
   ·refine Eng.plain rfl rfl fun a w' H => ?_
    have kb := (H.below.block _ lg1_1_6).trans kg1_1_6
    have z0 : w'.cell? ⟨g1_1, 0, none⟩ = some (pv) := (Eng.cells kb 0).trans rfl
    have z1 : w'.cell? ⟨g1_1, 1, none⟩ = some (bv) := (Eng.cells kb 1).trans rfl
    have z2 : w'.cell? ⟨g1_1, 2, none⟩ = some (.int .i64 many) := (Eng.cells kb 2).trans rfl
    refine Eng.val (w1 := w') (v := .agg #[pv, bv, .int .i64 many]) ?_ (Below.refl _ _) rfl
    have e0 := ((H.kept 1 (by kernel_rfl)).trans h1_6)
    simp only [execOp, resolve, e0]
    go_simp
   ·refine Eng.plain rfl rfl fun a w' H => ?_
    exact Eng.val (w1 := w') (v := .int .i64 (k : Nat)) (Eng.run_move rfl ((H.kept 3 (by kernel_rfl)).trans h3_6)) (Below.refl _ _) rfl
   ·refine Eng.plain rfl rfl fun a w' H => ?_
    refine Eng.call Tryd.func86 (by kernel_rfl) (by kernel_rfl) rfl #[.agg #[pv, bv, .int .i64 many], .int .i64 (k : Nat)] ?_ ?_
    ·have e0 : a.eval (.tmp 10) = .agg #[pv, bv, .int .i64 many] := (H.dep 0 10 (by kernel_rfl) rfl); have e1 : a.eval (.tmp 11) = .int .i64 (k : Nat) := (H.dep 1 11 (by kernel_rfl) rfl); simp only [List.map_toArray, List.map_cons, List.map_nil, e0, e1]
    refine (Nfa.begin_calls pv bv bs many (k : Nat) _ (Eng.Reads.below Fbb_6 H.below) (by omega)).mono ?_
    rintro e w'' ⟨rfl, hb⟩
    exact ⟨_, rfl, rfl, hb⟩
   ·exact absurd hlt (by decide)
  intro act7 w7 T
  have h0_7 := (T.rest 0 (by kernel_rfl)).trans h0_6
  have h1_7 := (T.rest 1 (by kernel_rfl)).trans h1_6
  have h2_7 := (T.rest 2 (by kernel_rfl)).trans h2_6
  have h6_7 := (T.rest 6 (by kernel_rfl)).trans h6_6
  have h7_7 := (T.rest 7 (by kernel_rfl)).trans h7_6
  have kg1_1_7 := (T.below.block _ lg1_1_6).trans kg1_1_6
  have lg1_1_7 := Nat.lt_of_lt_of_le lg1_1_6 T.below.size
  have kg2_1_7 := (T.below.block _ lg2_1_6).trans kg2_1_6
  have lg2_1_7 := Nat.lt_of_lt_of_le lg2_1_6 T.below.size
  have h12_7 : act7.eval (.tmp 12) = .int .i64 (Nfa.beginF bs (k : Nat)) := T.done 2 12 rfl rfl
  have d7 := T.defers.trans d6
  have s7 := T.size.trans s6
  have bl7 := bl6.trans (T.below.mono bl6.size)
  clear T
  refine EngI.tail_call EngI.free_wide Tryd.func90 (by kernel_rfl) (by kernel_rfl) rfl rfl rfl rfl #[.pointer (some ⟨g2_1, 0, none⟩), .int .i64 (Nfa.beginF bs (k : Nat))] (by have e0 : act7.eval (.tmp 2) = .pointer (some ⟨g2_1, 0, none⟩) := h2_7; have e1 : act7.eval (.tmp 12) = .int .i64 (Nfa.beginF bs (k : Nat)) := h12_7; simp only [List.map_toArray, List.map_cons, List.map_nil, e0, e1]) s7 rfl (R := fun _ w' => Eng.Turns w7 w' g2_1 (.cells ((List.map (Value.int .u64) (Nfa.put (Nfa.begins bs k) (Nfa.beginF bs (k : Nat)))).toArray) 74 (0, 0))) ((Nfa.put_calls g2_1 (Nfa.begins bs k) (Nfa.beginF bs (k : Nat)) _ (Nfa.begins_len _ _) kg2_1_7).mono ?_) fun v_8 w8 act8 R d8 s8 hv hr => ?_
  ·rintro e w1 ⟨v, rfl, R⟩; exact ⟨v, rfl, R⟩
  have h0_8 := (hr 0 rfl).trans h0_7
  have h1_8 := (hr 1 rfl).trans h1_7
  have h2_8 := (hr 2 rfl).trans h2_7
  have h6_8 := (hr 6 rfl).trans h6_7
  have h7_8 := (hr 7 rfl).trans h7_7
  have d8 := d8.trans d7
  clear hv hr
  have bl8 := Eng.Turns.below R bl7 og2_1 (Nat.le_refl _)
  have kg1_1_8 := (R.far _ ne_g2_1_g1_1 lg1_1_7).trans kg1_1_7
  have lg1_1_8 := Nat.lt_of_lt_of_le lg1_1_7 R.size
  have kg2_1_8 := R.new
  have lg2_1_8 := Nat.lt_of_lt_of_le lg2_1_7 R.size
  clear R
  refine EngI.tail_nil ?_
  refine Eng.regionS (Eng.still [fun u_ => u_ = .int .i64 (IntKind.i64.wrap ((k : Nat) + 1)), fun u_ => u_ = .int .i64 (IntKind.i64.wrap ((k : Nat) + 1))]) (fun _ => .plain) 2 0 18 s8 rfl (by kernel_rfl) (Eng.still_stable _) (Or.inr (Eng.still_any _)) ?_ ?_
  ·refine Eng.Steps.cons (fun _ => ?_) (Eng.Steps.cons (fun _ => ?_) (Eng.Steps.nil))
   ·refine Eng.plain rfl rfl fun a w' H => ?_
    refine Eng.val (w1 := w') (v := .int .i64 (IntKind.i64.wrap ((k : Nat) + 1))) ?_ (Below.refl _ _) rfl
    have e0 := ((H.kept 7 (by kernel_rfl)).trans h7_8)
    have e1 : a.eval (.const (.int .i64 1)) = .int .i64 1 := (rfl : a.eval (.const (.int .i64 1)) = .int .i64 1)
    simp only [execOp, resolve, e0, e1]
    go_simp
   ·refine Eng.plain rfl rfl fun a w' H => ?_
    exact Eng.val (w1 := w') (v := .int .i64 (IntKind.i64.wrap ((k : Nat) + 1))) (Eng.run_move rfl (H.dep 0 14 (by kernel_rfl) rfl)) (Below.refl _ _) rfl
  intro act9 w9 T
  have h0_9 := (T.rest 0 (by kernel_rfl)).trans h0_8
  have h1_9 := (T.rest 1 (by kernel_rfl)).trans h1_8
  have h2_9 := (T.rest 2 (by kernel_rfl)).trans h2_8
  have h6_9 := (T.rest 6 (by kernel_rfl)).trans h6_8
  have kg1_1_9 := (T.below.block _ lg1_1_8).trans kg1_1_8
  have lg1_1_9 := Nat.lt_of_lt_of_le lg1_1_8 T.below.size
  have kg2_1_9 := (T.below.block _ lg2_1_8).trans kg2_1_8
  have lg2_1_9 := Nat.lt_of_lt_of_le lg2_1_8 T.below.size
  have h7_9 : act9.eval (.tmp 7) = .int .i64 (IntKind.i64.wrap ((k : Nat) + 1)) := T.done 1 7 rfl rfl
  have d9 := T.defers.trans d8
  have s9 := T.size.trans s8
  have bl9 := bl8.trans (T.below.mono bl8.size)
  clear T
  refine Eng.tail_nil ?_
  exact ⟨_, by omega, k + 1, rfl, by omega, d9, s9, bl9, h0_9, h1_9, h2_9, h6_9, (h7_9.trans (by first | rfl | (congr 1; rw [Eng.i64_id (by omega) (by omega)]; omega) | (simp; done))), kg1_1_9, lg1_1_9, (kg2_1_9.trans (by first | rfl | (rw [Nfa.begins_succ]; done))), lg2_1_9⟩
 ·
  have c8 := Bq8.symm.trans hq
  clear hq
  have c8 := of_decide_eq_false c8
  refine wp_exit ?_
  refine wp_seq ?_
  refine Eng.regionS (Eng.still [fun u_ => u_ = .agg #[pv, bv, .int .i64 many], fun u_ => u_ = .agg ((List.map (Value.int .u64) (Nfa.begins bs k)).toArray), fun u_ => u_ = .agg ((List.map (Value.int .u64) (Nfa.closeF (Nfa.begins bs k) (Nfa.items ps bs))).toArray)]) (fun _ => .plain) 3 1 18 s4 rfl (by kernel_rfl) (Eng.still_stable _) (Or.inr (Eng.still_any _)) ?_ ?_
  ·refine Eng.Steps.cons (fun _ => ?_) (Eng.Steps.cons (fun _ => ?_) (Eng.Steps.cons (fun _ => ?_) (Eng.Steps.cons (fun hlt => ?_) (Eng.Steps.nil))))
   ·refine Eng.plain rfl rfl fun a w' H => ?_
    have kb := (H.below.block _ lg1_1_4).trans kg1_1_4
    have z0 : w'.cell? ⟨g1_1, 0, none⟩ = some (pv) := (Eng.cells kb 0).trans rfl
    have z1 : w'.cell? ⟨g1_1, 1, none⟩ = some (bv) := (Eng.cells kb 1).trans rfl
    have z2 : w'.cell? ⟨g1_1, 2, none⟩ = some (.int .i64 many) := (Eng.cells kb 2).trans rfl
    refine Eng.val (w1 := w') (v := .agg #[pv, bv, .int .i64 many]) ?_ (Below.refl _ _) rfl
    have e0 := ((H.kept 1 (by kernel_rfl)).trans h1_4)
    simp only [execOp, resolve, e0]
    go_simp
   ·refine Eng.plain rfl rfl fun a w' H => ?_
    have kb := (H.below.block _ lg2_1_4).trans kg2_1_4
    refine Eng.val (w1 := w') (v := .agg ((List.map (Value.int .u64) (Nfa.begins bs k)).toArray)) ?_ (Below.refl _ _) rfl
    exact Eng.run_load_all rfl ((H.kept 2 (by kernel_rfl)).trans h2_4) kb Tryd.underlying74 rfl (by rw [Nfa.cells_size (Nfa.begins_len _ _)]; kernel_rfl)
   ·refine Eng.plain rfl rfl fun a w' H => ?_
    refine Eng.call Tryd.func91 (by kernel_rfl) (by kernel_rfl) rfl #[.agg #[pv, bv, .int .i64 many], .agg ((List.map (Value.int .u64) (Nfa.begins bs k)).toArray)] ?_ ?_
    ·have e0 : a.eval (.tmp 15) = .agg #[pv, bv, .int .i64 many] := (H.dep 0 15 (by kernel_rfl) rfl); have e1 : a.eval (.tmp 16) = .agg ((List.map (Value.int .u64) (Nfa.begins bs k)).toArray) := (H.dep 1 16 (by kernel_rfl) rfl); simp only [List.map_toArray, List.map_cons, List.map_nil, e0, e1]
    refine (Nfa.closed_calls pv bv many ps bs vs (Nfa.begins bs k) _ (Nfa.begins_len _ _) hvl (Eng.Reads.below Fpp_4 H.below) (fun k hk => Eng.Reads.below (Eng.Reads.below (hin k hk) bl4) H.below) (Eng.Reads.below Fbb_4 H.below)).mono ?_
    rintro e w'' ⟨rfl, hb⟩
    exact ⟨_, rfl, rfl, hb⟩
   ·exact absurd hlt (by decide)
  intro act11 w11 T
  have h2_11 := (T.rest 2 (by kernel_rfl)).trans h2_4
  have kg2_1_11 := (T.below.block _ lg2_1_4).trans kg2_1_4
  have h17_11 : act11.eval (.tmp 17) = .agg ((List.map (Value.int .u64) (Nfa.closeF (Nfa.begins bs k) (Nfa.items ps bs))).toArray) := T.done 2 17 rfl rfl
  have d11 := T.defers.trans d4
  have bl11 := bl4.trans (T.below.mono bl4.size)
  clear T
  refine Eng.tail_arr rfl rfl rfl rfl h2_11 h17_11 kg2_1_11 (by rw [Nfa.cells_size ((Nfa.closeF_len _ _).trans (Nfa.begins_len _ _))]; kernel_rfl) ((Nfa.cells_size (Nfa.begins_len _ _)).trans (Nfa.cells_size ((Nfa.closeF_len _ _).trans (Nfa.begins_len _ _))).symm) (by simp [Value.oneCell']) fun w12 S => ?_
  have kg2_1_12 := S.new
  have bl12 := S.below bl11 og2_1
  clear S
  refine Eng.tail_nil ?_
  refine wp_ret ?_
  repeat (first | refine Eng.in_ret ?_ | refine Eng.then_ret ?_)
  obtain rfl : k = ps.length := by omega
  exact Eng.retc rfl d11 h2_11 kg2_1_12 Tryd.underlying74 rfl (by rw [Nfa.cells_size ((Nfa.closeF_len _ _).trans (Nfa.begins_len _ _))]; kernel_rfl) ⟨rfl, bl12⟩
end Go.Proofs.YthgafcaoibfchaaDoor.X
end
