/- Words and walks that the row of NfaRuns needs: printed by programs, and plain laws. -/
import Derived.Test.YthgafcaoibfchaaDoorM15
namespace Go.Proofs.YthgafcaoibfchaaDoorW.PrintWords
end Go.Proofs.YthgafcaoibfchaaDoorW.PrintWords
namespace Go.Proofs.YthgafcaoibfchaaDoorW.PrintLast
end Go.Proofs.YthgafcaoibfchaaDoorW.PrintLast
namespace Go.Proofs.YthgafcaoibfchaaDoorW.PrintMore
end Go.Proofs.YthgafcaoibfchaaDoorW.PrintMore
namespace Go.Proofs.YthgafcaoibfchaaDoor.X
open Go.RowKit Go.Shelf Go.Proofs Go.Proofs.YthgafcaoibfchaaDoorW.PrintWords Go.Proofs.YthgafcaoibfchaaDoorW.PrintLast Go.Proofs.YthgafcaoibfchaaDoorW.PrintMore
set_option linter.unusedVariables false
set_option linter.unusedSimpArgs false
set_option maxHeartbeats 4000000 in
set_option maxRecDepth 100000 in
theorem Nfa.rstart_calls (pv bv : Value) (many : Int) (ps : List (List Pth.Part)) (bs : List Int) (vs : List Value) (w : World) (hvl : vs.length = ps.length) (hp : Eng.Reads w pv ps.length 1 vs) (hin : ∀ k, k < ps.length → Eng.Reads w (vs.getD k undef) (ps.getD k []).length 2 (Pth.cellsP (ps.getD k []))) (hb : Eng.Reads w bv bs.length 1 (Nfa.ints bs)) (hL : Nfa.Lie ps bs) : Calls Tryd.prog 82 #[.agg #[pv, bv, .int .i64 many]] w fun e w' => e = .returned (.agg (List.map (Value.int .u64) (Nfa.start ps bs)).toArray) ∧ Below w.heap.size w w' := by
 have hm := Eng.Reads.len_le hp
 have hbl := hL.1
 refine Eng.enter Tryd.func82 rfl fun act0 d0 s0 v0 => ?_
 have s0 : act0.tmps.size = 23 := s0
 have h0_0 : act0.eval (.tmp 0) = .agg #[pv, bv, .int .i64 many] := v0 0 (by simp)
 clear v0
 have bl0 : Below w.heap.size w w := Below.refl _ _
 refine wp_seq ?_
 refine Eng.regionS (Eng.still [fun u_ => True, fun u_ => True]) (fun i => ([.alloc 71 #[pv, bv, .int .i64 many], .alloc 61 ((List.map (Value.int .u64) (List.replicate 8 0)).toArray)] : List Eng.Kind).getD i .plain) 2 0 23 s0 rfl (by kernel_rfl) (Eng.still_stable _) (Or.inr (Eng.still_any _)) ?_ ?_
 ·refine Eng.Steps.cons (fun _ => ?_) (Eng.Steps.cons (fun _ => ?_) (Eng.Steps.nil))
  ·refine Eng.made rfl (by simp) rfl (fun a w' hd ho => ?_) (fun _ _ => trivial)
   exact Eng.run_box rfl ((ho 0 (by kernel_rfl)).trans h0_0)
  ·refine Eng.made rfl (by simp) rfl (fun a w' hd ho => ?_) (fun _ _ => trivial)
   exact Eng.run_alloc rfl (by kernel_rfl)
 intro act1 w1 T
 have h0_1 := (T.rest 0 (by kernel_rfl)).trans h0_0
 obtain ⟨g1_1, h1_1, rg1_1, lg1_1_1, kg1_1_1⟩ := T.al 0 1 _ _ rfl rfl rfl (by kernel_rfl)
 obtain ⟨g2_1, h2_1, rg2_1, lg2_1_1, kg2_1_1⟩ := T.al 1 2 _ _ rfl rfl rfl (by kernel_rfl)
 have og2_1 : w.heap.size ≤ g2_1 := Nat.le_trans bl0.size rg2_1
 have d1 := T.defers.trans d0
 have s1 := T.size.trans s0
 have bl1 := bl0.trans (T.below.mono bl0.size)
 clear T
 refine Eng.tail_nil ?_
 refine wp_seq ?_
 refine Eng.regionS (Eng.still [fun u_ => u_ = .agg ((List.map (Value.int .u64) (List.replicate 8 0)).toArray), fun u_ => True, fun u_ => True]) (fun i => ([.plain, .alloc 61 ((List.map (Value.int .u64) (List.replicate 8 0)).toArray), .store 1 ((List.map (Value.int .u64) (List.replicate 8 0)).toArray)] : List Eng.Kind).getD i .plain) 3 0 23 s1 rfl (by kernel_rfl) (Eng.still_stable _) (Or.inr (Eng.still_any _)) ?_ ?_
 ·refine Eng.Steps.cons (fun _ => ?_) (Eng.Steps.cons (fun _ => ?_) (Eng.Steps.cons (fun _ => ?_) (Eng.Steps.nil)))
  ·refine Eng.plain rfl rfl fun a w' H => ?_
   refine Eng.val (w1 := w') (v := .agg ((List.map (Value.int .u64) (List.replicate 8 0)).toArray)) ?_ (Below.refl _ _) rfl
   simp only [execOp, resolve]
   go_simp
   all_goals first | rfl | (simp; done) | omega | skip
  ·refine Eng.made rfl (by simp) rfl (fun a w' hd ho => ?_) (fun _ _ => trivial)
   exact Eng.run_alloc rfl (by kernel_rfl)
  ·refine Eng.stored_arr rfl rfl rfl (j := 1) (d := 3) (by kernel_rfl) rfl rfl (Eng.store_uniq (by kernel_rfl)) ((Nfa.cells_size ((Nfa.good0).len)).trans (Nfa.cells_size ((Nfa.good0).len)).symm) rfl (by rw [Nfa.cells_size ((Nfa.good0).len)]; kernel_rfl) (by first | exact Nfa.ones_u _ | simp [Value.oneCell']) fun a w' hd ho => ?_
   exact (hd 0 5 (by kernel_rfl) rfl)
 intro act2 w2 T
 have h0_2 := (T.rest 0 (by kernel_rfl)).trans h0_1
 have h1_2 := (T.rest 1 (by kernel_rfl)).trans h1_1
 have h2_2 := (T.rest 2 (by kernel_rfl)).trans h2_1
 have kg1_1_2 := (T.below.block _ lg1_1_1).trans kg1_1_1
 have lg1_1_2 := Nat.lt_of_lt_of_le lg1_1_1 T.below.size
 have kg2_1_2 := (T.below.block _ lg2_1_1).trans kg2_1_1
 have lg2_1_2 := Nat.lt_of_lt_of_le lg2_1_1 T.below.size
 obtain ⟨g3_2, h3_2, rg3_2, lg3_2_2, kg3_2_2⟩ := T.st 1 3 2 _ _ _ rfl rfl rfl rfl rfl
 have og3_2 : w.heap.size ≤ g3_2 := Nat.le_trans bl1.size rg3_2
 have ne_g3_2_g1_1 : g1_1 ≠ g3_2 := fun e => Nat.lt_irrefl _ (Nat.lt_of_lt_of_le (e ▸ lg1_1_1) rg3_2)
 have ne_g3_2_g2_1 : g2_1 ≠ g3_2 := fun e => Nat.lt_irrefl _ (Nat.lt_of_lt_of_le (e ▸ lg2_1_1) rg3_2)
 have d2 := T.defers.trans d1
 have s2 := T.size.trans s1
 have bl2 := bl1.trans (T.below.mono bl1.size)
 clear T
 refine Eng.tail_nil ?_
 refine wp_seq ?_
 refine wp_seq ?_
 refine Eng.regionS (Eng.still [fun u_ => u_ = .int .i64 0]) (fun _ => .plain) 1 0 23 s2 rfl (by kernel_rfl) (Eng.still_stable _) (Or.inr (Eng.still_any _)) ?_ ?_
 ·refine Eng.Steps.cons (fun _ => ?_) (Eng.Steps.nil)
  ·refine Eng.plain rfl rfl fun a w' H => ?_
   exact Eng.val (w1 := w') (v := .int .i64 0) (Eng.run_assign rfl (rfl : a.eval (.const (.int .i64 0)) = .int .i64 0)) (Below.refl _ _) rfl
 intro act3 w3 T
 have h0_3 := (T.rest 0 (by kernel_rfl)).trans h0_2
 have h1_3 := (T.rest 1 (by kernel_rfl)).trans h1_2
 have h2_3 := (T.rest 2 (by kernel_rfl)).trans h2_2
 have h3_3 := (T.rest 3 (by kernel_rfl)).trans h3_2
 have kg1_1_3 := (T.below.block _ lg1_1_2).trans kg1_1_2
 have lg1_1_3 := Nat.lt_of_lt_of_le lg1_1_2 T.below.size
 have kg2_1_3 := (T.below.block _ lg2_1_2).trans kg2_1_2
 have lg2_1_3 := Nat.lt_of_lt_of_le lg2_1_2 T.below.size
 have kg3_2_3 := (T.below.block _ lg3_2_2).trans kg3_2_2
 have lg3_2_3 := Nat.lt_of_lt_of_le lg3_2_2 T.below.size
 have h4_3 : act3.eval (.tmp 4) = .int .i64 0 := T.done 0 4 rfl rfl
 have d3 := T.defers.trans d2
 have s3 := T.size.trans s2
 have bl3 := bl2.trans (T.below.mono bl2.size)
 clear T
 refine Eng.tail_nil ?_
 refine wp_block ?_
 refine Eng.loopN (fun n a w' => ∃ (k : Nat), ps.length - k = n ∧ (k ≤ ps.length) ∧ a.defers = [] ∧ a.tmps.size = 23 ∧ Below w.heap.size w w' ∧ a.eval (.tmp 0) = .agg #[pv, bv, .int .i64 many] ∧ a.eval (.tmp 1) = .pointer (some ⟨g1_1, 0, none⟩) ∧ a.eval (.tmp 2) = .pointer (some ⟨g2_1, 0, none⟩) ∧ a.eval (.tmp 3) = .pointer (some ⟨g3_2, 0, none⟩) ∧ a.eval (.tmp 4) = .int .i64 (k : Nat) ∧ w'.heap[g1_1]? = some (.cells (#[pv, bv, .int .i64 many]) 71 (0, 0)) ∧ g1_1 < w'.heap.size ∧ w'.heap[g2_1]? = some (.cells ((List.map (Value.int .u64) (List.replicate 8 0)).toArray) 61 (0, 0)) ∧ g2_1 < w'.heap.size ∧ w'.heap[g3_2]? = some (.cells ((List.map (Value.int .u64) (Nfa.begins bs k)).toArray) 61 (0, 0)) ∧ g3_2 < w'.heap.size) (n0 := ps.length - 0) ?_ ?_
 ·exact ⟨0, rfl, by omega, d3, s3, bl3, h0_3, h1_3, h2_3, h3_3, (h4_3.trans (by first | rfl | (congr 1; rw [Eng.i64_id (by omega) (by omega)]; omega) | (simp; done))), kg1_1_3, lg1_1_3, kg2_1_3, lg2_1_3, (kg3_2_3.trans (by first | rfl | (rw [Nfa.begins_succ, Nfa.begin_at hkb]; done))), lg3_2_3⟩
 rintro n act4 w4 ⟨k, rfl, hc0_4, d4, s4, bl4, h0_4, h1_4, h2_4, h3_4, h4_4, kg1_1_4, lg1_1_4, kg2_1_4, lg2_1_4, kg3_2_4, lg3_2_4⟩
 have Fpp_4 := Eng.Reads.below hp bl4
 have Fbb_4 := Eng.Reads.below hb bl4
 have hk1 := hc0_4
 refine wp_seq ?_
 refine wp_seq ?_
 obtain ⟨q10, Bq10⟩ : ∃ b : Bool, b = (decide ((k : Nat) < ((ps.length : Nat) : Int))) := ⟨_, rfl⟩
 refine Eng.regionS (Eng.still [fun u_ => u_ = .int .i64 (k : Nat), fun u_ => u_ = .pointer (some ⟨g1_1, 0, none⟩), fun u_ => u_ = pv, fun u_ => u_ = .int .i64 ((ps.length : Nat) : Int), fun u_ => u_ = .bool q10]) (fun _ => .plain) 5 0 23 s4 rfl (by kernel_rfl) (Eng.still_stable _) (Or.inr (Eng.still_any _)) ?_ ?_
 ·refine Eng.Steps.cons (fun _ => ?_) (Eng.Steps.cons (fun _ => ?_) (Eng.Steps.cons (fun _ => ?_) (Eng.Steps.cons (fun _ => ?_) (Eng.Steps.cons (fun _ => ?_) (Eng.Steps.nil)))))
  ·refine Eng.plain rfl rfl fun a w' H => ?_
   exact Eng.val (w1 := w') (v := .int .i64 (k : Nat)) (Eng.run_move rfl ((H.kept 4 (by kernel_rfl)).trans h4_4)) (Below.refl _ _) rfl
  ·refine Eng.plain rfl rfl fun a w' H => ?_
   refine Eng.val (w1 := w') (v := .pointer (some ⟨g1_1, 0, none⟩)) ?_ (Below.refl _ _) rfl
   have e0 := ((H.kept 1 (by kernel_rfl)).trans h1_4)
   simp only [execOp, resolve, e0]
   go_simp
  ·refine Eng.plain rfl rfl fun a w' H => ?_
   have kb := (H.below.block _ lg1_1_4).trans kg1_1_4
   have z0 : w'.cell? ⟨g1_1, 0, none⟩ = some (pv) := (Eng.cells kb 0).trans rfl
   refine Eng.val (w1 := w') (v := pv) ?_ (Below.refl _ _) rfl
   have e0 : a.eval (.tmp 7) = .pointer (some ⟨g1_1, 0, none⟩) := (H.dep 1 7 (by kernel_rfl) rfl)
   simp only [execOp, resolve, e0]
   go_simp
  ·refine Eng.plain rfl rfl fun a w' H => ?_
   refine Eng.val (w1 := w') (v := .int .i64 ((ps.length : Nat) : Int)) ?_ (Below.refl _ _) rfl
   exact Eng.run_len_sl rfl Tryd.underlying59 (show a.eval (.tmp 8) = pv from (H.dep 2 8 (by kernel_rfl) rfl)) (Eng.Reads.below Fpp_4 H.below)
  ·refine Eng.plain rfl rfl fun a w' H => ?_
   refine Eng.val (w1 := w') (v := .bool (decide ((k : Nat) < ((ps.length : Nat) : Int)))) ?_ (Below.refl _ _) (by show _ = Value.bool q10; rw [Bq10])
   have e0 : a.eval (.tmp 6) = .int .i64 (k : Nat) := (H.dep 0 6 (by kernel_rfl) rfl)
   have e1 : a.eval (.tmp 9) = .int .i64 ((ps.length : Nat) : Int) := (H.dep 3 9 (by kernel_rfl) rfl)
   simp only [execOp, resolve, e0, e1]
   go_simp
 intro act5 w5 T
 have h0_5 := (T.rest 0 (by kernel_rfl)).trans h0_4
 have h1_5 := (T.rest 1 (by kernel_rfl)).trans h1_4
 have h2_5 := (T.rest 2 (by kernel_rfl)).trans h2_4
 have h3_5 := (T.rest 3 (by kernel_rfl)).trans h3_4
 have h4_5 := (T.rest 4 (by kernel_rfl)).trans h4_4
 have kg1_1_5 := (T.below.block _ lg1_1_4).trans kg1_1_4
 have lg1_1_5 := Nat.lt_of_lt_of_le lg1_1_4 T.below.size
 have kg2_1_5 := (T.below.block _ lg2_1_4).trans kg2_1_4
 have lg2_1_5 := Nat.lt_of_lt_of_le lg2_1_4 T.below.size
 have kg3_2_5 := (T.below.block _ lg3_2_4).trans kg3_2_4
 have lg3_2_5 := Nat.lt_of_lt_of_le lg3_2_4 T.below.size
 have Fpp_5 := Eng.Reads.below Fpp_4 T.below
 have Fbb_5 := Eng.Reads.below Fbb_4 T.below
 have h10_5 : act5.eval (.tmp 10) = .bool q10 := T.done 4 10 rfl rfl
 have d5 := T.defers.trans d4
 have s5 := T.size.trans s4
 have bl5 := bl4.trans (T.below.mono bl4.size)
 clear T
 refine Eng.tail_nil ?_
 refine wp_cond_split h10_5 (fun hq => ?_) (fun hq => ?_)
 ·
  have c10 := Bq10.symm.trans hq
  clear hq
  have c10 := of_decide_eq_true c10
  have hk0 : k < ps.length := by omega
  have hkb : k < bs.length := by omega
  refine wp_skip ?_
  refine wp_seq ?_
  refine wp_block ?_
  refine Eng.regionD (Eng.still [fun u_ => u_ = .agg ((List.map (Value.int .u64) (Nfa.begins bs k)).toArray), fun u_ => u_ = .pointer (some ⟨g1_1, 1, none⟩), fun u_ => u_ = bv, fun u_ => u_ = .int .i64 (k : Nat), fun u_ => u_ = Eng.elemPtr bv (k * 1), fun u_ => u_ = .int .i64 (bs.getD k 0), fun u_ => u_ = .agg ((List.map (Value.int .u64) (Nfa.put (Nfa.begins bs k) (bs.getD k 0))).toArray)]) (fun _ => .plain) 7 1 23 (by kernel_rfl) s5 rfl (by kernel_rfl) (Eng.still_stable _) (Or.inr (Eng.still_any _)) ?_ ?_
  ·refine Eng.Steps.cons (fun _ => ?_) (Eng.Steps.cons (fun _ => ?_) (Eng.Steps.cons (fun _ => ?_) (Eng.Steps.cons (fun _ => ?_) (Eng.Steps.cons (fun _ => ?_) (Eng.Steps.cons (fun _ => ?_) (Eng.Steps.cons (fun _ => ?_) (Eng.Steps.cons (fun hlt => ?_) (Eng.Steps.nil))))))))
   ·refine Eng.plain rfl rfl fun a w' H => ?_
    have kb := (H.below.block _ lg3_2_5).trans kg3_2_5
    refine Eng.val (w1 := w') (v := .agg ((List.map (Value.int .u64) (Nfa.begins bs k)).toArray)) ?_ (Below.refl _ _) rfl
    exact Eng.run_load_all rfl ((H.kept 3 (by kernel_rfl)).trans h3_5) kb Tryd.underlying61 rfl (by rw [Nfa.cells_size ((Nfa.begins_good _ _).len)]; kernel_rfl)
   ·refine Eng.plain rfl rfl fun a w' H => ?_
    refine Eng.val (w1 := w') (v := .pointer (some ⟨g1_1, 1, none⟩)) ?_ (Below.refl _ _) rfl
    have e0 := ((H.kept 1 (by kernel_rfl)).trans h1_5)
    simp only [execOp, resolve, e0]
    go_simp
   ·refine Eng.plain rfl rfl fun a w' H => ?_
    have kb := (H.below.block _ lg1_1_5).trans kg1_1_5
    have z0 : w'.cell? ⟨g1_1, 1, none⟩ = some (bv) := (Eng.cells kb 1).trans rfl
    refine Eng.val (w1 := w') (v := bv) ?_ (Below.refl _ _) rfl
    have e0 : a.eval (.tmp 14) = .pointer (some ⟨g1_1, 1, none⟩) := (H.dep 1 14 (by kernel_rfl) rfl)
    simp only [execOp, resolve, e0]
    go_simp
   ·refine Eng.plain rfl rfl fun a w' H => ?_
    exact Eng.val (w1 := w') (v := .int .i64 (k : Nat)) (Eng.run_move rfl ((H.kept 4 (by kernel_rfl)).trans h4_5)) (Below.refl _ _) rfl
   ·refine Eng.plain rfl rfl fun a w' H => ?_
    refine Eng.val (w1 := w') (v := Eng.elemPtr bv (k * 1)) ?_ (Below.refl _ _) rfl
    exact Eng.run_index_sl rfl Tryd.underlying63 (by kernel_rfl) (show a.eval (.tmp 15) = bv from (H.dep 2 15 (by kernel_rfl) rfl)) ((show a.eval (.tmp 16) = .int .i64 (k : Nat) from (H.dep 3 16 (by kernel_rfl) rfl)).trans (congrArg (Value.int _) (show (k : Nat) = ((k : Nat) : Int) from by omega))) (Eng.Reads.below Fbb_5 H.below) (by omega) rfl
   ·refine Eng.plain rfl rfl fun a w' H => ?_
    refine Eng.val (w1 := w') (v := .int .i64 (bs.getD k 0)) ?_ (Below.refl _ _) rfl
    exact Eng.run_load_el (.int .i64 (bs.getD k 0)) rfl (show a.eval (.tmp 17) = Eng.elemPtr bv (k * 1) from (H.dep 4 17 (by kernel_rfl) rfl)) (Eng.Reads.below Fbb_5 H.below) (Nfa.ints_at bs k (by omega)) (by kernel_rfl)
   ·refine Eng.plain rfl rfl fun a w' H => ?_
    refine Eng.call Tryd.func113 (by kernel_rfl) (by kernel_rfl) rfl #[.agg ((List.map (Value.int .u64) (Nfa.begins bs k)).toArray), .int .i64 (bs.getD k 0)] ?_ ?_
    ·have e0 : a.eval (.tmp 13) = .agg ((List.map (Value.int .u64) (Nfa.begins bs k)).toArray) := (H.dep 0 13 (by kernel_rfl) rfl); have e1 : a.eval (.tmp 18) = .int .i64 (bs.getD k 0) := (H.dep 5 18 (by kernel_rfl) rfl); simp only [List.map_toArray, List.map_cons, List.map_nil, e0, e1]
    refine (Nfa.with_calls (Nfa.begins bs k) (bs.getD k 0) _ (Nfa.begins_good _ _) (hL.first hk0).1 (hL.first hk0).2).mono ?_
    rintro e w'' ⟨rfl, hb⟩
    exact ⟨_, rfl, rfl, hb⟩
   ·exact absurd hlt (by decide)
  intro act7 w7 T
  have h0_7 := (T.rest 0 (by kernel_rfl)).trans h0_5
  have h1_7 := (T.rest 1 (by kernel_rfl)).trans h1_5
  have h2_7 := (T.rest 2 (by kernel_rfl)).trans h2_5
  have h3_7 := (T.rest 3 (by kernel_rfl)).trans h3_5
  have h4_7 := (T.rest 4 (by kernel_rfl)).trans h4_5
  have kg1_1_7 := (T.below.block _ lg1_1_5).trans kg1_1_5
  have lg1_1_7 := Nat.lt_of_lt_of_le lg1_1_5 T.below.size
  have kg2_1_7 := (T.below.block _ lg2_1_5).trans kg2_1_5
  have lg2_1_7 := Nat.lt_of_lt_of_le lg2_1_5 T.below.size
  have kg3_2_7 := (T.below.block _ lg3_2_5).trans kg3_2_5
  have lg3_2_7 := Nat.lt_of_lt_of_le lg3_2_5 T.below.size
  have h19_7 : act7.eval (.tmp 19) = .agg ((List.map (Value.int .u64) (Nfa.put (Nfa.begins bs k) (bs.getD k 0))).toArray) := T.done 6 19 rfl rfl
  have d7 := T.defers.trans d5
  have s7 := T.size.trans s5
  have bl7 := bl5.trans (T.below.mono bl5.size)
  clear T
  refine Eng.tail_arr rfl rfl rfl rfl h3_7 h19_7 kg3_2_7 (by rw [Nfa.cells_size ((Nfa.good_put (Nfa.begins_good _ _) _).len)]; kernel_rfl) ((Nfa.cells_size ((Nfa.begins_good _ _).len)).trans (Nfa.cells_size ((Nfa.good_put (Nfa.begins_good _ _) _).len)).symm) (by first | exact Nfa.ones_u _ | simp [Value.oneCell']) fun w8 S => ?_
  have kg1_1_8 := (S.far _ ne_g3_2_g1_1).trans kg1_1_7
  have lg1_1_8 := Nat.lt_of_lt_of_eq lg1_1_7 S.size.symm
  have kg2_1_8 := (S.far _ ne_g3_2_g2_1).trans kg2_1_7
  have lg2_1_8 := Nat.lt_of_lt_of_eq lg2_1_7 S.size.symm
  have kg3_2_8 := S.new
  have lg3_2_8 := Nat.lt_of_lt_of_eq lg3_2_7 S.size.symm
  have bl8 := S.below bl7 og3_2
  clear S
  refine Eng.tail_nil ?_
  refine Eng.regionS (Eng.still [fun u_ => u_ = .int .i64 (k : Nat), fun u_ => u_ = .int .i64 (IntKind.i64.wrap ((k : Nat) + 1)), fun u_ => u_ = .int .i64 (IntKind.i64.wrap ((k : Nat) + 1))]) (fun _ => .plain) 3 0 23 s7 rfl (by kernel_rfl) (Eng.still_stable _) (Or.inr (Eng.still_any _)) ?_ ?_
  ·refine Eng.Steps.cons (fun _ => ?_) (Eng.Steps.cons (fun _ => ?_) (Eng.Steps.cons (fun _ => ?_) (Eng.Steps.nil)))
   ·refine Eng.plain rfl rfl fun a w' H => ?_
    exact Eng.val (w1 := w') (v := .int .i64 (k : Nat)) (Eng.run_move rfl ((H.kept 4 (by kernel_rfl)).trans h4_7)) (Below.refl _ _) rfl
   ·refine Eng.plain rfl rfl fun a w' H => ?_
    refine Eng.val (w1 := w') (v := .int .i64 (IntKind.i64.wrap ((k : Nat) + 1))) ?_ (Below.refl _ _) rfl
    have e0 : a.eval (.tmp 11) = .int .i64 (k : Nat) := (H.dep 0 11 (by kernel_rfl) rfl)
    have e1 : a.eval (.const (.int .i64 1)) = .int .i64 1 := (rfl : a.eval (.const (.int .i64 1)) = .int .i64 1)
    simp only [execOp, resolve, e0, e1]
    go_simp
   ·refine Eng.plain rfl rfl fun a w' H => ?_
    exact Eng.val (w1 := w') (v := .int .i64 (IntKind.i64.wrap ((k : Nat) + 1))) (Eng.run_assign rfl (H.dep 1 12 (by kernel_rfl) rfl)) (Below.refl _ _) rfl
  intro act9 w9 T
  have h0_9 := (T.rest 0 (by kernel_rfl)).trans h0_7
  have h1_9 := (T.rest 1 (by kernel_rfl)).trans h1_7
  have h2_9 := (T.rest 2 (by kernel_rfl)).trans h2_7
  have h3_9 := (T.rest 3 (by kernel_rfl)).trans h3_7
  have kg1_1_9 := (T.below.block _ lg1_1_8).trans kg1_1_8
  have lg1_1_9 := Nat.lt_of_lt_of_le lg1_1_8 T.below.size
  have kg2_1_9 := (T.below.block _ lg2_1_8).trans kg2_1_8
  have lg2_1_9 := Nat.lt_of_lt_of_le lg2_1_8 T.below.size
  have kg3_2_9 := (T.below.block _ lg3_2_8).trans kg3_2_8
  have lg3_2_9 := Nat.lt_of_lt_of_le lg3_2_8 T.below.size
  have h4_9 : act9.eval (.tmp 4) = .int .i64 (IntKind.i64.wrap ((k : Nat) + 1)) := T.done 2 4 rfl rfl
  have d9 := T.defers.trans d7
  have s9 := T.size.trans s7
  have bl9 := bl8.trans (T.below.mono bl8.size)
  clear T
  refine Eng.tail_nil ?_
  exact ⟨_, by omega, k + 1, rfl, by omega, d9, s9, bl9, h0_9, h1_9, h2_9, h3_9, (h4_9.trans (by first | rfl | (congr 1; rw [Eng.i64_id (by omega) (by omega)]; omega) | (simp; done))), kg1_1_9, lg1_1_9, kg2_1_9, lg2_1_9, (kg3_2_9.trans (by first | rfl | (rw [Nfa.begins_succ, Nfa.begin_at hkb]; done))), lg3_2_9⟩
 ·
  have c10 := Bq10.symm.trans hq
  clear hq
  have c10 := of_decide_eq_false c10
  refine wp_exit ?_
  refine wp_seq ?_
  refine Eng.regionS (Eng.still [fun u_ => u_ = .agg #[pv, bv, .int .i64 many], fun u_ => u_ = .agg ((List.map (Value.int .u64) (Nfa.begins bs k)).toArray), fun u_ => u_ = .agg ((List.map (Value.int .u64) (Nfa.closeF (Nfa.begins bs k) (Nfa.items ps bs))).toArray)]) (fun _ => .plain) 3 1 23 s5 rfl (by kernel_rfl) (Eng.still_stable _) (Or.inr (Eng.still_any _)) ?_ ?_
  ·refine Eng.Steps.cons (fun _ => ?_) (Eng.Steps.cons (fun _ => ?_) (Eng.Steps.cons (fun _ => ?_) (Eng.Steps.cons (fun hlt => ?_) (Eng.Steps.nil))))
   ·refine Eng.plain rfl rfl fun a w' H => ?_
    have kb := (H.below.block _ lg1_1_5).trans kg1_1_5
    have z0 : w'.cell? ⟨g1_1, 0, none⟩ = some (pv) := (Eng.cells kb 0).trans rfl
    have z1 : w'.cell? ⟨g1_1, 1, none⟩ = some (bv) := (Eng.cells kb 1).trans rfl
    have z2 : w'.cell? ⟨g1_1, 2, none⟩ = some (.int .i64 many) := (Eng.cells kb 2).trans rfl
    refine Eng.val (w1 := w') (v := .agg #[pv, bv, .int .i64 many]) ?_ (Below.refl _ _) rfl
    have e0 := ((H.kept 1 (by kernel_rfl)).trans h1_5)
    simp only [execOp, resolve, e0]
    go_simp
   ·refine Eng.plain rfl rfl fun a w' H => ?_
    have kb := (H.below.block _ lg3_2_5).trans kg3_2_5
    refine Eng.val (w1 := w') (v := .agg ((List.map (Value.int .u64) (Nfa.begins bs k)).toArray)) ?_ (Below.refl _ _) rfl
    exact Eng.run_load_all rfl ((H.kept 3 (by kernel_rfl)).trans h3_5) kb Tryd.underlying61 rfl (by rw [Nfa.cells_size ((Nfa.begins_good _ _).len)]; kernel_rfl)
   ·refine Eng.plain rfl rfl fun a w' H => ?_
    refine Eng.call Tryd.func114 (by kernel_rfl) (by kernel_rfl) rfl #[.agg #[pv, bv, .int .i64 many], .agg ((List.map (Value.int .u64) (Nfa.begins bs k)).toArray)] ?_ ?_
    ·have e0 : a.eval (.tmp 20) = .agg #[pv, bv, .int .i64 many] := (H.dep 0 20 (by kernel_rfl) rfl); have e1 : a.eval (.tmp 21) = .agg ((List.map (Value.int .u64) (Nfa.begins bs k)).toArray) := (H.dep 1 21 (by kernel_rfl) rfl); simp only [List.map_toArray, List.map_cons, List.map_nil, e0, e1]
    refine (Nfa.rclosed_calls pv bv many ps bs vs (Nfa.begins bs k) _ (Nfa.begins_good _ _) hvl (Eng.Reads.below Fpp_5 H.below) (fun k hk => Eng.Reads.below (Eng.Reads.below (hin k hk) bl5) H.below) (Eng.Reads.below Fbb_5 H.below) hL).mono ?_
    rintro e w'' ⟨rfl, hb⟩
    exact ⟨_, rfl, rfl, hb⟩
   ·exact absurd hlt (by decide)
  intro act11 w11 T
  have h2_11 := (T.rest 2 (by kernel_rfl)).trans h2_5
  have kg2_1_11 := (T.below.block _ lg2_1_5).trans kg2_1_5
  have h22_11 : act11.eval (.tmp 22) = .agg ((List.map (Value.int .u64) (Nfa.closeF (Nfa.begins bs k) (Nfa.items ps bs))).toArray) := T.done 2 22 rfl rfl
  have d11 := T.defers.trans d5
  have bl11 := bl5.trans (T.below.mono bl5.size)
  clear T
  refine Eng.tail_arr rfl rfl rfl rfl h2_11 h22_11 kg2_1_11 (by rw [Nfa.cells_size ((Nfa.closeF_good (Nfa.begins_good _ _) _).len)]; kernel_rfl) ((Nfa.cells_size ((Nfa.good0).len)).trans (Nfa.cells_size ((Nfa.closeF_good (Nfa.begins_good _ _) _).len)).symm) (by first | exact Nfa.ones_u _ | simp [Value.oneCell']) fun w12 S => ?_
  have kg2_1_12 := S.new
  have bl12 := S.below bl11 og2_1
  clear S
  refine Eng.tail_nil ?_
  refine wp_ret ?_
  repeat (first | refine Eng.in_ret ?_ | refine Eng.then_ret ?_)
  obtain rfl : k = ps.length := by omega
  exact Eng.retc rfl d11 h2_11 kg2_1_12 Tryd.underlying61 rfl (by rw [Nfa.cells_size ((Nfa.closeF_good (Nfa.begins_good _ _) _).len)]; kernel_rfl) ⟨rfl, bl12⟩
end Go.Proofs.YthgafcaoibfchaaDoor.X
