/- Words and walks that the row of NfaRuns needs: printed by programs, and plain laws. -/
import Derived.Test.YthgafcaoibfchaaDoorM16
import Derived.Test.YthgafcaoibfchaaDoorM17
import Derived.Test.YthgafcaoibfchaaDoorM14
import Derived.Test.YthgafcaoibfchaaDoorM8
namespace Go.Proofs.YthgafcaoibfchaaDoorW.PrintWords
end Go.Proofs.YthgafcaoibfchaaDoorW.PrintWords
namespace Go.Proofs.YthgafcaoibfchaaDoorW.PrintLast
end Go.Proofs.YthgafcaoibfchaaDoorW.PrintLast
namespace Go.Proofs.YthgafcaoibfchaaDoorW.PrintMore
end Go.Proofs.YthgafcaoibfchaaDoorW.PrintMore
section
namespace Go.Proofs.YthgafcaoibfchaaDoor.X
open Go.RowKit Go.Shelf Go.Proofs Go.Proofs.YthgafcaoibfchaaDoorW.PrintWords Go.Proofs.YthgafcaoibfchaaDoorW.PrintLast Go.Proofs.YthgafcaoibfchaaDoorW.PrintMore
set_option linter.unusedVariables false
set_option linter.unusedSimpArgs false
set_option maxHeartbeats 4000000 in
set_option maxRecDepth 100000 in
theorem Nfa.rrun_calls (pv bv : Value) (many : Int) (ps : List (List Pth.Part)) (bs : List Int) (vs : List Value) (sv : Value) (l : List ByteArray) (w : World) (hvl : vs.length = ps.length) (hp : Eng.Reads w pv ps.length 1 vs) (hin : ∀ k, k < ps.length → Eng.Reads w (vs.getD k undef) (ps.getD k []).length 2 (Pth.cellsP (ps.getD k []))) (hb : Eng.Reads w bv bs.length 1 (Nfa.ints bs)) (hL : Nfa.Lie ps bs) (hst : Eng.Reads w sv l.length 1 (Nfa.strs l)) : Calls Tryd.prog 41 #[.agg #[pv, bv, .int .i64 many], sv] w fun e w' => e = .returned (.agg (List.map (Value.int .u64) (Nfa.run ps bs l)).toArray) ∧ Below w.heap.size w w' := by
 have hm := Eng.Reads.len_le hst
 refine Eng.enter Tryd.func41 rfl fun act0 d0 s0 v0 => ?_
 have s0 : act0.tmps.size = 23 := s0
 have h0_0 : act0.eval (.tmp 0) = .agg #[pv, bv, .int .i64 many] := v0 0 (by simp)
 have h1_0 : act0.eval (.tmp 1) = sv := v0 1 (by simp)
 clear v0
 have bl0 : Below w.heap.size w w := Below.refl _ _
 refine wp_seq ?_
 refine Eng.regionS (Eng.still [fun u_ => True, fun u_ => True]) (fun i => ([.alloc 71 #[pv, bv, .int .i64 many], .alloc 61 ((List.map (Value.int .u64) (List.replicate 8 0)).toArray)] : List Eng.Kind).getD i .plain) 2 0 23 s0 rfl (by kernel_rfl) (Eng.still_stable _) (Or.inr (Eng.still_any _)) ?_ ?_
 ·refine Eng.Steps.cons (fun _ => ?_) (Eng.Steps.cons (fun _ => ?_) (Eng.Steps.nil))
  ·refine Eng.made rfl (by simp) rfl (fun a w' hd ho => ?_) (fun _ _ => trivial)
   exact Eng.run_box rfl ((ho 0 (by kernel_rfl)).trans h0_0)
  ·refine Eng.made rfl (by simp) rfl (fun a w' hd ho => ?_) (fun _ _ => trivial)
   exact Eng.run_alloc rfl (by kernel_rfl)
 intro act1 w1 T
 have h0_1 := (T.rest 0 (by kernel_rfl)).trans h0_0
 have h1_1 := (T.rest 1 (by kernel_rfl)).trans h1_0
 have Fpp_1 := Eng.Reads.below hp T.below
 have Fbb_1 := Eng.Reads.below hb T.below
 obtain ⟨g2_1, h2_1, rg2_1, lg2_1_1, kg2_1_1⟩ := T.al 0 2 _ _ rfl rfl rfl (by kernel_rfl)
 obtain ⟨g4_1, h4_1, rg4_1, lg4_1_1, kg4_1_1⟩ := T.al 1 4 _ _ rfl rfl rfl (by kernel_rfl)
 have og4_1 : w.heap.size ≤ g4_1 := Nat.le_trans bl0.size rg4_1
 have d1 := T.defers.trans d0
 have s1 := T.size.trans s0
 have bl1 := bl0.trans (T.below.mono bl0.size)
 clear T
 refine Eng.tail_nil ?_
 refine wp_seq ?_
 refine Eng.regionS (Eng.still [fun u_ => u_ = .agg #[pv, bv, .int .i64 many], fun u_ => u_ = .agg ((List.map (Value.int .u64) (Nfa.start ps bs)).toArray), fun u_ => True, fun u_ => True]) (fun i => ([.plain, .plain, .alloc 61 ((List.map (Value.int .u64) (List.replicate 8 0)).toArray), .store 2 ((List.map (Value.int .u64) (Nfa.start ps bs)).toArray)] : List Eng.Kind).getD i .plain) 4 0 23 s1 rfl (by kernel_rfl) (Eng.still_stable _) (Or.inr (Eng.still_any _)) ?_ ?_
 ·refine Eng.Steps.cons (fun _ => ?_) (Eng.Steps.cons (fun _ => ?_) (Eng.Steps.cons (fun _ => ?_) (Eng.Steps.cons (fun _ => ?_) (Eng.Steps.nil))))
  ·refine Eng.plain rfl rfl fun a w' H => ?_
   have kb := (H.below.block _ lg2_1_1).trans kg2_1_1
   have z0 : w'.cell? ⟨g2_1, 0, none⟩ = some (pv) := (Eng.cells kb 0).trans rfl
   have z1 : w'.cell? ⟨g2_1, 1, none⟩ = some (bv) := (Eng.cells kb 1).trans rfl
   have z2 : w'.cell? ⟨g2_1, 2, none⟩ = some (.int .i64 many) := (Eng.cells kb 2).trans rfl
   refine Eng.val (w1 := w') (v := .agg #[pv, bv, .int .i64 many]) ?_ (Below.refl _ _) rfl
   have e0 := ((H.kept 2 (by kernel_rfl)).trans h2_1)
   simp only [execOp, resolve, e0]
   go_simp
  ·refine Eng.plain rfl rfl fun a w' H => ?_
   refine Eng.call Tryd.func82 (by kernel_rfl) (by kernel_rfl) rfl #[.agg #[pv, bv, .int .i64 many]] ?_ ?_
   ·have e0 : a.eval (.tmp 7) = .agg #[pv, bv, .int .i64 many] := (H.dep 0 7 (by kernel_rfl) rfl); simp only [List.map_toArray, List.map_cons, List.map_nil, e0]
   refine (Nfa.rstart_calls pv bv many ps bs vs _ hvl (Eng.Reads.below Fpp_1 H.below) (fun k hk => Eng.Reads.below (Eng.Reads.below (hin k hk) bl1) H.below) (Eng.Reads.below Fbb_1 H.below) hL).mono ?_
   rintro e w'' ⟨rfl, hb⟩
   exact ⟨_, rfl, rfl, hb⟩
  ·refine Eng.made rfl (by simp) rfl (fun a w' hd ho => ?_) (fun _ _ => trivial)
   exact Eng.run_alloc rfl (by kernel_rfl)
  ·refine Eng.stored_arr rfl rfl rfl (j := 2) (d := 5) (by kernel_rfl) rfl rfl (Eng.store_uniq (by kernel_rfl)) ((Nfa.cells_size ((Nfa.good0).len)).trans (Nfa.cells_size ((Nfa.start_good _ _).len)).symm) rfl (by rw [Nfa.cells_size ((Nfa.start_good _ _).len)]; kernel_rfl) (by first | exact Nfa.ones_u _ | simp [Value.oneCell']) fun a w' hd ho => ?_
   exact (hd 1 8 (by kernel_rfl) rfl)
 intro act2 w2 T
 have h0_2 := (T.rest 0 (by kernel_rfl)).trans h0_1
 have h1_2 := (T.rest 1 (by kernel_rfl)).trans h1_1
 have h2_2 := (T.rest 2 (by kernel_rfl)).trans h2_1
 have h4_2 := (T.rest 4 (by kernel_rfl)).trans h4_1
 have kg2_1_2 := (T.below.block _ lg2_1_1).trans kg2_1_1
 have lg2_1_2 := Nat.lt_of_lt_of_le lg2_1_1 T.below.size
 have kg4_1_2 := (T.below.block _ lg4_1_1).trans kg4_1_1
 have lg4_1_2 := Nat.lt_of_lt_of_le lg4_1_1 T.below.size
 obtain ⟨g5_2, h5_2, rg5_2, lg5_2_2, kg5_2_2⟩ := T.st 2 5 3 _ _ _ rfl rfl rfl rfl rfl
 have og5_2 : w.heap.size ≤ g5_2 := Nat.le_trans bl1.size rg5_2
 have ne_g5_2_g2_1 : g2_1 ≠ g5_2 := fun e => Nat.lt_irrefl _ (Nat.lt_of_lt_of_le (e ▸ lg2_1_1) rg5_2)
 have ne_g5_2_g4_1 : g4_1 ≠ g5_2 := fun e => Nat.lt_irrefl _ (Nat.lt_of_lt_of_le (e ▸ lg4_1_1) rg5_2)
 have d2 := T.defers.trans d1
 have s2 := T.size.trans s1
 have bl2 := bl1.trans (T.below.mono bl1.size)
 clear T
 refine Eng.tail_nil ?_
 refine wp_seq ?_
 refine wp_seq ?_
 refine Eng.regionS (Eng.still [fun u_ => u_ = .int .i64 0]) (fun _ => .plain) 1 0 23 s2 rfl (by kernel_rfl) (Eng.still_stable _) (Or.inr (Eng.still_any _)) ?_ ?_
 ·refine Eng.Steps.cons (fun _ => ?_) (Eng.Steps.nil)
  ·refine Eng.plain rfl rfl fun a w' H => ?_
   exact Eng.val (w1 := w') (v := .int .i64 0) (Eng.run_assign rfl (rfl : a.eval (.const (.int .i64 0)) = .int .i64 0)) (Below.refl _ _) rfl
 intro act3 w3 T
 have h0_3 := (T.rest 0 (by kernel_rfl)).trans h0_2
 have h1_3 := (T.rest 1 (by kernel_rfl)).trans h1_2
 have h2_3 := (T.rest 2 (by kernel_rfl)).trans h2_2
 have h4_3 := (T.rest 4 (by kernel_rfl)).trans h4_2
 have h5_3 := (T.rest 5 (by kernel_rfl)).trans h5_2
 have kg2_1_3 := (T.below.block _ lg2_1_2).trans kg2_1_2
 have lg2_1_3 := Nat.lt_of_lt_of_le lg2_1_2 T.below.size
 have kg4_1_3 := (T.below.block _ lg4_1_2).trans kg4_1_2
 have lg4_1_3 := Nat.lt_of_lt_of_le lg4_1_2 T.below.size
 have kg5_2_3 := (T.below.block _ lg5_2_2).trans kg5_2_2
 have lg5_2_3 := Nat.lt_of_lt_of_le lg5_2_2 T.below.size
 have h6_3 : act3.eval (.tmp 6) = .int .i64 0 := T.done 0 6 rfl rfl
 have d3 := T.defers.trans d2
 have s3 := T.size.trans s2
 have bl3 := bl2.trans (T.below.mono bl2.size)
 clear T
 refine Eng.tail_nil ?_
 refine wp_block ?_
 refine Eng.loopN (fun n a w' => ∃ (k : Nat), l.length - k = n ∧ (k ≤ l.length) ∧ a.defers = [] ∧ a.tmps.size = 23 ∧ Below w.heap.size w w' ∧ a.eval (.tmp 0) = .agg #[pv, bv, .int .i64 many] ∧ a.eval (.tmp 1) = sv ∧ a.eval (.tmp 2) = .pointer (some ⟨g2_1, 0, none⟩) ∧ a.eval (.tmp 4) = .pointer (some ⟨g4_1, 0, none⟩) ∧ a.eval (.tmp 5) = .pointer (some ⟨g5_2, 0, none⟩) ∧ a.eval (.tmp 6) = .int .i64 (k : Nat) ∧ w'.heap[g2_1]? = some (.cells (#[pv, bv, .int .i64 many]) 71 (0, 0)) ∧ g2_1 < w'.heap.size ∧ w'.heap[g4_1]? = some (.cells ((List.map (Value.int .u64) (List.replicate 8 0)).toArray) 61 (0, 0)) ∧ g4_1 < w'.heap.size ∧ w'.heap[g5_2]? = some (.cells ((List.map (Value.int .u64) (Nfa.run ps bs (List.take k l))).toArray) 61 (0, 0)) ∧ g5_2 < w'.heap.size) (n0 := l.length - 0) ?_ ?_
 ·exact ⟨0, rfl, by omega, d3, s3, bl3, h0_3, h1_3, h2_3, h4_3, h5_3, (h6_3.trans (by first | rfl | (congr 1; rw [Eng.i64_id (by omega) (by omega)]; omega) | (simp; done))), kg2_1_3, lg2_1_3, kg4_1_3, lg4_1_3, (kg5_2_3.trans (by first | rfl | (rw [Nfa.run_take _ _ hk0]; done))), lg5_2_3⟩
 rintro n act4 w4 ⟨k, rfl, hc0_4, d4, s4, bl4, h0_4, h1_4, h2_4, h4_4, h5_4, h6_4, kg2_1_4, lg2_1_4, kg4_1_4, lg4_1_4, kg5_2_4, lg5_2_4⟩
 have Fpp_4 := Eng.Reads.below hp bl4
 have Fbb_4 := Eng.Reads.below hb bl4
 have Fst_4 := Eng.Reads.below hst bl4
 have hk1 := hc0_4
 refine wp_seq ?_
 refine wp_seq ?_
 obtain ⟨q12, Bq12⟩ : ∃ b : Bool, b = (decide ((k : Nat) < ((l.length : Nat) : Int))) := ⟨_, rfl⟩
 refine Eng.regionS (Eng.still [fun u_ => u_ = .int .i64 (k : Nat), fun u_ => u_ = sv, fun u_ => u_ = .int .i64 ((l.length : Nat) : Int), fun u_ => u_ = .bool q12]) (fun _ => .plain) 4 0 23 s4 rfl (by kernel_rfl) (Eng.still_stable _) (Or.inr (Eng.still_any _)) ?_ ?_
 ·refine Eng.Steps.cons (fun _ => ?_) (Eng.Steps.cons (fun _ => ?_) (Eng.Steps.cons (fun _ => ?_) (Eng.Steps.cons (fun _ => ?_) (Eng.Steps.nil))))
  ·refine Eng.plain rfl rfl fun a w' H => ?_
   exact Eng.val (w1 := w') (v := .int .i64 (k : Nat)) (Eng.run_move rfl ((H.kept 6 (by kernel_rfl)).trans h6_4)) (Below.refl _ _) rfl
  ·refine Eng.plain rfl rfl fun a w' H => ?_
   exact Eng.val (w1 := w') (v := sv) (Eng.run_move rfl ((H.kept 1 (by kernel_rfl)).trans h1_4)) (Below.refl _ _) rfl
  ·refine Eng.plain rfl rfl fun a w' H => ?_
   refine Eng.val (w1 := w') (v := .int .i64 ((l.length : Nat) : Int)) ?_ (Below.refl _ _) rfl
   exact Eng.run_len_sl rfl Tryd.underlying43 (show a.eval (.tmp 10) = sv from (H.dep 1 10 (by kernel_rfl) rfl)) (Eng.Reads.below Fst_4 H.below)
  ·refine Eng.plain rfl rfl fun a w' H => ?_
   refine Eng.val (w1 := w') (v := .bool (decide ((k : Nat) < ((l.length : Nat) : Int)))) ?_ (Below.refl _ _) (by show _ = Value.bool q12; rw [Bq12])
   have e0 : a.eval (.tmp 9) = .int .i64 (k : Nat) := (H.dep 0 9 (by kernel_rfl) rfl)
   have e1 : a.eval (.tmp 11) = .int .i64 ((l.length : Nat) : Int) := (H.dep 2 11 (by kernel_rfl) rfl)
   simp only [execOp, resolve, e0, e1]
   go_simp
 intro act5 w5 T
 have h0_5 := (T.rest 0 (by kernel_rfl)).trans h0_4
 have h1_5 := (T.rest 1 (by kernel_rfl)).trans h1_4
 have h2_5 := (T.rest 2 (by kernel_rfl)).trans h2_4
 have h4_5 := (T.rest 4 (by kernel_rfl)).trans h4_4
 have h5_5 := (T.rest 5 (by kernel_rfl)).trans h5_4
 have h6_5 := (T.rest 6 (by kernel_rfl)).trans h6_4
 have kg2_1_5 := (T.below.block _ lg2_1_4).trans kg2_1_4
 have lg2_1_5 := Nat.lt_of_lt_of_le lg2_1_4 T.below.size
 have kg4_1_5 := (T.below.block _ lg4_1_4).trans kg4_1_4
 have lg4_1_5 := Nat.lt_of_lt_of_le lg4_1_4 T.below.size
 have kg5_2_5 := (T.below.block _ lg5_2_4).trans kg5_2_4
 have lg5_2_5 := Nat.lt_of_lt_of_le lg5_2_4 T.below.size
 have Fpp_5 := Eng.Reads.below Fpp_4 T.below
 have Fbb_5 := Eng.Reads.below Fbb_4 T.below
 have Fst_5 := Eng.Reads.below Fst_4 T.below
 have h12_5 : act5.eval (.tmp 12) = .bool q12 := T.done 3 12 rfl rfl
 have d5 := T.defers.trans d4
 have s5 := T.size.trans s4
 have bl5 := bl4.trans (T.below.mono bl4.size)
 clear T
 refine Eng.tail_nil ?_
 refine wp_cond_split h12_5 (fun hq => ?_) (fun hq => ?_)
 ·
  have c12 := Bq12.symm.trans hq
  clear hq
  have c12 := of_decide_eq_true c12
  have hk0 : k < l.length := by omega
  refine wp_skip ?_
  refine wp_seq ?_
  refine wp_block ?_
  refine Eng.regionD (Eng.still [fun u_ => u_ = .agg #[pv, bv, .int .i64 many], fun u_ => u_ = .agg ((List.map (Value.int .u64) (Nfa.run ps bs (List.take k l))).toArray), fun u_ => u_ = sv, fun u_ => u_ = .int .i64 (k : Nat), fun u_ => u_ = Eng.elemPtr sv (k * 1), fun u_ => u_ = .string (l.getD k default), fun u_ => u_ = .agg ((List.map (Value.int .u64) (Nfa.step ps bs (Nfa.run ps bs (List.take k l)) (l.getD k default))).toArray)]) (fun _ => .plain) 7 1 23 (by kernel_rfl) s5 rfl (by kernel_rfl) (Eng.still_stable _) (Or.inr (Eng.still_any _)) ?_ ?_
  ·refine Eng.Steps.cons (fun _ => ?_) (Eng.Steps.cons (fun _ => ?_) (Eng.Steps.cons (fun _ => ?_) (Eng.Steps.cons (fun _ => ?_) (Eng.Steps.cons (fun _ => ?_) (Eng.Steps.cons (fun _ => ?_) (Eng.Steps.cons (fun _ => ?_) (Eng.Steps.cons (fun hlt => ?_) (Eng.Steps.nil))))))))
   ·refine Eng.plain rfl rfl fun a w' H => ?_
    have kb := (H.below.block _ lg2_1_5).trans kg2_1_5
    have z0 : w'.cell? ⟨g2_1, 0, none⟩ = some (pv) := (Eng.cells kb 0).trans rfl
    have z1 : w'.cell? ⟨g2_1, 1, none⟩ = some (bv) := (Eng.cells kb 1).trans rfl
    have z2 : w'.cell? ⟨g2_1, 2, none⟩ = some (.int .i64 many) := (Eng.cells kb 2).trans rfl
    refine Eng.val (w1 := w') (v := .agg #[pv, bv, .int .i64 many]) ?_ (Below.refl _ _) rfl
    have e0 := ((H.kept 2 (by kernel_rfl)).trans h2_5)
    simp only [execOp, resolve, e0]
    go_simp
   ·refine Eng.plain rfl rfl fun a w' H => ?_
    have kb := (H.below.block _ lg5_2_5).trans kg5_2_5
    refine Eng.val (w1 := w') (v := .agg ((List.map (Value.int .u64) (Nfa.run ps bs (List.take k l))).toArray)) ?_ (Below.refl _ _) rfl
    exact Eng.run_load_all rfl ((H.kept 5 (by kernel_rfl)).trans h5_5) kb Tryd.underlying61 rfl (by rw [Nfa.cells_size ((Nfa.run_good _ _ _).len)]; kernel_rfl)
   ·refine Eng.plain rfl rfl fun a w' H => ?_
    exact Eng.val (w1 := w') (v := sv) (Eng.run_move rfl ((H.kept 1 (by kernel_rfl)).trans h1_5)) (Below.refl _ _) rfl
   ·refine Eng.plain rfl rfl fun a w' H => ?_
    exact Eng.val (w1 := w') (v := .int .i64 (k : Nat)) (Eng.run_move rfl ((H.kept 6 (by kernel_rfl)).trans h6_5)) (Below.refl _ _) rfl
   ·refine Eng.plain rfl rfl fun a w' H => ?_
    refine Eng.val (w1 := w') (v := Eng.elemPtr sv (k * 1)) ?_ (Below.refl _ _) rfl
    exact Eng.run_index_sl rfl Tryd.underlying43 (by kernel_rfl) (show a.eval (.tmp 17) = sv from (H.dep 2 17 (by kernel_rfl) rfl)) ((show a.eval (.tmp 18) = .int .i64 (k : Nat) from (H.dep 3 18 (by kernel_rfl) rfl)).trans (congrArg (Value.int _) (show (k : Nat) = ((k : Nat) : Int) from by omega))) (Eng.Reads.below Fst_5 H.below) (by omega) rfl
   ·refine Eng.plain rfl rfl fun a w' H => ?_
    refine Eng.val (w1 := w') (v := .string (l.getD k default)) ?_ (Below.refl _ _) rfl
    exact Eng.run_load_el (.string (l.getD k default)) rfl (show a.eval (.tmp 19) = Eng.elemPtr sv (k * 1) from (H.dep 4 19 (by kernel_rfl) rfl)) (Eng.Reads.below Fst_5 H.below) (Nfa.strs_at l k (by omega)) (by kernel_rfl)
   ·refine Eng.plain rfl rfl fun a w' H => ?_
    refine Eng.call Tryd.func83 (by kernel_rfl) (by kernel_rfl) rfl #[.agg #[pv, bv, .int .i64 many], .agg ((List.map (Value.int .u64) (Nfa.run ps bs (List.take k l))).toArray), .string (l.getD k default)] ?_ ?_
    ·have e0 : a.eval (.tmp 15) = .agg #[pv, bv, .int .i64 many] := (H.dep 0 15 (by kernel_rfl) rfl); have e1 : a.eval (.tmp 16) = .agg ((List.map (Value.int .u64) (Nfa.run ps bs (List.take k l))).toArray) := (H.dep 1 16 (by kernel_rfl) rfl); have e2 : a.eval (.tmp 20) = .string (l.getD k default) := (H.dep 5 20 (by kernel_rfl) rfl); simp only [List.map_toArray, List.map_cons, List.map_nil, e0, e1, e2]
    refine (Nfa.rstep_calls pv bv many ps bs vs (Nfa.run ps bs (List.take k l)) (l.getD k default) _ (Nfa.run_good _ _ _) hvl (Eng.Reads.below Fpp_5 H.below) (fun k hk => Eng.Reads.below (Eng.Reads.below (hin k hk) bl5) H.below) (Eng.Reads.below Fbb_5 H.below) hL).mono ?_
    rintro e w'' ⟨rfl, hb⟩
    exact ⟨_, rfl, rfl, hb⟩
   ·exact absurd hlt (by decide)
  intro act7 w7 T
  have h0_7 := (T.rest 0 (by kernel_rfl)).trans h0_5
  have h1_7 := (T.rest 1 (by kernel_rfl)).trans h1_5
  have h2_7 := (T.rest 2 (by kernel_rfl)).trans h2_5
  have h4_7 := (T.rest 4 (by kernel_rfl)).trans h4_5
  have h5_7 := (T.rest 5 (by kernel_rfl)).trans h5_5
  have h6_7 := (T.rest 6 (by kernel_rfl)).trans h6_5
  have kg2_1_7 := (T.below.block _ lg2_1_5).trans kg2_1_5
  have lg2_1_7 := Nat.lt_of_lt_of_le lg2_1_5 T.below.size
  have kg4_1_7 := (T.below.block _ lg4_1_5).trans kg4_1_5
  have lg4_1_7 := Nat.lt_of_lt_of_le lg4_1_5 T.below.size
  have kg5_2_7 := (T.below.block _ lg5_2_5).trans kg5_2_5
  have lg5_2_7 := Nat.lt_of_lt_of_le lg5_2_5 T.below.size
  have h21_7 : act7.eval (.tmp 21) = .agg ((List.map (Value.int .u64) (Nfa.step ps bs (Nfa.run ps bs (List.take k l)) (l.getD k default))).toArray) := T.done 6 21 rfl rfl
  have d7 := T.defers.trans d5
  have s7 := T.size.trans s5
  have bl7 := bl5.trans (T.below.mono bl5.size)
  clear T
  refine Eng.tail_arr rfl rfl rfl rfl h5_7 h21_7 kg5_2_7 (by rw [Nfa.cells_size ((Nfa.step_good _ _ _ _).len)]; kernel_rfl) ((Nfa.cells_size ((Nfa.run_good _ _ _).len)).trans (Nfa.cells_size ((Nfa.step_good _ _ _ _).len)).symm) (by first | exact Nfa.ones_u _ | simp [Value.oneCell']) fun w8 S => ?_
  have kg2_1_8 := (S.far _ ne_g5_2_g2_1).trans kg2_1_7
  have lg2_1_8 := Nat.lt_of_lt_of_eq lg2_1_7 S.size.symm
  have kg4_1_8 := (S.far _ ne_g5_2_g4_1).trans kg4_1_7
  have lg4_1_8 := Nat.lt_of_lt_of_eq lg4_1_7 S.size.symm
  have kg5_2_8 := S.new
  have lg5_2_8 := Nat.lt_of_lt_of_eq lg5_2_7 S.size.symm
  have bl8 := S.below bl7 og5_2
  clear S
  refine Eng.tail_nil ?_
  refine Eng.regionS (Eng.still [fun u_ => u_ = .int .i64 (k : Nat), fun u_ => u_ = .int .i64 (IntKind.i64.wrap ((k : Nat) + 1)), fun u_ => u_ = .int .i64 (IntKind.i64.wrap ((k : Nat) + 1))]) (fun _ => .plain) 3 0 23 s7 rfl (by kernel_rfl) (Eng.still_stable _) (Or.inr (Eng.still_any _)) ?_ ?_
  ·refine Eng.Steps.cons (fun _ => ?_) (Eng.Steps.cons (fun _ => ?_) (Eng.Steps.cons (fun _ => ?_) (Eng.Steps.nil)))
   ·refine Eng.plain rfl rfl fun a w' H => ?_
    exact Eng.val (w1 := w') (v := .int .i64 (k : Nat)) (Eng.run_move rfl ((H.kept 6 (by kernel_rfl)).trans h6_7)) (Below.refl _ _) rfl
   ·refine Eng.plain rfl rfl fun a w' H => ?_
    refine Eng.val (w1 := w') (v := .int .i64 (IntKind.i64.wrap ((k : Nat) + 1))) ?_ (Below.refl _ _) rfl
    have e0 : a.eval (.tmp 13) = .int .i64 (k : Nat) := (H.dep 0 13 (by kernel_rfl) rfl)
    have e1 : a.eval (.const (.int .i64 1)) = .int .i64 1 := (rfl : a.eval (.const (.int .i64 1)) = .int .i64 1)
    simp only [execOp, resolve, e0, e1]
    go_simp
   ·refine Eng.plain rfl rfl fun a w' H => ?_
    exact Eng.val (w1 := w') (v := .int .i64 (IntKind.i64.wrap ((k : Nat) + 1))) (Eng.run_assign rfl (H.dep 1 14 (by kernel_rfl) rfl)) (Below.refl _ _) rfl
  intro act9 w9 T
  have h0_9 := (T.rest 0 (by kernel_rfl)).trans h0_7
  have h1_9 := (T.rest 1 (by kernel_rfl)).trans h1_7
  have h2_9 := (T.rest 2 (by kernel_rfl)).trans h2_7
  have h4_9 := (T.rest 4 (by kernel_rfl)).trans h4_7
  have h5_9 := (T.rest 5 (by kernel_rfl)).trans h5_7
  have kg2_1_9 := (T.below.block _ lg2_1_8).trans kg2_1_8
  have lg2_1_9 := Nat.lt_of_lt_of_le lg2_1_8 T.below.size
  have kg4_1_9 := (T.below.block _ lg4_1_8).trans kg4_1_8
  have lg4_1_9 := Nat.lt_of_lt_of_le lg4_1_8 T.below.size
  have kg5_2_9 := (T.below.block _ lg5_2_8).trans kg5_2_8
  have lg5_2_9 := Nat.lt_of_lt_of_le lg5_2_8 T.below.size
  have h6_9 : act9.eval (.tmp 6) = .int .i64 (IntKind.i64.wrap ((k : Nat) + 1)) := T.done 2 6 rfl rfl
  have d9 := T.defers.trans d7
  have s9 := T.size.trans s7
  have bl9 := bl8.trans (T.below.mono bl8.size)
  clear T
  refine Eng.tail_nil ?_
  exact ⟨_, by omega, k + 1, rfl, by omega, d9, s9, bl9, h0_9, h1_9, h2_9, h4_9, h5_9, (h6_9.trans (by first | rfl | (congr 1; rw [Eng.i64_id (by omega) (by omega)]; omega) | (simp; done))), kg2_1_9, lg2_1_9, kg4_1_9, lg4_1_9, (kg5_2_9.trans (by first | rfl | (rw [Nfa.run_take _ _ hk0]; done))), lg5_2_9⟩
 ·
  have c12 := Bq12.symm.trans hq
  clear hq
  have c12 := of_decide_eq_false c12
  refine wp_exit ?_
  refine wp_seq ?_
  refine Eng.regionS (Eng.still [fun u_ => u_ = .agg ((List.map (Value.int .u64) (Nfa.run ps bs (List.take k l))).toArray)]) (fun _ => .plain) 1 1 23 s5 rfl (by kernel_rfl) (Eng.still_stable _) (Or.inr (Eng.still_any _)) ?_ ?_
  ·refine Eng.Steps.cons (fun _ => ?_) (Eng.Steps.cons (fun hlt => ?_) (Eng.Steps.nil))
   ·refine Eng.plain rfl rfl fun a w' H => ?_
    have kb := (H.below.block _ lg5_2_5).trans kg5_2_5
    refine Eng.val (w1 := w') (v := .agg ((List.map (Value.int .u64) (Nfa.run ps bs (List.take k l))).toArray)) ?_ (Below.refl _ _) rfl
    exact Eng.run_load_all rfl ((H.kept 5 (by kernel_rfl)).trans h5_5) kb Tryd.underlying61 rfl (by rw [Nfa.cells_size ((Nfa.run_good _ _ _).len)]; kernel_rfl)
   ·exact absurd hlt (by decide)
  intro act11 w11 T
  have h4_11 := (T.rest 4 (by kernel_rfl)).trans h4_5
  have kg4_1_11 := (T.below.block _ lg4_1_5).trans kg4_1_5
  have h22_11 : act11.eval (.tmp 22) = .agg ((List.map (Value.int .u64) (Nfa.run ps bs (List.take k l))).toArray) := T.done 0 22 rfl rfl
  have d11 := T.defers.trans d5
  have bl11 := bl5.trans (T.below.mono bl5.size)
  clear T
  refine Eng.tail_arr rfl rfl rfl rfl h4_11 h22_11 kg4_1_11 (by rw [Nfa.cells_size ((Nfa.run_good _ _ _).len)]; kernel_rfl) ((Nfa.cells_size ((Nfa.good0).len)).trans (Nfa.cells_size ((Nfa.run_good _ _ _).len)).symm) (by first | exact Nfa.ones_u _ | simp [Value.oneCell']) fun w12 S => ?_
  have kg4_1_12 := S.new
  have bl12 := S.below bl11 og4_1
  clear S
  refine Eng.tail_nil ?_
  refine wp_ret ?_
  repeat (first | refine Eng.in_ret ?_ | refine Eng.then_ret ?_)
  obtain rfl : k = l.length := by omega
  exact Eng.retc rfl d11 h4_11 (kg4_1_12.trans (by rw [List.take_length])) Tryd.underlying61 rfl (by rw [Nfa.cells_size (Nfa.run_len _ _ _)]; kernel_rfl) ⟨rfl, bl12⟩
end Go.Proofs.YthgafcaoibfchaaDoor.X
end
section
namespace Go.Proofs.YthgafcaoibfchaaDoor.X
open Go.RowKit Go.Shelf Go.Proofs Go.Proofs.YthgafcaoibfchaaDoorW.PrintWords Go.Proofs.YthgafcaoibfchaaDoorW.PrintLast Go.Proofs.YthgafcaoibfchaaDoorW.PrintMore
set_option linter.unusedVariables false
set_option linter.unusedSimpArgs false
set_option maxHeartbeats 4000000 in
set_option maxRecDepth 100000 in
theorem Nfa.both_calls0 (A B : Nat) (w : World) (hA : A < 2 ^ 64) (hB : B < 2 ^ 64) : Calls Tryd.prog 84 #[.int .u64 (A : Int), .int .u64 (B : Int)] w fun e w' => e = .returned (.int .u64 ((A ||| B : Nat) : Int)) ∧ Below w.heap.size w w' := by
 refine Eng.enter Tryd.func84 rfl fun act0 d0 s0 v0 => ?_
 have s0 : act0.tmps.size = 41 := s0
 have h0_0 : act0.eval (.tmp 0) = .int .u64 (A : Int) := v0 0 (by simp)
 have h1_0 : act0.eval (.tmp 1) = .int .u64 (B : Int) := v0 1 (by simp)
 clear v0
 have bl0 : Below w.heap.size w w := Below.refl _ _
 refine wp_seq ?_
 refine Eng.regionS (Eng.still [fun u_ => u_ = .int .u64 0]) (fun _ => .plain) 1 0 41 s0 rfl (by kernel_rfl) (Eng.still_stable _) (Or.inr (Eng.still_any _)) ?_ ?_
 ·refine Eng.Steps.cons (fun _ => ?_) (Eng.Steps.nil)
  ·refine Eng.plain rfl rfl fun a w' H => ?_
   exact Eng.val (w1 := w') (v := .int .u64 0) (Eng.run_assign rfl (rfl : a.eval (.const (.int .u64 0)) = .int .u64 0)) (Below.refl _ _) rfl
 intro act1 w1 T
 have h0_1 := (T.rest 0 (by kernel_rfl)).trans h0_0
 have h1_1 := (T.rest 1 (by kernel_rfl)).trans h1_0
 have h4_1 : act1.eval (.tmp 4) = .int .u64 0 := T.done 0 4 rfl rfl
 have d1 := T.defers.trans d0
 have s1 := T.size.trans s0
 have bl1 := bl0.trans (T.below.mono bl0.size)
 clear T
 refine Eng.tail_nil ?_
 refine wp_seq ?_
 refine wp_seq ?_
 obtain ⟨q10, Bq10⟩ : ∃ b : Bool, b = ((A : Int) == (B : Int)) := ⟨_, rfl⟩
 obtain ⟨q13, Bq13⟩ : ∃ b : Bool, b = ((B : Int) == 0) := ⟨_, rfl⟩
 obtain ⟨q14, Bq14⟩ : ∃ b : Bool, b = (q10 || q13) := ⟨_, rfl⟩
 refine Eng.regionS (Eng.still [fun u_ => u_ = .int .u64 (A : Int), fun u_ => u_ = .int .u64 (B : Int), fun u_ => u_ = .bool q10, fun u_ => u_ = .bool q10, fun u_ => u_ = bif (q10 == false) then (.int .u64 (B : Int)) else undef, fun u_ => u_ = bif (q10 == false) then (.bool q13) else undef, fun u_ => u_ = .bool q14]) (fun _ => .plain) 7 0 41 s1 rfl (by kernel_rfl) (Eng.still_stable _) (Or.inr (Eng.still_any _)) ?_ ?_
 ·refine Eng.Steps.cons (fun _ => ?_) (Eng.Steps.cons (fun _ => ?_) (Eng.Steps.cons (fun _ => ?_) (Eng.Steps.cons (fun _ => ?_) (Eng.Steps.cons (fun _ => ?_) (Eng.Steps.cons (fun _ => ?_) (Eng.Steps.cons (fun _ => ?_) (Eng.Steps.nil)))))))
  ·refine Eng.plain rfl rfl fun a w' H => ?_
   exact Eng.val (w1 := w') (v := .int .u64 (A : Int)) (Eng.run_move rfl ((H.kept 0 (by kernel_rfl)).trans h0_1)) (Below.refl _ _) rfl
  ·refine Eng.plain rfl rfl fun a w' H => ?_
   exact Eng.val (w1 := w') (v := .int .u64 (B : Int)) (Eng.run_move rfl ((H.kept 1 (by kernel_rfl)).trans h1_1)) (Below.refl _ _) rfl
  ·refine Eng.plain rfl rfl fun a w' H => ?_
   refine Eng.val (w1 := w') (v := .bool ((A : Int) == (B : Int))) ?_ (Below.refl _ _) (by show _ = Value.bool q10; rw [Bq10])
   have e0 : a.eval (.tmp 8) = .int .u64 (A : Int) := (H.dep 0 8 (by kernel_rfl) rfl)
   have e1 : a.eval (.tmp 9) = .int .u64 (B : Int) := (H.dep 1 9 (by kernel_rfl) rfl)
   simp only [execOp, resolve, e0, e1]
   go_simp
  ·refine Eng.plain rfl rfl fun a w' H => ?_
   exact Eng.val (w1 := w') (v := .bool q10) (Eng.run_move rfl (H.dep 2 10 (by kernel_rfl) rfl)) (Below.refl _ _) rfl
  ·refine Eng.guarded1 (j := 3) (d := 11) (b := q10) rfl rfl (by kernel_rfl) rfl (fun v w h => h) (fun hG w => Eng.off hG) fun hG a w' H => ?_
   exact Eng.val (w1 := w') (v := .int .u64 (B : Int)) (Eng.run_move rfl ((H.kept 1 (by kernel_rfl)).trans h1_1)) (Below.refl _ _) (Eng.off' hG rfl)
  ·refine Eng.guarded1 (j := 3) (d := 11) (b := q10) rfl rfl (by kernel_rfl) rfl (fun v w h => h) (fun hG w => Eng.off hG) fun hG a w' H => ?_
   refine Eng.val (w1 := w') (v := .bool ((B : Int) == 0)) ?_ (Below.refl _ _) (Eng.off' hG (by rw [Bq13]))
   have e0 : a.eval (.tmp 12) = .int .u64 (B : Int) := (Eng.on (H.dep 4 12 (by kernel_rfl) rfl) hG)
   have e1 : a.eval (.const (.int .u64 0)) = .int .u64 0 := (rfl : a.eval (.const (.int .u64 0)) = .int .u64 0)
   simp only [execOp, resolve, e0, e1]
   go_simp
  ·refine Eng.plain rfl rfl fun a w' H => ?_
   exact Eng.val (w1 := w') (v := .bool (q10 || q13)) (Eng.run_or rfl rfl (G := true) (H.dep 3 11 (by kernel_rfl) rfl) (fun hb => (Eng.on (H.dep 5 13 (by kernel_rfl) rfl) (Eng.mk1 hb)))) (Below.refl _ _) (by show _ = Value.bool q14; rw [Bq14])
 intro act2 w2 T
 have h0_2 := (T.rest 0 (by kernel_rfl)).trans h0_1
 have h1_2 := (T.rest 1 (by kernel_rfl)).trans h1_1
 have h4_2 := (T.rest 4 (by kernel_rfl)).trans h4_1
 have h14_2 : act2.eval (.tmp 14) = .bool q14 := T.done 6 14 rfl rfl
 have d2 := T.defers.trans d1
 have s2 := T.size.trans s1
 have bl2 := bl1.trans (T.below.mono bl1.size)
 clear T
 refine Eng.tail_nil ?_
 refine wp_cond_split h14_2 (fun hq => ?_) (fun hq => ?_)
 ·
  have c14 := Bq14.symm.trans hq
  clear hq
  have hsame := c14
  rw [Bq10, Bq13] at hsame
  refine wp_seq ?_
  refine Eng.regionS (Eng.still [fun u_ => u_ = .int .u64 (A : Int), fun u_ => u_ = .int .u64 (A : Int)]) (fun _ => .plain) 2 0 41 s2 rfl (by kernel_rfl) (Eng.still_stable _) (Or.inr (Eng.still_any _)) ?_ ?_
  ·refine Eng.Steps.cons (fun _ => ?_) (Eng.Steps.cons (fun _ => ?_) (Eng.Steps.nil))
   ·refine Eng.plain rfl rfl fun a w' H => ?_
    exact Eng.val (w1 := w') (v := .int .u64 (A : Int)) (Eng.run_move rfl ((H.kept 0 (by kernel_rfl)).trans h0_2)) (Below.refl _ _) rfl
   ·refine Eng.plain rfl rfl fun a w' H => ?_
    exact Eng.val (w1 := w') (v := .int .u64 (A : Int)) (Eng.run_assign rfl (H.dep 0 15 (by kernel_rfl) rfl)) (Below.refl _ _) rfl
  intro act4 w4 T
  have h4_4 : act4.eval (.tmp 4) = .int .u64 (A : Int) := T.done 1 4 rfl rfl
  have d4 := T.defers.trans d2
  have bl4 := bl2.trans (T.below.mono bl2.size)
  clear T
  refine Eng.tail_nil ?_
  refine wp_ret ?_
  repeat (first | refine Eng.in_ret ?_ | refine Eng.then_ret ?_)
  exact Eng.ret1 rfl d4 (h4_4.trans (by have h := hsame; simp only [Bool.or_eq_true, beq_iff_eq] at h; rcases h with h | h; (have : A = B := by omega); (rw [this, Nat.or_self]); (have : B = 0 := by omega); (rw [this, Nat.or_zero]))) ⟨rfl, bl4⟩
 ·
  have c14 := Bq14.symm.trans hq
  clear hq
  refine wp_skip ?_
  refine wp_seq ?_
  refine wp_seq ?_
  obtain ⟨q17, Bq17⟩ : ∃ b : Bool, b = ((A : Int) == 0) := ⟨_, rfl⟩
  refine Eng.regionS (Eng.still [fun u_ => u_ = .int .u64 (A : Int), fun u_ => u_ = .bool q17]) (fun _ => .plain) 2 0 41 s2 rfl (by kernel_rfl) (Eng.still_stable _) (Or.inr (Eng.still_any _)) ?_ ?_
  ·refine Eng.Steps.cons (fun _ => ?_) (Eng.Steps.cons (fun _ => ?_) (Eng.Steps.nil))
   ·refine Eng.plain rfl rfl fun a w' H => ?_
    exact Eng.val (w1 := w') (v := .int .u64 (A : Int)) (Eng.run_move rfl ((H.kept 0 (by kernel_rfl)).trans h0_2)) (Below.refl _ _) rfl
   ·refine Eng.plain rfl rfl fun a w' H => ?_
    refine Eng.val (w1 := w') (v := .bool ((A : Int) == 0)) ?_ (Below.refl _ _) (by show _ = Value.bool q17; rw [Bq17])
    have e0 : a.eval (.tmp 16) = .int .u64 (A : Int) := (H.dep 0 16 (by kernel_rfl) rfl)
    have e1 : a.eval (.const (.int .u64 0)) = .int .u64 0 := (rfl : a.eval (.const (.int .u64 0)) = .int .u64 0)
    simp only [execOp, resolve, e0, e1]
    go_simp
  intro act6 w6 T
  have h0_6 := (T.rest 0 (by kernel_rfl)).trans h0_2
  have h1_6 := (T.rest 1 (by kernel_rfl)).trans h1_2
  have h4_6 := (T.rest 4 (by kernel_rfl)).trans h4_2
  have h14_6 := (T.rest 14 (by kernel_rfl)).trans h14_2
  have h17_6 : act6.eval (.tmp 17) = .bool q17 := T.done 1 17 rfl rfl
  have d6 := T.defers.trans d2
  have s6 := T.size.trans s2
  have bl6 := bl2.trans (T.below.mono bl2.size)
  clear T
  refine Eng.tail_nil ?_
  refine wp_cond_split h17_6 (fun hq => ?_) (fun hq => ?_)
  ·
   have c17 := Bq17.symm.trans hq
   clear hq
   have hz := c17
   refine wp_seq ?_
   refine Eng.regionS (Eng.still [fun u_ => u_ = .int .u64 (B : Int), fun u_ => u_ = .int .u64 (B : Int)]) (fun _ => .plain) 2 0 41 s6 rfl (by kernel_rfl) (Eng.still_stable _) (Or.inr (Eng.still_any _)) ?_ ?_
   ·refine Eng.Steps.cons (fun _ => ?_) (Eng.Steps.cons (fun _ => ?_) (Eng.Steps.nil))
    ·refine Eng.plain rfl rfl fun a w' H => ?_
     exact Eng.val (w1 := w') (v := .int .u64 (B : Int)) (Eng.run_move rfl ((H.kept 1 (by kernel_rfl)).trans h1_6)) (Below.refl _ _) rfl
    ·refine Eng.plain rfl rfl fun a w' H => ?_
     exact Eng.val (w1 := w') (v := .int .u64 (B : Int)) (Eng.run_assign rfl (H.dep 0 18 (by kernel_rfl) rfl)) (Below.refl _ _) rfl
   intro act8 w8 T
   have h4_8 : act8.eval (.tmp 4) = .int .u64 (B : Int) := T.done 1 4 rfl rfl
   have d8 := T.defers.trans d6
   have bl8 := bl6.trans (T.below.mono bl6.size)
   clear T
   refine Eng.tail_nil ?_
   refine wp_ret ?_
   repeat (first | refine Eng.in_ret ?_ | refine Eng.then_ret ?_)
   exact Eng.ret1 rfl d8 (h4_8.trans (by have h := hz; simp only [beq_iff_eq] at h; (have : A = 0 := by omega); rw [this, Nat.zero_or])) ⟨rfl, bl8⟩
  ·
   have c17 := Bq17.symm.trans hq
   clear hq
   refine wp_skip ?_
   refine wp_seq ?_
   refine Eng.regionS (Eng.still [fun u_ => u_ = .int .u64 0]) (fun _ => .plain) 1 0 41 s6 rfl (by kernel_rfl) (Eng.still_stable _) (Or.inr (Eng.still_any _)) ?_ ?_
   ·refine Eng.Steps.cons (fun _ => ?_) (Eng.Steps.nil)
    ·refine Eng.plain rfl rfl fun a w' H => ?_
     exact Eng.val (w1 := w') (v := .int .u64 0) (Eng.run_assign rfl (rfl : a.eval (.const (.int .u64 0)) = .int .u64 0)) (Below.refl _ _) rfl
   intro act10 w10 T
   have h0_10 := (T.rest 0 (by kernel_rfl)).trans h0_6
   have h1_10 := (T.rest 1 (by kernel_rfl)).trans h1_6
   have h4_10 := (T.rest 4 (by kernel_rfl)).trans h4_6
   have h14_10 := (T.rest 14 (by kernel_rfl)).trans h14_6
   have h17_10 := (T.rest 17 (by kernel_rfl)).trans h17_6
   have h5_10 : act10.eval (.tmp 5) = .int .u64 0 := T.done 0 5 rfl rfl
   have d10 := T.defers.trans d6
   have s10 := T.size.trans s6
   have bl10 := bl6.trans (T.below.mono bl6.size)
   clear T
   refine Eng.tail_nil ?_
   refine wp_seq ?_
   refine Eng.regionS (Eng.still [fun u_ => u_ = .int .u64 1]) (fun _ => .plain) 1 0 41 s10 rfl (by kernel_rfl) (Eng.still_stable _) (Or.inr (Eng.still_any _)) ?_ ?_
   ·refine Eng.Steps.cons (fun _ => ?_) (Eng.Steps.nil)
    ·refine Eng.plain rfl rfl fun a w' H => ?_
     exact Eng.val (w1 := w') (v := .int .u64 1) (Eng.run_assign rfl (rfl : a.eval (.const (.int .u64 1)) = .int .u64 1)) (Below.refl _ _) rfl
   intro act11 w11 T
   have h0_11 := (T.rest 0 (by kernel_rfl)).trans h0_10
   have h1_11 := (T.rest 1 (by kernel_rfl)).trans h1_10
   have h4_11 := (T.rest 4 (by kernel_rfl)).trans h4_10
   have h5_11 := (T.rest 5 (by kernel_rfl)).trans h5_10
   have h14_11 := (T.rest 14 (by kernel_rfl)).trans h14_10
   have h17_11 := (T.rest 17 (by kernel_rfl)).trans h17_10
   have h6_11 : act11.eval (.tmp 6) = .int .u64 1 := T.done 0 6 rfl rfl
   have d11 := T.defers.trans d10
   have s11 := T.size.trans s10
   have bl11 := bl10.trans (T.below.mono bl10.size)
   clear T
   refine Eng.tail_nil ?_
   refine wp_seq ?_
   refine wp_seq ?_
   refine Eng.regionS (Eng.still [fun u_ => u_ = .int .i64 0]) (fun _ => .plain) 1 0 41 s11 rfl (by kernel_rfl) (Eng.still_stable _) (Or.inr (Eng.still_any _)) ?_ ?_
   ·refine Eng.Steps.cons (fun _ => ?_) (Eng.Steps.nil)
    ·refine Eng.plain rfl rfl fun a w' H => ?_
     exact Eng.val (w1 := w') (v := .int .i64 0) (Eng.run_assign rfl (rfl : a.eval (.const (.int .i64 0)) = .int .i64 0)) (Below.refl _ _) rfl
   intro act12 w12 T
   have h0_12 := (T.rest 0 (by kernel_rfl)).trans h0_11
   have h1_12 := (T.rest 1 (by kernel_rfl)).trans h1_11
   have h4_12 := (T.rest 4 (by kernel_rfl)).trans h4_11
   have h5_12 := (T.rest 5 (by kernel_rfl)).trans h5_11
   have h6_12 := (T.rest 6 (by kernel_rfl)).trans h6_11
   have h14_12 := (T.rest 14 (by kernel_rfl)).trans h14_11
   have h17_12 := (T.rest 17 (by kernel_rfl)).trans h17_11
   have h7_12 : act12.eval (.tmp 7) = .int .i64 0 := T.done 0 7 rfl rfl
   have d12 := T.defers.trans d11
   have s12 := T.size.trans s11
   have bl12 := bl11.trans (T.below.mono bl11.size)
   clear T
   refine Eng.tail_nil ?_
   refine wp_block ?_
   refine Eng.loopN (fun n a w' => ∃ (i : Nat) (x : Nat) (y : Nat) (o : Nat) (p : Nat), 64 - i = n ∧ (i ≤ 64) ∧ (A / 2 ^ i = x) ∧ (B / 2 ^ i = y) ∧ ((A ||| B) % 2 ^ i = o) ∧ (2 ^ i % 18446744073709551616 = p) ∧ a.defers = [] ∧ a.tmps.size = 41 ∧ Below w.heap.size w w' ∧ a.eval (.tmp 0) = .int .u64 (x : Int) ∧ a.eval (.tmp 1) = .int .u64 (y : Int) ∧ a.eval (.tmp 4) = .int .u64 0 ∧ a.eval (.tmp 5) = .int .u64 (o : Int) ∧ a.eval (.tmp 6) = .int .u64 (p : Int) ∧ a.eval (.tmp 7) = .int .i64 (i : Nat) ∧ a.eval (.tmp 14) = .bool q14 ∧ a.eval (.tmp 17) = .bool q17) (n0 := 64 - 0) ?_ ?_
   ·exact ⟨0, A, B, 0, 1, rfl, by omega, by simp, by simp, by simp [Nat.mod_one], rfl, d12, s12, bl12, (h0_12.trans (by first | rfl | (congr 1; exact Nfa.mul2 _) | (congr 1; exact Nfa.add_nat _ _) | (congr 1; rw [Eng.i64_id (by omega) (by omega)]; omega) | (simp; done))), (h1_12.trans (by first | rfl | (congr 1; exact Nfa.mul2 _) | (congr 1; exact Nfa.add_nat _ _) | (congr 1; rw [Eng.i64_id (by omega) (by omega)]; omega) | (simp; done))), h4_12, (h5_12.trans (by first | rfl | (congr 1; exact Nfa.mul2 _) | (congr 1; exact Nfa.add_nat _ _) | (congr 1; rw [Eng.i64_id (by omega) (by omega)]; omega) | (simp; done))), (h6_12.trans (by first | rfl | (congr 1; exact Nfa.mul2 _) | (congr 1; exact Nfa.add_nat _ _) | (congr 1; rw [Eng.i64_id (by omega) (by omega)]; omega) | (simp; done))), (h7_12.trans (by first | rfl | (congr 1; exact Nfa.mul2 _) | (congr 1; exact Nfa.add_nat _ _) | (congr 1; rw [Eng.i64_id (by omega) (by omega)]; omega) | (simp; done))), h14_12, h17_12⟩
   rintro n act13 w13 ⟨i, x, y, o, p, rfl, hc0_13, hc1_13, hc2_13, hc3_13, hc4_13, d13, s13, bl13, h0_13, h1_13, h4_13, h5_13, h6_13, h7_13, h14_13, h17_13⟩
   have hi1 := hc0_13
   have hia := hc1_13
   have hib := hc2_13
   have hio := hc3_13
   have hip := hc4_13
   have ha64 : x < 18446744073709551616 := by rw [← hia]; exact Nat.lt_of_le_of_lt (Nat.div_le_self _ _) hA
   have hb64 : y < 18446744073709551616 := by rw [← hib]; exact Nat.lt_of_le_of_lt (Nat.div_le_self _ _) hB
   refine wp_seq ?_
   refine wp_seq ?_
   obtain ⟨q20, Bq20⟩ : ∃ b : Bool, b = (decide ((i : Nat) < 64)) := ⟨_, rfl⟩
   refine Eng.regionS (Eng.still [fun u_ => u_ = .int .i64 (i : Nat), fun u_ => u_ = .bool q20]) (fun _ => .plain) 2 0 41 s13 rfl (by kernel_rfl) (Eng.still_stable _) (Or.inr (Eng.still_any _)) ?_ ?_
   ·refine Eng.Steps.cons (fun _ => ?_) (Eng.Steps.cons (fun _ => ?_) (Eng.Steps.nil))
    ·refine Eng.plain rfl rfl fun a w' H => ?_
     exact Eng.val (w1 := w') (v := .int .i64 (i : Nat)) (Eng.run_move rfl ((H.kept 7 (by kernel_rfl)).trans h7_13)) (Below.refl _ _) rfl
    ·refine Eng.plain rfl rfl fun a w' H => ?_
     refine Eng.val (w1 := w') (v := .bool (decide ((i : Nat) < 64))) ?_ (Below.refl _ _) (by show _ = Value.bool q20; rw [Bq20])
     have e0 : a.eval (.tmp 19) = .int .i64 (i : Nat) := (H.dep 0 19 (by kernel_rfl) rfl)
     have e1 : a.eval (.const (.int .i64 64)) = .int .i64 64 := (rfl : a.eval (.const (.int .i64 64)) = .int .i64 64)
     simp only [execOp, resolve, e0, e1]
     go_simp
     all_goals first | rfl | (simp; done) | (rw [Bool.eq_iff_iff]; simp; done) | omega | (split <;> first | (simp_all; done) | (split <;> simp_all; done)) | skip
   intro act14 w14 T
   have h0_14 := (T.rest 0 (by kernel_rfl)).trans h0_13
   have h1_14 := (T.rest 1 (by kernel_rfl)).trans h1_13
   have h4_14 := (T.rest 4 (by kernel_rfl)).trans h4_13
   have h5_14 := (T.rest 5 (by kernel_rfl)).trans h5_13
   have h6_14 := (T.rest 6 (by kernel_rfl)).trans h6_13
   have h7_14 := (T.rest 7 (by kernel_rfl)).trans h7_13
   have h14_14 := (T.rest 14 (by kernel_rfl)).trans h14_13
   have h17_14 := (T.rest 17 (by kernel_rfl)).trans h17_13
   have h20_14 : act14.eval (.tmp 20) = .bool q20 := T.done 1 20 rfl rfl
   have d14 := T.defers.trans d13
   have s14 := T.size.trans s13
   have bl14 := bl13.trans (T.below.mono bl13.size)
   clear T
   refine Eng.tail_nil ?_
   refine wp_cond_split h20_14 (fun hq => ?_) (fun hq => ?_)
   ·
    have c20 := Bq20.symm.trans hq
    clear hq
    have c20 := of_decide_eq_true c20
    have hi0 : i < 64 := by omega
    refine wp_skip ?_
    refine wp_seq ?_
    refine wp_block ?_
    refine wp_seq ?_
    refine wp_seq ?_
    obtain ⟨q25, Bq25⟩ : ∃ b : Bool, b = (((x % 2 : Nat) : Int) == 1) := ⟨_, rfl⟩
    obtain ⟨q29, Bq29⟩ : ∃ b : Bool, b = (((y % 2 : Nat) : Int) == 1) := ⟨_, rfl⟩
    obtain ⟨q30, Bq30⟩ : ∃ b : Bool, b = (q25 || q29) := ⟨_, rfl⟩
    refine Eng.regionS (Eng.still [fun u_ => u_ = .int .u64 (x : Int), fun u_ => u_ = .int .u64 ((x % 2 : Nat) : Int), fun u_ => u_ = .bool q25, fun u_ => u_ = .bool q25, fun u_ => u_ = bif (q25 == false) then (.int .u64 (y : Int)) else undef, fun u_ => u_ = bif (q25 == false) then (.int .u64 ((y % 2 : Nat) : Int)) else undef, fun u_ => u_ = bif (q25 == false) then (.bool q29) else undef, fun u_ => u_ = .bool q30]) (fun _ => .plain) 8 0 41 s14 rfl (by kernel_rfl) (Eng.still_stable _) (Or.inr (Eng.still_any _)) ?_ ?_
    ·refine Eng.Steps.cons (fun _ => ?_) (Eng.Steps.cons (fun _ => ?_) (Eng.Steps.cons (fun _ => ?_) (Eng.Steps.cons (fun _ => ?_) (Eng.Steps.cons (fun _ => ?_) (Eng.Steps.cons (fun _ => ?_) (Eng.Steps.cons (fun _ => ?_) (Eng.Steps.cons (fun _ => ?_) (Eng.Steps.nil))))))))
     ·refine Eng.plain rfl rfl fun a w' H => ?_
      exact Eng.val (w1 := w') (v := .int .u64 (x : Int)) (Eng.run_move rfl ((H.kept 0 (by kernel_rfl)).trans h0_14)) (Below.refl _ _) rfl
     ·refine Eng.plain rfl rfl fun a w' H => ?_
      refine Eng.val (w1 := w') (v := .int .u64 ((x % 2 : Nat) : Int)) ?_ (Below.refl _ _) rfl
      have e0 : a.eval (.tmp 23) = .int .u64 (x : Int) := (H.dep 0 23 (by kernel_rfl) rfl)
      have e1 : a.eval (.const (.int .u64 2)) = .int .u64 2 := (rfl : a.eval (.const (.int .u64 2)) = .int .u64 2)
      simp only [execOp, resolve, e0, e1]
      go_simp
      all_goals first | rfl | (exact Nfa.tmod2 _) | skip
     ·refine Eng.plain rfl rfl fun a w' H => ?_
      refine Eng.val (w1 := w') (v := .bool (((x % 2 : Nat) : Int) == 1)) ?_ (Below.refl _ _) (by show _ = Value.bool q25; rw [Bq25])
      have e0 : a.eval (.tmp 24) = .int .u64 ((x % 2 : Nat) : Int) := (H.dep 1 24 (by kernel_rfl) rfl)
      have e1 : a.eval (.const (.int .u64 1)) = .int .u64 1 := (rfl : a.eval (.const (.int .u64 1)) = .int .u64 1)
      simp only [execOp, resolve, e0, e1]
      go_simp
     ·refine Eng.plain rfl rfl fun a w' H => ?_
      exact Eng.val (w1 := w') (v := .bool q25) (Eng.run_move rfl (H.dep 2 25 (by kernel_rfl) rfl)) (Below.refl _ _) rfl
     ·refine Eng.guarded1 (j := 3) (d := 26) (b := q25) rfl rfl (by kernel_rfl) rfl (fun v w h => h) (fun hG w => Eng.off hG) fun hG a w' H => ?_
      exact Eng.val (w1 := w') (v := .int .u64 (y : Int)) (Eng.run_move rfl ((H.kept 1 (by kernel_rfl)).trans h1_14)) (Below.refl _ _) (Eng.off' hG rfl)
     ·refine Eng.guarded1 (j := 3) (d := 26) (b := q25) rfl rfl (by kernel_rfl) rfl (fun v w h => h) (fun hG w => Eng.off hG) fun hG a w' H => ?_
      refine Eng.val (w1 := w') (v := .int .u64 ((y % 2 : Nat) : Int)) ?_ (Below.refl _ _) (Eng.off' hG rfl)
      have e0 : a.eval (.tmp 27) = .int .u64 (y : Int) := (Eng.on (H.dep 4 27 (by kernel_rfl) rfl) hG)
      have e1 : a.eval (.const (.int .u64 2)) = .int .u64 2 := (rfl : a.eval (.const (.int .u64 2)) = .int .u64 2)
      simp only [execOp, resolve, e0, e1]
      go_simp
      all_goals first | rfl | (exact Nfa.tmod2 _) | skip
     ·refine Eng.guarded1 (j := 3) (d := 26) (b := q25) rfl rfl (by kernel_rfl) rfl (fun v w h => h) (fun hG w => Eng.off hG) fun hG a w' H => ?_
      refine Eng.val (w1 := w') (v := .bool (((y % 2 : Nat) : Int) == 1)) ?_ (Below.refl _ _) (Eng.off' hG (by rw [Bq29]))
      have e0 : a.eval (.tmp 28) = .int .u64 ((y % 2 : Nat) : Int) := (Eng.on (H.dep 5 28 (by kernel_rfl) rfl) hG)
      have e1 : a.eval (.const (.int .u64 1)) = .int .u64 1 := (rfl : a.eval (.const (.int .u64 1)) = .int .u64 1)
      simp only [execOp, resolve, e0, e1]
      go_simp
     ·refine Eng.plain rfl rfl fun a w' H => ?_
      exact Eng.val (w1 := w') (v := .bool (q25 || q29)) (Eng.run_or rfl rfl (G := true) (H.dep 3 26 (by kernel_rfl) rfl) (fun hb => (Eng.on (H.dep 6 29 (by kernel_rfl) rfl) (Eng.mk1 hb)))) (Below.refl _ _) (by show _ = Value.bool q30; rw [Bq30])
    intro act16 w16 T
    have h0_16 := (T.rest 0 (by kernel_rfl)).trans h0_14
    have h1_16 := (T.rest 1 (by kernel_rfl)).trans h1_14
    have h4_16 := (T.rest 4 (by kernel_rfl)).trans h4_14
    have h5_16 := (T.rest 5 (by kernel_rfl)).trans h5_14
    have h6_16 := (T.rest 6 (by kernel_rfl)).trans h6_14
    have h7_16 := (T.rest 7 (by kernel_rfl)).trans h7_14
    have h14_16 := (T.rest 14 (by kernel_rfl)).trans h14_14
    have h17_16 := (T.rest 17 (by kernel_rfl)).trans h17_14
    have h30_16 : act16.eval (.tmp 30) = .bool q30 := T.done 7 30 rfl rfl
    have d16 := T.defers.trans d14
    have s16 := T.size.trans s14
    have bl16 := bl14.trans (T.below.mono bl14.size)
    clear T
    refine Eng.tail_nil ?_
    refine wp_cond_split h30_16 (fun hq => ?_) (fun hq => ?_)
    ·
     have c30 := Bq30.symm.trans hq
     clear hq
     have hon := c30
     rw [Bq25, Bq29] at hon
     refine Eng.regionS (Eng.still [fun u_ => u_ = .int .u64 (o : Int), fun u_ => u_ = .int .u64 (p : Int), fun u_ => u_ = .int .u64 (IntKind.u64.wrap ((o : Int) + (p : Int))), fun u_ => u_ = .int .u64 (IntKind.u64.wrap ((o : Int) + (p : Int)))]) (fun _ => .plain) 4 0 41 s16 rfl (by kernel_rfl) (Eng.still_stable _) (Or.inr (Eng.still_any _)) ?_ ?_
     ·refine Eng.Steps.cons (fun _ => ?_) (Eng.Steps.cons (fun _ => ?_) (Eng.Steps.cons (fun _ => ?_) (Eng.Steps.cons (fun _ => ?_) (Eng.Steps.nil))))
      ·refine Eng.plain rfl rfl fun a w' H => ?_
       exact Eng.val (w1 := w') (v := .int .u64 (o : Int)) (Eng.run_move rfl ((H.kept 5 (by kernel_rfl)).trans h5_16)) (Below.refl _ _) rfl
      ·refine Eng.plain rfl rfl fun a w' H => ?_
       exact Eng.val (w1 := w') (v := .int .u64 (p : Int)) (Eng.run_move rfl ((H.kept 6 (by kernel_rfl)).trans h6_16)) (Below.refl _ _) rfl
      ·refine Eng.plain rfl rfl fun a w' H => ?_
       refine Eng.val (w1 := w') (v := .int .u64 (IntKind.u64.wrap ((o : Int) + (p : Int)))) ?_ (Below.refl _ _) rfl
       have e0 : a.eval (.tmp 31) = .int .u64 (o : Int) := (H.dep 0 31 (by kernel_rfl) rfl)
       have e1 : a.eval (.tmp 32) = .int .u64 (p : Int) := (H.dep 1 32 (by kernel_rfl) rfl)
       simp only [execOp, resolve, e0, e1]
       go_simp
      ·refine Eng.plain rfl rfl fun a w' H => ?_
       exact Eng.val (w1 := w') (v := .int .u64 (IntKind.u64.wrap ((o : Int) + (p : Int)))) (Eng.run_assign rfl (H.dep 2 33 (by kernel_rfl) rfl)) (Below.refl _ _) rfl
     intro act18 w18 T
     have h0_18 := (T.rest 0 (by kernel_rfl)).trans h0_16
     have h1_18 := (T.rest 1 (by kernel_rfl)).trans h1_16
     have h4_18 := (T.rest 4 (by kernel_rfl)).trans h4_16
     have h6_18 := (T.rest 6 (by kernel_rfl)).trans h6_16
     have h7_18 := (T.rest 7 (by kernel_rfl)).trans h7_16
     have h14_18 := (T.rest 14 (by kernel_rfl)).trans h14_16
     have h17_18 := (T.rest 17 (by kernel_rfl)).trans h17_16
     have h5_18 : act18.eval (.tmp 5) = .int .u64 (IntKind.u64.wrap ((o : Int) + (p : Int))) := T.done 3 5 rfl rfl
     have d18 := T.defers.trans d16
     have s18 := T.size.trans s16
     have bl18 := bl16.trans (T.below.mono bl16.size)
     clear T
     refine Eng.tail_nil ?_
     refine wp_seq ?_
     refine Eng.regionS (Eng.still [fun u_ => u_ = .int .u64 (x : Int), fun u_ => u_ = .int .u64 ((x / 2 : Nat) : Int), fun u_ => u_ = .int .u64 ((x / 2 : Nat) : Int)]) (fun _ => .plain) 3 0 41 s18 rfl (by kernel_rfl) (Eng.still_stable _) (Or.inr (Eng.still_any _)) ?_ ?_
     ·refine Eng.Steps.cons (fun _ => ?_) (Eng.Steps.cons (fun _ => ?_) (Eng.Steps.cons (fun _ => ?_) (Eng.Steps.nil)))
      ·refine Eng.plain rfl rfl fun a w' H => ?_
       exact Eng.val (w1 := w') (v := .int .u64 (x : Int)) (Eng.run_move rfl ((H.kept 0 (by kernel_rfl)).trans h0_18)) (Below.refl _ _) rfl
      ·refine Eng.plain rfl rfl fun a w' H => ?_
       refine Eng.val (w1 := w') (v := .int .u64 ((x / 2 : Nat) : Int)) ?_ (Below.refl _ _) rfl
       have e0 : a.eval (.tmp 34) = .int .u64 (x : Int) := (H.dep 0 34 (by kernel_rfl) rfl)
       have e1 : a.eval (.const (.int .u64 2)) = .int .u64 2 := (rfl : a.eval (.const (.int .u64 2)) = .int .u64 2)
       simp only [execOp, resolve, e0, e1]
       go_simp
       all_goals first | rfl | (exact Nfa.tdiv2 ha64) | (rw [Nfa.tdiv2 ha64]; done) | skip
      ·refine Eng.plain rfl rfl fun a w' H => ?_
       exact Eng.val (w1 := w') (v := .int .u64 ((x / 2 : Nat) : Int)) (Eng.run_assign rfl (H.dep 1 35 (by kernel_rfl) rfl)) (Below.refl _ _) rfl
     intro act19 w19 T
     have h1_19 := (T.rest 1 (by kernel_rfl)).trans h1_18
     have h4_19 := (T.rest 4 (by kernel_rfl)).trans h4_18
     have h5_19 := (T.rest 5 (by kernel_rfl)).trans h5_18
     have h6_19 := (T.rest 6 (by kernel_rfl)).trans h6_18
     have h7_19 := (T.rest 7 (by kernel_rfl)).trans h7_18
     have h14_19 := (T.rest 14 (by kernel_rfl)).trans h14_18
     have h17_19 := (T.rest 17 (by kernel_rfl)).trans h17_18
     have h0_19 : act19.eval (.tmp 0) = .int .u64 ((x / 2 : Nat) : Int) := T.done 2 0 rfl rfl
     have d19 := T.defers.trans d18
     have s19 := T.size.trans s18
     have bl19 := bl18.trans (T.below.mono bl18.size)
     clear T
     refine Eng.tail_nil ?_
     refine wp_seq ?_
     refine Eng.regionS (Eng.still [fun u_ => u_ = .int .u64 (y : Int), fun u_ => u_ = .int .u64 ((y / 2 : Nat) : Int), fun u_ => u_ = .int .u64 ((y / 2 : Nat) : Int)]) (fun _ => .plain) 3 0 41 s19 rfl (by kernel_rfl) (Eng.still_stable _) (Or.inr (Eng.still_any _)) ?_ ?_
     ·refine Eng.Steps.cons (fun _ => ?_) (Eng.Steps.cons (fun _ => ?_) (Eng.Steps.cons (fun _ => ?_) (Eng.Steps.nil)))
      ·refine Eng.plain rfl rfl fun a w' H => ?_
       exact Eng.val (w1 := w') (v := .int .u64 (y : Int)) (Eng.run_move rfl ((H.kept 1 (by kernel_rfl)).trans h1_19)) (Below.refl _ _) rfl
      ·refine Eng.plain rfl rfl fun a w' H => ?_
       refine Eng.val (w1 := w') (v := .int .u64 ((y / 2 : Nat) : Int)) ?_ (Below.refl _ _) rfl
       have e0 : a.eval (.tmp 36) = .int .u64 (y : Int) := (H.dep 0 36 (by kernel_rfl) rfl)
       have e1 : a.eval (.const (.int .u64 2)) = .int .u64 2 := (rfl : a.eval (.const (.int .u64 2)) = .int .u64 2)
       simp only [execOp, resolve, e0, e1]
       go_simp
       all_goals first | rfl | (exact Nfa.tdiv2 hb64) | (rw [Nfa.tdiv2 hb64]; done) | skip
      ·refine Eng.plain rfl rfl fun a w' H => ?_
       exact Eng.val (w1 := w') (v := .int .u64 ((y / 2 : Nat) : Int)) (Eng.run_assign rfl (H.dep 1 37 (by kernel_rfl) rfl)) (Below.refl _ _) rfl
     intro act20 w20 T
     have h0_20 := (T.rest 0 (by kernel_rfl)).trans h0_19
     have h4_20 := (T.rest 4 (by kernel_rfl)).trans h4_19
     have h5_20 := (T.rest 5 (by kernel_rfl)).trans h5_19
     have h6_20 := (T.rest 6 (by kernel_rfl)).trans h6_19
     have h7_20 := (T.rest 7 (by kernel_rfl)).trans h7_19
     have h14_20 := (T.rest 14 (by kernel_rfl)).trans h14_19
     have h17_20 := (T.rest 17 (by kernel_rfl)).trans h17_19
     have h1_20 : act20.eval (.tmp 1) = .int .u64 ((y / 2 : Nat) : Int) := T.done 2 1 rfl rfl
     have d20 := T.defers.trans d19
     have s20 := T.size.trans s19
     have bl20 := bl19.trans (T.below.mono bl19.size)
     clear T
     refine Eng.tail_nil ?_
     refine Eng.regionS (Eng.still [fun u_ => u_ = .int .u64 (p : Int), fun u_ => u_ = .int .u64 (IntKind.u64.wrap ((p : Int) * 2)), fun u_ => u_ = .int .u64 (IntKind.u64.wrap ((p : Int) * 2))]) (fun _ => .plain) 3 0 41 s20 rfl (by kernel_rfl) (Eng.still_stable _) (Or.inr (Eng.still_any _)) ?_ ?_
     ·refine Eng.Steps.cons (fun _ => ?_) (Eng.Steps.cons (fun _ => ?_) (Eng.Steps.cons (fun _ => ?_) (Eng.Steps.nil)))
      ·refine Eng.plain rfl rfl fun a w' H => ?_
       exact Eng.val (w1 := w') (v := .int .u64 (p : Int)) (Eng.run_move rfl ((H.kept 6 (by kernel_rfl)).trans h6_20)) (Below.refl _ _) rfl
      ·refine Eng.plain rfl rfl fun a w' H => ?_
       refine Eng.val (w1 := w') (v := .int .u64 (IntKind.u64.wrap ((p : Int) * 2))) ?_ (Below.refl _ _) rfl
       have e0 : a.eval (.tmp 38) = .int .u64 (p : Int) := (H.dep 0 38 (by kernel_rfl) rfl)
       have e1 : a.eval (.const (.int .u64 2)) = .int .u64 2 := (rfl : a.eval (.const (.int .u64 2)) = .int .u64 2)
       simp only [execOp, resolve, e0, e1]
       go_simp
      ·refine Eng.plain rfl rfl fun a w' H => ?_
       exact Eng.val (w1 := w') (v := .int .u64 (IntKind.u64.wrap ((p : Int) * 2))) (Eng.run_assign rfl (H.dep 1 39 (by kernel_rfl) rfl)) (Below.refl _ _) rfl
     intro act21 w21 T
     have h0_21 := (T.rest 0 (by kernel_rfl)).trans h0_20
     have h1_21 := (T.rest 1 (by kernel_rfl)).trans h1_20
     have h4_21 := (T.rest 4 (by kernel_rfl)).trans h4_20
     have h5_21 := (T.rest 5 (by kernel_rfl)).trans h5_20
     have h7_21 := (T.rest 7 (by kernel_rfl)).trans h7_20
     have h14_21 := (T.rest 14 (by kernel_rfl)).trans h14_20
     have h17_21 := (T.rest 17 (by kernel_rfl)).trans h17_20
     have h6_21 : act21.eval (.tmp 6) = .int .u64 (IntKind.u64.wrap ((p : Int) * 2)) := T.done 2 6 rfl rfl
     have d21 := T.defers.trans d20
     have s21 := T.size.trans s20
     have bl21 := bl20.trans (T.below.mono bl20.size)
     clear T
     refine Eng.tail_nil ?_
     refine Eng.regionS (Eng.still [fun u_ => u_ = .int .i64 (i : Nat), fun u_ => u_ = .int .i64 (IntKind.i64.wrap ((i : Nat) + 1)), fun u_ => u_ = .int .i64 (IntKind.i64.wrap ((i : Nat) + 1))]) (fun _ => .plain) 3 0 41 s21 rfl (by kernel_rfl) (Eng.still_stable _) (Or.inr (Eng.still_any _)) ?_ ?_
     ·refine Eng.Steps.cons (fun _ => ?_) (Eng.Steps.cons (fun _ => ?_) (Eng.Steps.cons (fun _ => ?_) (Eng.Steps.nil)))
      ·refine Eng.plain rfl rfl fun a w' H => ?_
       exact Eng.val (w1 := w') (v := .int .i64 (i : Nat)) (Eng.run_move rfl ((H.kept 7 (by kernel_rfl)).trans h7_21)) (Below.refl _ _) rfl
      ·refine Eng.plain rfl rfl fun a w' H => ?_
       refine Eng.val (w1 := w') (v := .int .i64 (IntKind.i64.wrap ((i : Nat) + 1))) ?_ (Below.refl _ _) rfl
       have e0 : a.eval (.tmp 21) = .int .i64 (i : Nat) := (H.dep 0 21 (by kernel_rfl) rfl)
       have e1 : a.eval (.const (.int .i64 1)) = .int .i64 1 := (rfl : a.eval (.const (.int .i64 1)) = .int .i64 1)
       simp only [execOp, resolve, e0, e1]
       go_simp
      ·refine Eng.plain rfl rfl fun a w' H => ?_
       exact Eng.val (w1 := w') (v := .int .i64 (IntKind.i64.wrap ((i : Nat) + 1))) (Eng.run_assign rfl (H.dep 1 22 (by kernel_rfl) rfl)) (Below.refl _ _) rfl
     intro act22 w22 T
     have h0_22 := (T.rest 0 (by kernel_rfl)).trans h0_21
     have h1_22 := (T.rest 1 (by kernel_rfl)).trans h1_21
     have h4_22 := (T.rest 4 (by kernel_rfl)).trans h4_21
     have h5_22 := (T.rest 5 (by kernel_rfl)).trans h5_21
     have h6_22 := (T.rest 6 (by kernel_rfl)).trans h6_21
     have h14_22 := (T.rest 14 (by kernel_rfl)).trans h14_21
     have h17_22 := (T.rest 17 (by kernel_rfl)).trans h17_21
     have h7_22 : act22.eval (.tmp 7) = .int .i64 (IntKind.i64.wrap ((i : Nat) + 1)) := T.done 2 7 rfl rfl
     have d22 := T.defers.trans d21
     have s22 := T.size.trans s21
     have bl22 := bl21.trans (T.below.mono bl21.size)
     clear T
     refine Eng.tail_nil ?_
     exact ⟨_, by omega, i + 1, x / 2, y / 2, (o + p) % 18446744073709551616, p * 2 % 18446744073709551616, rfl, by omega, (Nfa.half_next hia.symm).symm, (Nfa.half_next hib.symm).symm, (Nfa.both_on hi0 hia.symm hib.symm hio.symm hip.symm hon).symm, (Nfa.pow_next hip.symm).symm, d22, s22, bl22, (h0_22.trans (by first | rfl | (congr 1; exact Nfa.mul2 _) | (congr 1; exact Nfa.add_nat _ _) | (congr 1; rw [Eng.i64_id (by omega) (by omega)]; omega) | (simp; done))), (h1_22.trans (by first | rfl | (congr 1; exact Nfa.mul2 _) | (congr 1; exact Nfa.add_nat _ _) | (congr 1; rw [Eng.i64_id (by omega) (by omega)]; omega) | (simp; done))), h4_22, (h5_22.trans (by first | rfl | (congr 1; exact Nfa.mul2 _) | (congr 1; exact Nfa.add_nat _ _) | (congr 1; rw [Eng.i64_id (by omega) (by omega)]; omega) | (simp; done))), (h6_22.trans (by first | rfl | (congr 1; exact Nfa.mul2 _) | (congr 1; exact Nfa.add_nat _ _) | (congr 1; rw [Eng.i64_id (by omega) (by omega)]; omega) | (simp; done))), (h7_22.trans (by first | rfl | (congr 1; exact Nfa.mul2 _) | (congr 1; exact Nfa.add_nat _ _) | (congr 1; rw [Eng.i64_id (by omega) (by omega)]; omega) | (simp; done))), h14_22, h17_22⟩
    ·
     have c30 := Bq30.symm.trans hq
     clear hq
     have hon := c30
     rw [Bq25, Bq29] at hon
     refine wp_skip ?_
     refine wp_seq ?_
     refine Eng.regionS (Eng.still [fun u_ => u_ = .int .u64 (x : Int), fun u_ => u_ = .int .u64 ((x / 2 : Nat) : Int), fun u_ => u_ = .int .u64 ((x / 2 : Nat) : Int)]) (fun _ => .plain) 3 0 41 s16 rfl (by kernel_rfl) (Eng.still_stable _) (Or.inr (Eng.still_any _)) ?_ ?_
     ·refine Eng.Steps.cons (fun _ => ?_) (Eng.Steps.cons (fun _ => ?_) (Eng.Steps.cons (fun _ => ?_) (Eng.Steps.nil)))
      ·refine Eng.plain rfl rfl fun a w' H => ?_
       exact Eng.val (w1 := w') (v := .int .u64 (x : Int)) (Eng.run_move rfl ((H.kept 0 (by kernel_rfl)).trans h0_16)) (Below.refl _ _) rfl
      ·refine Eng.plain rfl rfl fun a w' H => ?_
       refine Eng.val (w1 := w') (v := .int .u64 ((x / 2 : Nat) : Int)) ?_ (Below.refl _ _) rfl
       have e0 : a.eval (.tmp 34) = .int .u64 (x : Int) := (H.dep 0 34 (by kernel_rfl) rfl)
       have e1 : a.eval (.const (.int .u64 2)) = .int .u64 2 := (rfl : a.eval (.const (.int .u64 2)) = .int .u64 2)
       simp only [execOp, resolve, e0, e1]
       go_simp
       all_goals first | rfl | (exact Nfa.tdiv2 ha64) | (rw [Nfa.tdiv2 ha64]; done) | skip
      ·refine Eng.plain rfl rfl fun a w' H => ?_
       exact Eng.val (w1 := w') (v := .int .u64 ((x / 2 : Nat) : Int)) (Eng.run_assign rfl (H.dep 1 35 (by kernel_rfl) rfl)) (Below.refl _ _) rfl
     intro act24 w24 T
     have h1_24 := (T.rest 1 (by kernel_rfl)).trans h1_16
     have h4_24 := (T.rest 4 (by kernel_rfl)).trans h4_16
     have h5_24 := (T.rest 5 (by kernel_rfl)).trans h5_16
     have h6_24 := (T.rest 6 (by kernel_rfl)).trans h6_16
     have h7_24 := (T.rest 7 (by kernel_rfl)).trans h7_16
     have h14_24 := (T.rest 14 (by kernel_rfl)).trans h14_16
     have h17_24 := (T.rest 17 (by kernel_rfl)).trans h17_16
     have h0_24 : act24.eval (.tmp 0) = .int .u64 ((x / 2 : Nat) : Int) := T.done 2 0 rfl rfl
     have d24 := T.defers.trans d16
     have s24 := T.size.trans s16
     have bl24 := bl16.trans (T.below.mono bl16.size)
     clear T
     refine Eng.tail_nil ?_
     refine wp_seq ?_
     refine Eng.regionS (Eng.still [fun u_ => u_ = .int .u64 (y : Int), fun u_ => u_ = .int .u64 ((y / 2 : Nat) : Int), fun u_ => u_ = .int .u64 ((y / 2 : Nat) : Int)]) (fun _ => .plain) 3 0 41 s24 rfl (by kernel_rfl) (Eng.still_stable _) (Or.inr (Eng.still_any _)) ?_ ?_
     ·refine Eng.Steps.cons (fun _ => ?_) (Eng.Steps.cons (fun _ => ?_) (Eng.Steps.cons (fun _ => ?_) (Eng.Steps.nil)))
      ·refine Eng.plain rfl rfl fun a w' H => ?_
       exact Eng.val (w1 := w') (v := .int .u64 (y : Int)) (Eng.run_move rfl ((H.kept 1 (by kernel_rfl)).trans h1_24)) (Below.refl _ _) rfl
      ·refine Eng.plain rfl rfl fun a w' H => ?_
       refine Eng.val (w1 := w') (v := .int .u64 ((y / 2 : Nat) : Int)) ?_ (Below.refl _ _) rfl
       have e0 : a.eval (.tmp 36) = .int .u64 (y : Int) := (H.dep 0 36 (by kernel_rfl) rfl)
       have e1 : a.eval (.const (.int .u64 2)) = .int .u64 2 := (rfl : a.eval (.const (.int .u64 2)) = .int .u64 2)
       simp only [execOp, resolve, e0, e1]
       go_simp
       all_goals first | rfl | (exact Nfa.tdiv2 hb64) | (rw [Nfa.tdiv2 hb64]; done) | skip
      ·refine Eng.plain rfl rfl fun a w' H => ?_
       exact Eng.val (w1 := w') (v := .int .u64 ((y / 2 : Nat) : Int)) (Eng.run_assign rfl (H.dep 1 37 (by kernel_rfl) rfl)) (Below.refl _ _) rfl
     intro act25 w25 T
     have h0_25 := (T.rest 0 (by kernel_rfl)).trans h0_24
     have h4_25 := (T.rest 4 (by kernel_rfl)).trans h4_24
     have h5_25 := (T.rest 5 (by kernel_rfl)).trans h5_24
     have h6_25 := (T.rest 6 (by kernel_rfl)).trans h6_24
     have h7_25 := (T.rest 7 (by kernel_rfl)).trans h7_24
     have h14_25 := (T.rest 14 (by kernel_rfl)).trans h14_24
     have h17_25 := (T.rest 17 (by kernel_rfl)).trans h17_24
     have h1_25 : act25.eval (.tmp 1) = .int .u64 ((y / 2 : Nat) : Int) := T.done 2 1 rfl rfl
     have d25 := T.defers.trans d24
     have s25 := T.size.trans s24
     have bl25 := bl24.trans (T.below.mono bl24.size)
     clear T
     refine Eng.tail_nil ?_
     refine Eng.regionS (Eng.still [fun u_ => u_ = .int .u64 (p : Int), fun u_ => u_ = .int .u64 (IntKind.u64.wrap ((p : Int) * 2)), fun u_ => u_ = .int .u64 (IntKind.u64.wrap ((p : Int) * 2))]) (fun _ => .plain) 3 0 41 s25 rfl (by kernel_rfl) (Eng.still_stable _) (Or.inr (Eng.still_any _)) ?_ ?_
     ·refine Eng.Steps.cons (fun _ => ?_) (Eng.Steps.cons (fun _ => ?_) (Eng.Steps.cons (fun _ => ?_) (Eng.Steps.nil)))
      ·refine Eng.plain rfl rfl fun a w' H => ?_
       exact Eng.val (w1 := w') (v := .int .u64 (p : Int)) (Eng.run_move rfl ((H.kept 6 (by kernel_rfl)).trans h6_25)) (Below.refl _ _) rfl
      ·refine Eng.plain rfl rfl fun a w' H => ?_
       refine Eng.val (w1 := w') (v := .int .u64 (IntKind.u64.wrap ((p : Int) * 2))) ?_ (Below.refl _ _) rfl
       have e0 : a.eval (.tmp 38) = .int .u64 (p : Int) := (H.dep 0 38 (by kernel_rfl) rfl)
       have e1 : a.eval (.const (.int .u64 2)) = .int .u64 2 := (rfl : a.eval (.const (.int .u64 2)) = .int .u64 2)
       simp only [execOp, resolve, e0, e1]
       go_simp
      ·refine Eng.plain rfl rfl fun a w' H => ?_
       exact Eng.val (w1 := w') (v := .int .u64 (IntKind.u64.wrap ((p : Int) * 2))) (Eng.run_assign rfl (H.dep 1 39 (by kernel_rfl) rfl)) (Below.refl _ _) rfl
     intro act26 w26 T
     have h0_26 := (T.rest 0 (by kernel_rfl)).trans h0_25
     have h1_26 := (T.rest 1 (by kernel_rfl)).trans h1_25
     have h4_26 := (T.rest 4 (by kernel_rfl)).trans h4_25
     have h5_26 := (T.rest 5 (by kernel_rfl)).trans h5_25
     have h7_26 := (T.rest 7 (by kernel_rfl)).trans h7_25
     have h14_26 := (T.rest 14 (by kernel_rfl)).trans h14_25
     have h17_26 := (T.rest 17 (by kernel_rfl)).trans h17_25
     have h6_26 : act26.eval (.tmp 6) = .int .u64 (IntKind.u64.wrap ((p : Int) * 2)) := T.done 2 6 rfl rfl
     have d26 := T.defers.trans d25
     have s26 := T.size.trans s25
     have bl26 := bl25.trans (T.below.mono bl25.size)
     clear T
     refine Eng.tail_nil ?_
     refine Eng.regionS (Eng.still [fun u_ => u_ = .int .i64 (i : Nat), fun u_ => u_ = .int .i64 (IntKind.i64.wrap ((i : Nat) + 1)), fun u_ => u_ = .int .i64 (IntKind.i64.wrap ((i : Nat) + 1))]) (fun _ => .plain) 3 0 41 s26 rfl (by kernel_rfl) (Eng.still_stable _) (Or.inr (Eng.still_any _)) ?_ ?_
     ·refine Eng.Steps.cons (fun _ => ?_) (Eng.Steps.cons (fun _ => ?_) (Eng.Steps.cons (fun _ => ?_) (Eng.Steps.nil)))
      ·refine Eng.plain rfl rfl fun a w' H => ?_
       exact Eng.val (w1 := w') (v := .int .i64 (i : Nat)) (Eng.run_move rfl ((H.kept 7 (by kernel_rfl)).trans h7_26)) (Below.refl _ _) rfl
      ·refine Eng.plain rfl rfl fun a w' H => ?_
       refine Eng.val (w1 := w') (v := .int .i64 (IntKind.i64.wrap ((i : Nat) + 1))) ?_ (Below.refl _ _) rfl
       have e0 : a.eval (.tmp 21) = .int .i64 (i : Nat) := (H.dep 0 21 (by kernel_rfl) rfl)
       have e1 : a.eval (.const (.int .i64 1)) = .int .i64 1 := (rfl : a.eval (.const (.int .i64 1)) = .int .i64 1)
       simp only [execOp, resolve, e0, e1]
       go_simp
      ·refine Eng.plain rfl rfl fun a w' H => ?_
       exact Eng.val (w1 := w') (v := .int .i64 (IntKind.i64.wrap ((i : Nat) + 1))) (Eng.run_assign rfl (H.dep 1 22 (by kernel_rfl) rfl)) (Below.refl _ _) rfl
     intro act27 w27 T
     have h0_27 := (T.rest 0 (by kernel_rfl)).trans h0_26
     have h1_27 := (T.rest 1 (by kernel_rfl)).trans h1_26
     have h4_27 := (T.rest 4 (by kernel_rfl)).trans h4_26
     have h5_27 := (T.rest 5 (by kernel_rfl)).trans h5_26
     have h6_27 := (T.rest 6 (by kernel_rfl)).trans h6_26
     have h14_27 := (T.rest 14 (by kernel_rfl)).trans h14_26
     have h17_27 := (T.rest 17 (by kernel_rfl)).trans h17_26
     have h7_27 : act27.eval (.tmp 7) = .int .i64 (IntKind.i64.wrap ((i : Nat) + 1)) := T.done 2 7 rfl rfl
     have d27 := T.defers.trans d26
     have s27 := T.size.trans s26
     have bl27 := bl26.trans (T.below.mono bl26.size)
     clear T
     refine Eng.tail_nil ?_
     exact ⟨_, by omega, i + 1, x / 2, y / 2, o, p * 2 % 18446744073709551616, rfl, by omega, (Nfa.half_next hia.symm).symm, (Nfa.half_next hib.symm).symm, (Nfa.both_off hi0 hia.symm hib.symm hio.symm hon).symm, (Nfa.pow_next hip.symm).symm, d27, s27, bl27, (h0_27.trans (by first | rfl | (congr 1; exact Nfa.mul2 _) | (congr 1; exact Nfa.add_nat _ _) | (congr 1; rw [Eng.i64_id (by omega) (by omega)]; omega) | (simp; done))), (h1_27.trans (by first | rfl | (congr 1; exact Nfa.mul2 _) | (congr 1; exact Nfa.add_nat _ _) | (congr 1; rw [Eng.i64_id (by omega) (by omega)]; omega) | (simp; done))), h4_27, (h5_27.trans (by first | rfl | (congr 1; exact Nfa.mul2 _) | (congr 1; exact Nfa.add_nat _ _) | (congr 1; rw [Eng.i64_id (by omega) (by omega)]; omega) | (simp; done))), (h6_27.trans (by first | rfl | (congr 1; exact Nfa.mul2 _) | (congr 1; exact Nfa.add_nat _ _) | (congr 1; rw [Eng.i64_id (by omega) (by omega)]; omega) | (simp; done))), (h7_27.trans (by first | rfl | (congr 1; exact Nfa.mul2 _) | (congr 1; exact Nfa.add_nat _ _) | (congr 1; rw [Eng.i64_id (by omega) (by omega)]; omega) | (simp; done))), h14_27, h17_27⟩
   ·
    have c20 := Bq20.symm.trans hq
    clear hq
    have c20 := of_decide_eq_false c20
    have hie : i = 64 := by omega
    refine wp_exit ?_
    refine wp_seq ?_
    refine Eng.regionS (Eng.still [fun u_ => u_ = .int .u64 (o : Int), fun u_ => u_ = .int .u64 (o : Int)]) (fun _ => .plain) 2 0 41 s14 rfl (by kernel_rfl) (Eng.still_stable _) (Or.inr (Eng.still_any _)) ?_ ?_
    ·refine Eng.Steps.cons (fun _ => ?_) (Eng.Steps.cons (fun _ => ?_) (Eng.Steps.nil))
     ·refine Eng.plain rfl rfl fun a w' H => ?_
      exact Eng.val (w1 := w') (v := .int .u64 (o : Int)) (Eng.run_move rfl ((H.kept 5 (by kernel_rfl)).trans h5_14)) (Below.refl _ _) rfl
     ·refine Eng.plain rfl rfl fun a w' H => ?_
      exact Eng.val (w1 := w') (v := .int .u64 (o : Int)) (Eng.run_assign rfl (H.dep 0 40 (by kernel_rfl) rfl)) (Below.refl _ _) rfl
    intro act29 w29 T
    have h4_29 : act29.eval (.tmp 4) = .int .u64 (o : Int) := T.done 1 4 rfl rfl
    have d29 := T.defers.trans d14
    have bl29 := bl14.trans (T.below.mono bl14.size)
    clear T
    refine Eng.tail_nil ?_
    refine wp_ret ?_
    repeat (first | refine Eng.in_ret ?_ | refine Eng.then_ret ?_)
    exact Eng.ret1 rfl d29 (h4_29.trans (by rw [Nfa.both_all hA hB hie hio.symm])) ⟨rfl, bl29⟩
end Go.Proofs.YthgafcaoibfchaaDoor.X
end
section
namespace Go.Proofs.YthgafcaoibfchaaDoor.X
open Go Go.RowKit Go.Shelf Go.Proofs
set_option linter.unusedVariables false
set_option linter.unusedSimpArgs false
namespace Nfa
theorem both_calls (x y : Int) (w : World) (hx : 0 ≤ x) (hx1 : x < 18446744073709551616) (hy : 0 ≤ y) (hy1 : y < 18446744073709551616) : Calls Tryd.prog 84 #[.int .u64 x, .int .u64 y] w fun e w' => e = .returned (.int .u64 (Go.bits .or .u64 x y)) ∧ Below w.heap.size w w' := by
  obtain ⟨A, rfl⟩ := Int.eq_ofNat_of_zero_le hx
  obtain ⟨B, rfl⟩ := Int.eq_ofNat_of_zero_le hy
  have h := both_calls0 A B w (by omega) (by omega)
  rw [← or_nat (show A < 2 ^ 64 by omega) (show B < 2 ^ 64 by omega)] at h
  exact h
theorem bits_or_bounds (x y : Int) : 0 ≤ Go.bits .or .u64 x y ∧ Go.bits .or .u64 x y < 18446744073709551616 := by
  rw [bits_or]
  have := (bv x ||| bv y).isLt
  omega
theorem union_bounds {a b : List Int} (ha : Good a) : ∀ k i, i < 8 → 0 ≤ at_ (unionTo a b k) i ∧ at_ (unionTo a b k) i < 18446744073709551616
  | 0, i, hi => ⟨ha.lo i hi, ha.hi i hi⟩
  | k + 1, i, hi => by
    rw [unionTo_succ]
    by_cases hk : k < (unionTo a b k).length
    · rw [at_set _ _ _ _ hk]
      split
      · exact bits_or_bounds _ _
      · exact union_bounds ha k i hi
    · rw [List.set_eq_of_length_le (by omega)]; exact union_bounds ha k i hi
theorem union_lo {a b : List Int} (ha : Good a) (hb : Good b) (k : Nat) (hk : k < 8) : 0 ≤ at_ (unionTo a b k) k := (union_bounds ha k k hk).1
theorem union_hi {a b : List Int} (ha : Good a) (hb : Good b) (k : Nat) (hk : k < 8) : at_ (unionTo a b k) k < 18446744073709551616 := (union_bounds ha k k hk).2
end Nfa
end Go.Proofs.YthgafcaoibfchaaDoor.X
end
section
namespace Go.Proofs.YthgafcaoibfchaaDoor.X
open Go.RowKit Go.Shelf Go.Proofs Go.Proofs.YthgafcaoibfchaaDoorW.PrintWords Go.Proofs.YthgafcaoibfchaaDoorW.PrintLast Go.Proofs.YthgafcaoibfchaaDoorW.PrintMore
set_option linter.unusedVariables false
set_option linter.unusedSimpArgs false
set_option maxHeartbeats 4000000 in
set_option maxRecDepth 100000 in
theorem Nfa.runion_calls (x1 x2 : List Int) (w : World) (hg1 : Nfa.Good x1) (hg2 : Nfa.Good x2) : Calls Tryd.prog 43 #[.agg ((List.map (Value.int .u64) x1).toArray), .agg ((List.map (Value.int .u64) x2).toArray)] w fun e w' => e = .returned (.agg (List.map (Value.int .u64) (Nfa.unionTo x1 x2 8)).toArray) ∧ Below w.heap.size w w' := by
 refine Eng.enter Tryd.func43 rfl fun act0 d0 s0 v0 => ?_
 have s0 : act0.tmps.size = 20 := s0
 have h0_0 : act0.eval (.tmp 0) = .agg ((List.map (Value.int .u64) x1).toArray) := v0 0 (by simp)
 have h1_0 : act0.eval (.tmp 1) = .agg ((List.map (Value.int .u64) x2).toArray) := v0 1 (by simp)
 clear v0
 have bl0 : Below w.heap.size w w := Below.refl _ _
 refine wp_seq ?_
 refine Eng.regionS (Eng.still [fun u_ => True, fun u_ => True, fun u_ => True]) (fun i => ([.alloc 61 ((List.map (Value.int .u64) x1).toArray), .alloc 61 ((List.map (Value.int .u64) x2).toArray), .alloc 61 ((List.map (Value.int .u64) (List.replicate 8 0)).toArray)] : List Eng.Kind).getD i .plain) 3 0 20 s0 rfl (by kernel_rfl) (Eng.still_stable _) (Or.inr (Eng.still_any _)) ?_ ?_
 ·refine Eng.Steps.cons (fun _ => ?_) (Eng.Steps.cons (fun _ => ?_) (Eng.Steps.cons (fun _ => ?_) (Eng.Steps.nil)))
  ·refine Eng.made rfl (by simp) rfl (fun a w' hd ho => ?_) (fun _ _ => trivial)
   exact Eng.run_box rfl ((ho 0 (by kernel_rfl)).trans h0_0)
  ·refine Eng.made rfl (by simp) rfl (fun a w' hd ho => ?_) (fun _ _ => trivial)
   exact Eng.run_box rfl ((ho 1 (by kernel_rfl)).trans h1_0)
  ·refine Eng.made rfl (by simp) rfl (fun a w' hd ho => ?_) (fun _ _ => trivial)
   exact Eng.run_alloc rfl (by kernel_rfl)
 intro act1 w1 T
 have h0_1 := (T.rest 0 (by kernel_rfl)).trans h0_0
 have h1_1 := (T.rest 1 (by kernel_rfl)).trans h1_0
 obtain ⟨g2_1, h2_1, rg2_1, lg2_1_1, kg2_1_1⟩ := T.al 0 2 _ _ rfl rfl rfl (by kernel_rfl)
 have og2_1 : w.heap.size ≤ g2_1 := Nat.le_trans bl0.size rg2_1
 obtain ⟨g3_1, h3_1, rg3_1, lg3_1_1, kg3_1_1⟩ := T.al 1 3 _ _ rfl rfl rfl (by kernel_rfl)
 have ne_g3_1_g2_1 : g2_1 ≠ g3_1 := T.ne 0 1 2 3 rfl rfl rfl rfl rfl rfl h2_1 h3_1 rfl
 obtain ⟨g4_1, h4_1, rg4_1, lg4_1_1, kg4_1_1⟩ := T.al 2 4 _ _ rfl rfl rfl (by kernel_rfl)
 have og4_1 : w.heap.size ≤ g4_1 := Nat.le_trans bl0.size rg4_1
 have ne_g4_1_g2_1 : g2_1 ≠ g4_1 := T.ne 0 2 2 4 rfl rfl rfl rfl rfl rfl h2_1 h4_1 rfl
 have d1 := T.defers.trans d0
 have s1 := T.size.trans s0
 have bl1 := bl0.trans (T.below.mono bl0.size)
 clear T
 refine Eng.tail_nil ?_
 refine wp_seq ?_
 refine wp_seq ?_
 refine Eng.regionS (Eng.still [fun u_ => u_ = .int .i64 0]) (fun _ => .plain) 1 0 20 s1 rfl (by kernel_rfl) (Eng.still_stable _) (Or.inr (Eng.still_any _)) ?_ ?_
 ·refine Eng.Steps.cons (fun _ => ?_) (Eng.Steps.nil)
  ·refine Eng.plain rfl rfl fun a w' H => ?_
   exact Eng.val (w1 := w') (v := .int .i64 0) (Eng.run_assign rfl (rfl : a.eval (.const (.int .i64 0)) = .int .i64 0)) (Below.refl _ _) rfl
 intro act2 w2 T
 have h0_2 := (T.rest 0 (by kernel_rfl)).trans h0_1
 have h1_2 := (T.rest 1 (by kernel_rfl)).trans h1_1
 have h2_2 := (T.rest 2 (by kernel_rfl)).trans h2_1
 have h3_2 := (T.rest 3 (by kernel_rfl)).trans h3_1
 have h4_2 := (T.rest 4 (by kernel_rfl)).trans h4_1
 have kg2_1_2 := (T.below.block _ lg2_1_1).trans kg2_1_1
 have lg2_1_2 := Nat.lt_of_lt_of_le lg2_1_1 T.below.size
 have kg3_1_2 := (T.below.block _ lg3_1_1).trans kg3_1_1
 have lg3_1_2 := Nat.lt_of_lt_of_le lg3_1_1 T.below.size
 have kg4_1_2 := (T.below.block _ lg4_1_1).trans kg4_1_1
 have lg4_1_2 := Nat.lt_of_lt_of_le lg4_1_1 T.below.size
 have h5_2 : act2.eval (.tmp 5) = .int .i64 0 := T.done 0 5 rfl rfl
 have d2 := T.defers.trans d1
 have s2 := T.size.trans s1
 have bl2 := bl1.trans (T.below.mono bl1.size)
 clear T
 refine Eng.tail_nil ?_
 refine wp_block ?_
 refine Eng.loopN (fun n a w' => ∃ (k : Nat), 8 - k = n ∧ (k ≤ 8) ∧ a.defers = [] ∧ a.tmps.size = 20 ∧ Below w.heap.size w w' ∧ a.eval (.tmp 0) = .agg ((List.map (Value.int .u64) x1).toArray) ∧ a.eval (.tmp 1) = .agg ((List.map (Value.int .u64) x2).toArray) ∧ a.eval (.tmp 2) = .pointer (some ⟨g2_1, 0, none⟩) ∧ a.eval (.tmp 3) = .pointer (some ⟨g3_1, 0, none⟩) ∧ a.eval (.tmp 4) = .pointer (some ⟨g4_1, 0, none⟩) ∧ a.eval (.tmp 5) = .int .i64 (k : Nat) ∧ w'.heap[g2_1]? = some (.cells ((List.map (Value.int .u64) (Nfa.unionTo x1 x2 k)).toArray) 61 (0, 0)) ∧ g2_1 < w'.heap.size ∧ w'.heap[g3_1]? = some (.cells ((List.map (Value.int .u64) x2).toArray) 61 (0, 0)) ∧ g3_1 < w'.heap.size ∧ w'.heap[g4_1]? = some (.cells ((List.map (Value.int .u64) (List.replicate 8 0)).toArray) 61 (0, 0)) ∧ g4_1 < w'.heap.size) (n0 := 8 - 0) ?_ ?_
 ·exact ⟨0, rfl, by omega, d2, s2, bl2, h0_2, h1_2, h2_2, h3_2, h4_2, (h5_2.trans (by first | rfl | (congr 1; rw [Eng.i64_id (by omega) (by omega)]; omega) | (simp; done))), (kg2_1_2.trans (by first | rfl | (rw [Nfa.unionTo_succ]; done))), lg2_1_2, kg3_1_2, lg3_1_2, kg4_1_2, lg4_1_2⟩
 rintro n act3 w3 ⟨k, rfl, hc0_3, d3, s3, bl3, h0_3, h1_3, h2_3, h3_3, h4_3, h5_3, kg2_1_3, lg2_1_3, kg3_1_3, lg3_1_3, kg4_1_3, lg4_1_3⟩
 have hk1 := hc0_3
 refine wp_seq ?_
 refine wp_seq ?_
 obtain ⟨q7, Bq7⟩ : ∃ b : Bool, b = (decide ((k : Nat) < 8)) := ⟨_, rfl⟩
 refine Eng.regionS (Eng.still [fun u_ => u_ = .int .i64 (k : Nat), fun u_ => u_ = .bool q7]) (fun _ => .plain) 2 0 20 s3 rfl (by kernel_rfl) (Eng.still_stable _) (Or.inr (Eng.still_any _)) ?_ ?_
 ·refine Eng.Steps.cons (fun _ => ?_) (Eng.Steps.cons (fun _ => ?_) (Eng.Steps.nil))
  ·refine Eng.plain rfl rfl fun a w' H => ?_
   exact Eng.val (w1 := w') (v := .int .i64 (k : Nat)) (Eng.run_move rfl ((H.kept 5 (by kernel_rfl)).trans h5_3)) (Below.refl _ _) rfl
  ·refine Eng.plain rfl rfl fun a w' H => ?_
   refine Eng.val (w1 := w') (v := .bool (decide ((k : Nat) < 8))) ?_ (Below.refl _ _) (by show _ = Value.bool q7; rw [Bq7])
   have e0 : a.eval (.tmp 6) = .int .i64 (k : Nat) := (H.dep 0 6 (by kernel_rfl) rfl)
   have e1 : a.eval (.const (.int .i64 8)) = .int .i64 8 := (rfl : a.eval (.const (.int .i64 8)) = .int .i64 8)
   simp only [execOp, resolve, e0, e1]
   go_simp
   all_goals first | rfl | (simp; done) | (rw [Bool.eq_iff_iff]; simp; done) | omega | (split <;> first | (simp_all; done) | (split <;> simp_all; done)) | skip
 intro act4 w4 T
 have h0_4 := (T.rest 0 (by kernel_rfl)).trans h0_3
 have h1_4 := (T.rest 1 (by kernel_rfl)).trans h1_3
 have h2_4 := (T.rest 2 (by kernel_rfl)).trans h2_3
 have h3_4 := (T.rest 3 (by kernel_rfl)).trans h3_3
 have h4_4 := (T.rest 4 (by kernel_rfl)).trans h4_3
 have h5_4 := (T.rest 5 (by kernel_rfl)).trans h5_3
 have kg2_1_4 := (T.below.block _ lg2_1_3).trans kg2_1_3
 have lg2_1_4 := Nat.lt_of_lt_of_le lg2_1_3 T.below.size
 have kg3_1_4 := (T.below.block _ lg3_1_3).trans kg3_1_3
 have lg3_1_4 := Nat.lt_of_lt_of_le lg3_1_3 T.below.size
 have kg4_1_4 := (T.below.block _ lg4_1_3).trans kg4_1_3
 have lg4_1_4 := Nat.lt_of_lt_of_le lg4_1_3 T.below.size
 have h7_4 : act4.eval (.tmp 7) = .bool q7 := T.done 1 7 rfl rfl
 have d4 := T.defers.trans d3
 have s4 := T.size.trans s3
 have bl4 := bl3.trans (T.below.mono bl3.size)
 clear T
 refine Eng.tail_nil ?_
 refine wp_cond_split h7_4 (fun hq => ?_) (fun hq => ?_)
 ·
  have c7 := Bq7.symm.trans hq
  clear hq
  have c7 := of_decide_eq_true c7
  have hk0 : k < 8 := by omega
  refine wp_skip ?_
  refine wp_seq ?_
  refine wp_block ?_
  refine Eng.regionD (Eng.still [fun u_ => u_ = .int .i64 (k : Nat), fun u_ => u_ = .int .i64 (k : Nat), fun u_ => u_ = .pointer (some ⟨g2_1, k, none⟩), fun u_ => u_ = .int .u64 (Nfa.at_ (Nfa.unionTo x1 x2 k) (k)), fun u_ => u_ = .int .i64 (k : Nat), fun u_ => u_ = .pointer (some ⟨g3_1, k, none⟩), fun u_ => u_ = .int .u64 (Nfa.at_ x2 (k)), fun u_ => u_ = .int .u64 (Go.bits .or .u64 (Nfa.at_ (Nfa.unionTo x1 x2 k) (k)) (Nfa.at_ x2 (k))), fun u_ => u_ = .pointer (some ⟨g2_1, k, none⟩)]) (fun _ => .plain) 9 1 20 (by kernel_rfl) s4 rfl (by kernel_rfl) (Eng.still_stable _) (Or.inr (Eng.still_any _)) ?_ ?_
  ·refine Eng.Steps.cons (fun _ => ?_) (Eng.Steps.cons (fun _ => ?_) (Eng.Steps.cons (fun _ => ?_) (Eng.Steps.cons (fun _ => ?_) (Eng.Steps.cons (fun _ => ?_) (Eng.Steps.cons (fun _ => ?_) (Eng.Steps.cons (fun _ => ?_) (Eng.Steps.cons (fun _ => ?_) (Eng.Steps.cons (fun _ => ?_) (Eng.Steps.cons (fun hlt => ?_) (Eng.Steps.nil))))))))))
   ·refine Eng.plain rfl rfl fun a w' H => ?_
    exact Eng.val (w1 := w') (v := .int .i64 (k : Nat)) (Eng.run_move rfl ((H.kept 5 (by kernel_rfl)).trans h5_4)) (Below.refl _ _) rfl
   ·refine Eng.plain rfl rfl fun a w' H => ?_
    exact Eng.val (w1 := w') (v := .int .i64 (k : Nat)) (Eng.run_move rfl ((H.kept 5 (by kernel_rfl)).trans h5_4)) (Below.refl _ _) rfl
   ·refine Eng.plain rfl rfl fun a w' H => ?_
    refine Eng.val (w1 := w') (v := .pointer (some ⟨g2_1, k, none⟩)) ?_ (Below.refl _ _) rfl
    exact Eng.run_indexAddr rfl Tryd.underlying61 (by kernel_rfl) ((H.kept 2 (by kernel_rfl)).trans h2_4) ((H.dep 1 11 (by kernel_rfl) rfl).trans (congrArg (Value.int _) (show (k : Nat) = ((k : Nat) : Int) from by omega))) (by decide) (by omega)
   ·refine Eng.plain rfl rfl fun a w' H => ?_
    have kb := (H.below.block _ lg2_1_4).trans kg2_1_4
    have z0 : w'.cell? ⟨g2_1, k, none⟩ = some (.int .u64 (Nfa.at_ (Nfa.unionTo x1 x2 k) (k))) := (Eng.cells kb (k)).trans (Nfa.cell_at ((Nfa.unionTo_len _ _ _).trans hg1.len) (by omega))
    refine Eng.val (w1 := w') (v := .int .u64 (Nfa.at_ (Nfa.unionTo x1 x2 k) (k))) ?_ (Below.refl _ _) rfl
    have e0 : a.eval (.tmp 12) = .pointer (some ⟨g2_1, k, none⟩) := (H.dep 2 12 (by kernel_rfl) rfl)
    simp only [execOp, resolve, e0]
    go_simp
   ·refine Eng.plain rfl rfl fun a w' H => ?_
    exact Eng.val (w1 := w') (v := .int .i64 (k : Nat)) (Eng.run_move rfl ((H.kept 5 (by kernel_rfl)).trans h5_4)) (Below.refl _ _) rfl
   ·refine Eng.plain rfl rfl fun a w' H => ?_
    refine Eng.val (w1 := w') (v := .pointer (some ⟨g3_1, k, none⟩)) ?_ (Below.refl _ _) rfl
    exact Eng.run_indexAddr rfl Tryd.underlying61 (by kernel_rfl) ((H.kept 3 (by kernel_rfl)).trans h3_4) ((H.dep 4 14 (by kernel_rfl) rfl).trans (congrArg (Value.int _) (show (k : Nat) = ((k : Nat) : Int) from by omega))) (by decide) (by omega)
   ·refine Eng.plain rfl rfl fun a w' H => ?_
    have kb := (H.below.block _ lg3_1_4).trans kg3_1_4
    have z0 : w'.cell? ⟨g3_1, k, none⟩ = some (.int .u64 (Nfa.at_ x2 (k))) := (Eng.cells kb (k)).trans (Nfa.cell_at ((hg2).len) (by omega))
    refine Eng.val (w1 := w') (v := .int .u64 (Nfa.at_ x2 (k))) ?_ (Below.refl _ _) rfl
    have e0 : a.eval (.tmp 15) = .pointer (some ⟨g3_1, k, none⟩) := (H.dep 5 15 (by kernel_rfl) rfl)
    simp only [execOp, resolve, e0]
    go_simp
   ·refine Eng.plain rfl rfl fun a w' H => ?_
    refine Eng.call Tryd.func84 (by kernel_rfl) (by kernel_rfl) rfl #[.int .u64 (Nfa.at_ (Nfa.unionTo x1 x2 k) (k)), .int .u64 (Nfa.at_ x2 (k))] ?_ ?_
    ·have e0 : a.eval (.tmp 13) = .int .u64 (Nfa.at_ (Nfa.unionTo x1 x2 k) (k)) := (H.dep 3 13 (by kernel_rfl) rfl); have e1 : a.eval (.tmp 16) = .int .u64 (Nfa.at_ x2 (k)) := (H.dep 6 16 (by kernel_rfl) rfl); simp only [List.map_toArray, List.map_cons, List.map_nil, e0, e1]
    refine (Nfa.both_calls (Nfa.at_ (Nfa.unionTo x1 x2 k) (k)) (Nfa.at_ x2 (k)) _ (Nfa.union_lo hg1 hg2 k hk0) (Nfa.union_hi hg1 hg2 k hk0) (hg2.lo k hk0) (hg2.hi k hk0)).mono ?_
    rintro e w'' ⟨rfl, hb⟩
    exact ⟨_, rfl, rfl, hb⟩
   ·refine Eng.plain rfl rfl fun a w' H => ?_
    refine Eng.val (w1 := w') (v := .pointer (some ⟨g2_1, k, none⟩)) ?_ (Below.refl _ _) rfl
    exact Eng.run_indexAddr rfl Tryd.underlying61 (by kernel_rfl) ((H.kept 2 (by kernel_rfl)).trans h2_4) ((H.dep 0 10 (by kernel_rfl) rfl).trans (congrArg (Value.int _) (show (k : Nat) = ((k : Nat) : Int) from by omega))) (by decide) (by omega)
   ·exact absurd hlt (by decide)
  intro act6 w6 T
  have h0_6 := (T.rest 0 (by kernel_rfl)).trans h0_4
  have h1_6 := (T.rest 1 (by kernel_rfl)).trans h1_4
  have h2_6 := (T.rest 2 (by kernel_rfl)).trans h2_4
  have h3_6 := (T.rest 3 (by kernel_rfl)).trans h3_4
  have h4_6 := (T.rest 4 (by kernel_rfl)).trans h4_4
  have h5_6 := (T.rest 5 (by kernel_rfl)).trans h5_4
  have kg2_1_6 := (T.below.block _ lg2_1_4).trans kg2_1_4
  have lg2_1_6 := Nat.lt_of_lt_of_le lg2_1_4 T.below.size
  have kg3_1_6 := (T.below.block _ lg3_1_4).trans kg3_1_4
  have lg3_1_6 := Nat.lt_of_lt_of_le lg3_1_4 T.below.size
  have kg4_1_6 := (T.below.block _ lg4_1_4).trans kg4_1_4
  have lg4_1_6 := Nat.lt_of_lt_of_le lg4_1_4 T.below.size
  have h17_6 : act6.eval (.tmp 17) = .int .u64 (Go.bits .or .u64 (Nfa.at_ (Nfa.unionTo x1 x2 k) (k)) (Nfa.at_ x2 (k))) := T.done 7 17 rfl rfl
  have h18_6 : act6.eval (.tmp 18) = .pointer (some ⟨g2_1, k, none⟩) := T.done 8 18 rfl rfl
  have d6 := T.defers.trans d4
  have s6 := T.size.trans s4
  have bl6 := bl4.trans (T.below.mono bl4.size)
  clear T
  refine Eng.tail_set (n := k) (v := .int .u64 (Go.bits .or .u64 (Nfa.at_ (Nfa.unionTo x1 x2 k) (k)) (Nfa.at_ x2 (k)))) (new := (List.map (Value.int .u64) ((Nfa.unionTo x1 x2 k).set (k) (Go.bits .or .u64 (Nfa.at_ (Nfa.unionTo x1 x2 k) (k)) (Nfa.at_ x2 (k))))).toArray) rfl rfl rfl kg2_1_6 (Nfa.cell_set (Nfa.unionTo x1 x2 k) (k) (Go.bits .or .u64 (Nfa.at_ (Nfa.unionTo x1 x2 k) (k)) (Nfa.at_ x2 (k)))) ?_ fun w7 S => ?_
  ·have e0 : act6.eval (.tmp 18) = .pointer (some ⟨g2_1, k, none⟩) := h18_6
   have e1 : act6.eval (.tmp 17) = .int .u64 (Go.bits .or .u64 (Nfa.at_ (Nfa.unionTo x1 x2 k) (k)) (Nfa.at_ x2 (k))) := h17_6
   have z0 := (Eng.cells kg2_1_6 (k)).trans (Nfa.cell_at ((Nfa.unionTo_len _ _ _).trans hg1.len) (by omega))
   have f0 := Eng.unfrozen kg2_1_6 (k)
   simp only [execOp]
   rw [e0, e1]
   go_simp
  have kg2_1_7 := S.new
  have lg2_1_7 := Nat.lt_of_lt_of_eq lg2_1_6 S.size.symm
  have kg3_1_7 := (S.far _ ne_g3_1_g2_1.symm).trans kg3_1_6
  have lg3_1_7 := Nat.lt_of_lt_of_eq lg3_1_6 S.size.symm
  have kg4_1_7 := (S.far _ ne_g4_1_g2_1.symm).trans kg4_1_6
  have lg4_1_7 := Nat.lt_of_lt_of_eq lg4_1_6 S.size.symm
  have bl7 := S.below bl6 og2_1
  clear S
  refine Eng.tail_nil ?_
  refine Eng.regionS (Eng.still [fun u_ => u_ = .int .i64 (k : Nat), fun u_ => u_ = .int .i64 (IntKind.i64.wrap ((k : Nat) + 1)), fun u_ => u_ = .int .i64 (IntKind.i64.wrap ((k : Nat) + 1))]) (fun _ => .plain) 3 0 20 s6 rfl (by kernel_rfl) (Eng.still_stable _) (Or.inr (Eng.still_any _)) ?_ ?_
  ·refine Eng.Steps.cons (fun _ => ?_) (Eng.Steps.cons (fun _ => ?_) (Eng.Steps.cons (fun _ => ?_) (Eng.Steps.nil)))
   ·refine Eng.plain rfl rfl fun a w' H => ?_
    exact Eng.val (w1 := w') (v := .int .i64 (k : Nat)) (Eng.run_move rfl ((H.kept 5 (by kernel_rfl)).trans h5_6)) (Below.refl _ _) rfl
   ·refine Eng.plain rfl rfl fun a w' H => ?_
    refine Eng.val (w1 := w') (v := .int .i64 (IntKind.i64.wrap ((k : Nat) + 1))) ?_ (Below.refl _ _) rfl
    have e0 : a.eval (.tmp 8) = .int .i64 (k : Nat) := (H.dep 0 8 (by kernel_rfl) rfl)
    have e1 : a.eval (.const (.int .i64 1)) = .int .i64 1 := (rfl : a.eval (.const (.int .i64 1)) = .int .i64 1)
    simp only [execOp, resolve, e0, e1]
    go_simp
   ·refine Eng.plain rfl rfl fun a w' H => ?_
    exact Eng.val (w1 := w') (v := .int .i64 (IntKind.i64.wrap ((k : Nat) + 1))) (Eng.run_assign rfl (H.dep 1 9 (by kernel_rfl) rfl)) (Below.refl _ _) rfl
  intro act8 w8 T
  have h0_8 := (T.rest 0 (by kernel_rfl)).trans h0_6
  have h1_8 := (T.rest 1 (by kernel_rfl)).trans h1_6
  have h2_8 := (T.rest 2 (by kernel_rfl)).trans h2_6
  have h3_8 := (T.rest 3 (by kernel_rfl)).trans h3_6
  have h4_8 := (T.rest 4 (by kernel_rfl)).trans h4_6
  have kg2_1_8 := (T.below.block _ lg2_1_7).trans kg2_1_7
  have lg2_1_8 := Nat.lt_of_lt_of_le lg2_1_7 T.below.size
  have kg3_1_8 := (T.below.block _ lg3_1_7).trans kg3_1_7
  have lg3_1_8 := Nat.lt_of_lt_of_le lg3_1_7 T.below.size
  have kg4_1_8 := (T.below.block _ lg4_1_7).trans kg4_1_7
  have lg4_1_8 := Nat.lt_of_lt_of_le lg4_1_7 T.below.size
  have h5_8 : act8.eval (.tmp 5) = .int .i64 (IntKind.i64.wrap ((k : Nat) + 1)) := T.done 2 5 rfl rfl
  have d8 := T.defers.trans d6
  have s8 := T.size.trans s6
  have bl8 := bl7.trans (T.below.mono bl7.size)
  clear T
  refine Eng.tail_nil ?_
  exact ⟨_, by omega, k + 1, rfl, by omega, d8, s8, bl8, h0_8, h1_8, h2_8, h3_8, h4_8, (h5_8.trans (by first | rfl | (congr 1; rw [Eng.i64_id (by omega) (by omega)]; omega) | (simp; done))), (kg2_1_8.trans (by first | rfl | (rw [Nfa.unionTo_succ]; done))), lg2_1_8, kg3_1_8, lg3_1_8, kg4_1_8, lg4_1_8⟩
 ·
  have c7 := Bq7.symm.trans hq
  clear hq
  have c7 := of_decide_eq_false c7
  refine wp_exit ?_
  refine wp_seq ?_
  refine Eng.regionS (Eng.still [fun u_ => u_ = .agg ((List.map (Value.int .u64) (Nfa.unionTo x1 x2 k)).toArray)]) (fun _ => .plain) 1 1 20 s4 rfl (by kernel_rfl) (Eng.still_stable _) (Or.inr (Eng.still_any _)) ?_ ?_
  ·refine Eng.Steps.cons (fun _ => ?_) (Eng.Steps.cons (fun hlt => ?_) (Eng.Steps.nil))
   ·refine Eng.plain rfl rfl fun a w' H => ?_
    have kb := (H.below.block _ lg2_1_4).trans kg2_1_4
    refine Eng.val (w1 := w') (v := .agg ((List.map (Value.int .u64) (Nfa.unionTo x1 x2 k)).toArray)) ?_ (Below.refl _ _) rfl
    exact Eng.run_load_all rfl ((H.kept 2 (by kernel_rfl)).trans h2_4) kb Tryd.underlying61 rfl (by rw [Nfa.cells_size ((Nfa.unionTo_len _ _ _).trans hg1.len)]; kernel_rfl)
   ·exact absurd hlt (by decide)
  intro act10 w10 T
  have h4_10 := (T.rest 4 (by kernel_rfl)).trans h4_4
  have kg4_1_10 := (T.below.block _ lg4_1_4).trans kg4_1_4
  have h19_10 : act10.eval (.tmp 19) = .agg ((List.map (Value.int .u64) (Nfa.unionTo x1 x2 k)).toArray) := T.done 0 19 rfl rfl
  have d10 := T.defers.trans d4
  have bl10 := bl4.trans (T.below.mono bl4.size)
  clear T
  refine Eng.tail_arr rfl rfl rfl rfl h4_10 h19_10 kg4_1_10 (by rw [Nfa.cells_size ((Nfa.unionTo_len _ _ _).trans hg1.len)]; kernel_rfl) ((Nfa.cells_size ((Nfa.good0).len)).trans (Nfa.cells_size ((Nfa.unionTo_len _ _ _).trans hg1.len)).symm) (by first | exact Nfa.ones_u _ | simp [Value.oneCell']) fun w11 S => ?_
  have kg4_1_11 := S.new
  have bl11 := S.below bl10 og4_1
  clear S
  refine Eng.tail_nil ?_
  refine wp_ret ?_
  repeat (first | refine Eng.in_ret ?_ | refine Eng.then_ret ?_)
  obtain rfl : k = 8 := by omega
  exact Eng.retc rfl d10 h4_10 kg4_1_11 Tryd.underlying61 rfl (by rw [Nfa.cells_size ((Nfa.unionTo_len _ _ _).trans hg1.len)]; kernel_rfl) ⟨rfl, bl11⟩
end Go.Proofs.YthgafcaoibfchaaDoor.X
end
section
namespace Go.Proofs.YthgafcaoibfchaaDoor.X
open Go Go.RowKit Go.Shelf Go.Proofs
set_option linter.unusedVariables false
set_option linter.unusedSimpArgs false
namespace Nfa
set_option maxRecDepth 100000 in
theorem run_eq8r {a : Act} {w : World} {o : Oper} {l r : List Int} {x y : Operand} (hop : o.op = .binOp .eql 61 x y 61) (hl : l.length = 8) (hr : r.length = 8) (hx : a.eval x = .agg (List.map (Value.int .u64) l).toArray) (hy : a.eval y = .agg (List.map (Value.int .u64) r).toArray) : (execOp a.eval o).run Tryd.prog w = .ok (.value (.bool (l == r))) w := by
  have hg : (eqGuard .eql 61 x y (.agg (List.map (Value.int .u64) l).toArray) (.agg (List.map (Value.int .u64) r).toArray)).run Tryd.prog w = .ok () w := by
    have h0 : Tryd.prog.eqGuardType Tryd.prog.depth 61 = false := by kernel_rfl
    unfold eqGuard
    simp [Sem.run_bind, Sem.run_pure, h0]
  obtain ⟨i, hi, hz⟩ : ∃ i, Tryd.prog.info? 26 = some i ∧ i.size = 1 := by
    have h0 : (Tryd.prog.info? 26).map (·.size) = some 1 := by kernel_rfl
    cases hq : Tryd.prog.info? 26 with
    | none => simp [hq] at h0
    | some i => exact ⟨i, rfl, by simpa [hq] using h0⟩
  have hc : Tryd.prog.cellsOf 26 = 1 := by kernel_rfl
  have he : (Op.equal 61 (.agg (List.map (Value.int .u64) l).toArray) (.agg (List.map (Value.int .u64) r).toArray)).run Tryd.prog w = .ok (l == r) w := by
    have h1 := run_equalIn_array (P := Tryd.prog) w 9999 (List.map (Value.int .u64) l).toArray (List.map (Value.int .u64) r).toArray Tryd.underlying61 hi
    rw [hc] at h1
    have h2 := eqItems8 9998 w l r hl hr (List.range 8) fun i h => List.mem_range.1 h
    rw [all8 l r hl hr] at h2
    exact h1.trans h2
  unfold execOp; rw [hop]
  simp only [hx, hy, Sem.run_bind, hg, Result.andThen_ok, binOp, he]
  rfl
end Nfa
end Go.Proofs.YthgafcaoibfchaaDoor.X
end
