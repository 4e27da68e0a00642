/- Words and walks that the row of NfaRuns needs: printed by programs, and plain laws. -/
import Derived.Test.YthgafcaoibfchaaDoorM15
namespace Go.Proofs.YthgafcaoibfchaaDoorW.PrintWords
end Go.Proofs.YthgafcaoibfchaaDoorW.PrintWords
namespace Go.Proofs.YthgafcaoibfchaaDoorW.PrintLast
end Go.Proofs.YthgafcaoibfchaaDoorW.PrintLast
namespace Go.Proofs.YthgafcaoibfchaaDoorW.PrintMore
end Go.Proofs.YthgafcaoibfchaaDoorW.PrintMore
namespace Go.Proofs.YthgafcaoibfchaaDoor.X
open Go.RowKit Go.Shelf Go.Proofs Go.Proofs.YthgafcaoibfchaaDoorW.PrintWords Go.Proofs.YthgafcaoibfchaaDoorW.PrintLast Go.Proofs.YthgafcaoibfchaaDoorW.PrintMore
set_option linter.unusedVariables false
set_option linter.unusedSimpArgs false
set_option maxHeartbeats 4000000 in
set_option maxRecDepth 100000 in
theorem Nfa.rstep_calls (pv bv : Value) (many : Int) (ps : List (List Pth.Part)) (bs : List Int) (vs : List Value) (s : List Int) (step : ByteArray) (w : World) (hg : Nfa.Good s) (hvl : vs.length = ps.length) (hp : Eng.Reads w pv ps.length 1 vs) (hin : ∀ k, k < ps.length → Eng.Reads w (vs.getD k undef) (ps.getD k []).length 2 (Pth.cellsP (ps.getD k []))) (hb : Eng.Reads w bv bs.length 1 (Nfa.ints bs)) (hL : Nfa.Lie ps bs) : Calls Tryd.prog 83 #[.agg #[pv, bv, .int .i64 many], .agg ((List.map (Value.int .u64) s).toArray), .string step] w fun e w' => e = .returned (.agg (List.map (Value.int .u64) (Nfa.step ps bs s step)).toArray) ∧ Below w.heap.size w w' := by
 have hu157 := Tryd.underlying157
 have hm := Eng.Reads.len_le hp
 have hbl := hL.1
 refine Eng.enter Tryd.func83 rfl fun act0 d0 s0 v0 => ?_
 have s0 : act0.tmps.size = 74 := s0
 have h0_0 : act0.eval (.tmp 0) = .agg #[pv, bv, .int .i64 many] := v0 0 (by simp)
 have h1_0 : act0.eval (.tmp 1) = .agg ((List.map (Value.int .u64) s).toArray) := v0 1 (by simp)
 have h2_0 : act0.eval (.tmp 2) = .string step := v0 2 (by simp)
 clear v0
 have bl0 : Below w.heap.size w w := Below.refl _ _
 refine wp_seq ?_
 refine Eng.regionS (Eng.still [fun u_ => True, fun u_ => True, fun u_ => True]) (fun i => ([.alloc 71 #[pv, bv, .int .i64 many], .alloc 61 ((List.map (Value.int .u64) s).toArray), .alloc 61 ((List.map (Value.int .u64) (List.replicate 8 0)).toArray)] : List Eng.Kind).getD i .plain) 3 0 74 s0 rfl (by kernel_rfl) (Eng.still_stable _) (Or.inr (Eng.still_any _)) ?_ ?_
 ·refine Eng.Steps.cons (fun _ => ?_) (Eng.Steps.cons (fun _ => ?_) (Eng.Steps.cons (fun _ => ?_) (Eng.Steps.nil)))
  ·refine Eng.made rfl (by simp) rfl (fun a w' hd ho => ?_) (fun _ _ => trivial)
   exact Eng.run_box rfl ((ho 0 (by kernel_rfl)).trans h0_0)
  ·refine Eng.made rfl (by simp) rfl (fun a w' hd ho => ?_) (fun _ _ => trivial)
   exact Eng.run_box rfl ((ho 1 (by kernel_rfl)).trans h1_0)
  ·refine Eng.made rfl (by simp) rfl (fun a w' hd ho => ?_) (fun _ _ => trivial)
   exact Eng.run_alloc rfl (by kernel_rfl)
 intro act1 w1 T
 have h0_1 := (T.rest 0 (by kernel_rfl)).trans h0_0
 have h1_1 := (T.rest 1 (by kernel_rfl)).trans h1_0
 have h2_1 := (T.rest 2 (by kernel_rfl)).trans h2_0
 obtain ⟨g3_1, h3_1, rg3_1, lg3_1_1, kg3_1_1⟩ := T.al 0 3 _ _ rfl rfl rfl (by kernel_rfl)
 obtain ⟨g4_1, h4_1, rg4_1, lg4_1_1, kg4_1_1⟩ := T.al 1 4 _ _ rfl rfl rfl (by kernel_rfl)
 obtain ⟨g6_1, h6_1, rg6_1, lg6_1_1, kg6_1_1⟩ := T.al 2 6 _ _ rfl rfl rfl (by kernel_rfl)
 have og6_1 : w.heap.size ≤ g6_1 := Nat.le_trans bl0.size rg6_1
 have d1 := T.defers.trans d0
 have s1 := T.size.trans s0
 have bl1 := bl0.trans (T.below.mono bl0.size)
 clear T
 refine Eng.tail_nil ?_
 refine wp_seq ?_
 refine Eng.regionS (Eng.still [fun u_ => u_ = .agg ((List.map (Value.int .u64) (List.replicate 8 0)).toArray), fun u_ => True, fun u_ => True]) (fun i => ([.plain, .alloc 61 ((List.map (Value.int .u64) (List.replicate 8 0)).toArray), .store 1 ((List.map (Value.int .u64) (List.replicate 8 0)).toArray)] : List Eng.Kind).getD i .plain) 3 0 74 s1 rfl (by kernel_rfl) (Eng.still_stable _) (Or.inr (Eng.still_any _)) ?_ ?_
 ·refine Eng.Steps.cons (fun _ => ?_) (Eng.Steps.cons (fun _ => ?_) (Eng.Steps.cons (fun _ => ?_) (Eng.Steps.nil)))
  ·refine Eng.plain rfl rfl fun a w' H => ?_
   refine Eng.val (w1 := w') (v := .agg ((List.map (Value.int .u64) (List.replicate 8 0)).toArray)) ?_ (Below.refl _ _) rfl
   simp only [execOp, resolve]
   go_simp
   all_goals first | rfl | (simp; done) | omega | skip
  ·refine Eng.made rfl (by simp) rfl (fun a w' hd ho => ?_) (fun _ _ => trivial)
   exact Eng.run_alloc rfl (by kernel_rfl)
  ·refine Eng.stored_arr rfl rfl rfl (j := 1) (d := 7) (by kernel_rfl) rfl rfl (Eng.store_uniq (by kernel_rfl)) ((Nfa.cells_size ((Nfa.good0).len)).trans (Nfa.cells_size ((Nfa.good0).len)).symm) rfl (by rw [Nfa.cells_size ((Nfa.good0).len)]; kernel_rfl) (by first | exact Nfa.ones_u _ | simp [Value.oneCell']) fun a w' hd ho => ?_
   exact (hd 0 12 (by kernel_rfl) rfl)
 intro act2 w2 T
 have h0_2 := (T.rest 0 (by kernel_rfl)).trans h0_1
 have h1_2 := (T.rest 1 (by kernel_rfl)).trans h1_1
 have h2_2 := (T.rest 2 (by kernel_rfl)).trans h2_1
 have h3_2 := (T.rest 3 (by kernel_rfl)).trans h3_1
 have h4_2 := (T.rest 4 (by kernel_rfl)).trans h4_1
 have h6_2 := (T.rest 6 (by kernel_rfl)).trans h6_1
 have kg3_1_2 := (T.below.block _ lg3_1_1).trans kg3_1_1
 have lg3_1_2 := Nat.lt_of_lt_of_le lg3_1_1 T.below.size
 have kg4_1_2 := (T.below.block _ lg4_1_1).trans kg4_1_1
 have lg4_1_2 := Nat.lt_of_lt_of_le lg4_1_1 T.below.size
 have kg6_1_2 := (T.below.block _ lg6_1_1).trans kg6_1_1
 have lg6_1_2 := Nat.lt_of_lt_of_le lg6_1_1 T.below.size
 obtain ⟨g7_2, h7_2, rg7_2, lg7_2_2, kg7_2_2⟩ := T.st 1 7 2 _ _ _ rfl rfl rfl rfl rfl
 have og7_2 : w.heap.size ≤ g7_2 := Nat.le_trans bl1.size rg7_2
 have ne_g7_2_g3_1 : g3_1 ≠ g7_2 := fun e => Nat.lt_irrefl _ (Nat.lt_of_lt_of_le (e ▸ lg3_1_1) rg7_2)
 have ne_g7_2_g4_1 : g4_1 ≠ g7_2 := fun e => Nat.lt_irrefl _ (Nat.lt_of_lt_of_le (e ▸ lg4_1_1) rg7_2)
 have ne_g7_2_g6_1 : g6_1 ≠ g7_2 := fun e => Nat.lt_irrefl _ (Nat.lt_of_lt_of_le (e ▸ lg6_1_1) rg7_2)
 have d2 := T.defers.trans d1
 have s2 := T.size.trans s1
 have bl2 := bl1.trans (T.below.mono bl1.size)
 clear T
 refine Eng.tail_nil ?_
 refine wp_seq ?_
 refine wp_seq ?_
 refine Eng.regionS (Eng.still [fun u_ => u_ = .int .i64 0]) (fun _ => .plain) 1 0 74 s2 rfl (by kernel_rfl) (Eng.still_stable _) (Or.inr (Eng.still_any _)) ?_ ?_
 ·refine Eng.Steps.cons (fun _ => ?_) (Eng.Steps.nil)
  ·refine Eng.plain rfl rfl fun a w' H => ?_
   exact Eng.val (w1 := w') (v := .int .i64 0) (Eng.run_assign rfl (rfl : a.eval (.const (.int .i64 0)) = .int .i64 0)) (Below.refl _ _) rfl
 intro act3 w3 T
 have h0_3 := (T.rest 0 (by kernel_rfl)).trans h0_2
 have h1_3 := (T.rest 1 (by kernel_rfl)).trans h1_2
 have h2_3 := (T.rest 2 (by kernel_rfl)).trans h2_2
 have h3_3 := (T.rest 3 (by kernel_rfl)).trans h3_2
 have h4_3 := (T.rest 4 (by kernel_rfl)).trans h4_2
 have h6_3 := (T.rest 6 (by kernel_rfl)).trans h6_2
 have h7_3 := (T.rest 7 (by kernel_rfl)).trans h7_2
 have kg3_1_3 := (T.below.block _ lg3_1_2).trans kg3_1_2
 have lg3_1_3 := Nat.lt_of_lt_of_le lg3_1_2 T.below.size
 have kg4_1_3 := (T.below.block _ lg4_1_2).trans kg4_1_2
 have lg4_1_3 := Nat.lt_of_lt_of_le lg4_1_2 T.below.size
 have kg6_1_3 := (T.below.block _ lg6_1_2).trans kg6_1_2
 have lg6_1_3 := Nat.lt_of_lt_of_le lg6_1_2 T.below.size
 have kg7_2_3 := (T.below.block _ lg7_2_2).trans kg7_2_2
 have lg7_2_3 := Nat.lt_of_lt_of_le lg7_2_2 T.below.size
 have h8_3 : act3.eval (.tmp 8) = .int .i64 0 := T.done 0 8 rfl rfl
 have d3 := T.defers.trans d2
 have s3 := T.size.trans s2
 have bl3 := bl2.trans (T.below.mono bl2.size)
 clear T
 refine Eng.tail_nil ?_
 refine wp_block ?_
 refine Eng.loopN (fun n a w' => ∃ (k : Nat), ps.length - k = n ∧ (k ≤ ps.length) ∧ a.defers = [] ∧ a.tmps.size = 74 ∧ Below w.heap.size w w' ∧ a.eval (.tmp 0) = .agg #[pv, bv, .int .i64 many] ∧ a.eval (.tmp 1) = .agg ((List.map (Value.int .u64) s).toArray) ∧ a.eval (.tmp 2) = .string step ∧ a.eval (.tmp 3) = .pointer (some ⟨g3_1, 0, none⟩) ∧ a.eval (.tmp 4) = .pointer (some ⟨g4_1, 0, none⟩) ∧ a.eval (.tmp 6) = .pointer (some ⟨g6_1, 0, none⟩) ∧ a.eval (.tmp 7) = .pointer (some ⟨g7_2, 0, none⟩) ∧ a.eval (.tmp 8) = .int .i64 (k : Nat) ∧ w'.heap[g3_1]? = some (.cells (#[pv, bv, .int .i64 many]) 71 (0, 0)) ∧ g3_1 < w'.heap.size ∧ w'.heap[g4_1]? = some (.cells ((List.map (Value.int .u64) s).toArray) 61 (0, 0)) ∧ g4_1 < w'.heap.size ∧ w'.heap[g6_1]? = some (.cells ((List.map (Value.int .u64) (List.replicate 8 0)).toArray) 61 (0, 0)) ∧ g6_1 < w'.heap.size ∧ w'.heap[g7_2]? = some (.cells ((List.map (Value.int .u64) (Nfa.stepF s step (Nfa.itemsTo ps bs k 0))).toArray) 61 (0, 0)) ∧ g7_2 < w'.heap.size) (n0 := ps.length - 0) ?_ ?_
 ·exact ⟨0, rfl, by omega, d3, s3, bl3, h0_3, h1_3, h2_3, h3_3, h4_3, h6_3, h7_3, (h8_3.trans (by first | rfl | (congr 1; rw [Eng.i64_id (by omega) (by omega)]; omega) | (simp; done))), kg3_1_3, lg3_1_3, kg4_1_3, lg4_1_3, kg6_1_3, lg6_1_3, (kg7_2_3.trans (by first | rfl | (rw [Nfa.itemsTo_zero]; rfl) | (rw [← Nfa.itemsTo_end, hje]; done) | (rw [hje, Nfa.itemsTo_end]; done))), lg7_2_3⟩
 rintro n act4 w4 ⟨k, rfl, hc0_4, d4, s4, bl4, h0_4, h1_4, h2_4, h3_4, h4_4, h6_4, h7_4, h8_4, kg3_1_4, lg3_1_4, kg4_1_4, lg4_1_4, kg6_1_4, lg6_1_4, kg7_2_4, lg7_2_4⟩
 have Fpp_4 := Eng.Reads.below hp bl4
 have Fbb_4 := Eng.Reads.below hb bl4
 have hk1 := hc0_4
 refine wp_seq ?_
 refine wp_seq ?_
 obtain ⟨q17, Bq17⟩ : ∃ b : Bool, b = (decide ((k : Nat) < ((ps.length : Nat) : Int))) := ⟨_, rfl⟩
 refine Eng.regionS (Eng.still [fun u_ => u_ = .int .i64 (k : Nat), fun u_ => u_ = .pointer (some ⟨g3_1, 0, none⟩), fun u_ => u_ = pv, fun u_ => u_ = .int .i64 ((ps.length : Nat) : Int), fun u_ => u_ = .bool q17]) (fun _ => .plain) 5 0 74 s4 rfl (by kernel_rfl) (Eng.still_stable _) (Or.inr (Eng.still_any _)) ?_ ?_
 ·refine Eng.Steps.cons (fun _ => ?_) (Eng.Steps.cons (fun _ => ?_) (Eng.Steps.cons (fun _ => ?_) (Eng.Steps.cons (fun _ => ?_) (Eng.Steps.cons (fun _ => ?_) (Eng.Steps.nil)))))
  ·refine Eng.plain rfl rfl fun a w' H => ?_
   exact Eng.val (w1 := w') (v := .int .i64 (k : Nat)) (Eng.run_move rfl ((H.kept 8 (by kernel_rfl)).trans h8_4)) (Below.refl _ _) rfl
  ·refine Eng.plain rfl rfl fun a w' H => ?_
   refine Eng.val (w1 := w') (v := .pointer (some ⟨g3_1, 0, none⟩)) ?_ (Below.refl _ _) rfl
   have e0 := ((H.kept 3 (by kernel_rfl)).trans h3_4)
   simp only [execOp, resolve, e0]
   go_simp
  ·refine Eng.plain rfl rfl fun a w' H => ?_
   have kb := (H.below.block _ lg3_1_4).trans kg3_1_4
   have z0 : w'.cell? ⟨g3_1, 0, none⟩ = some (pv) := (Eng.cells kb 0).trans rfl
   refine Eng.val (w1 := w') (v := pv) ?_ (Below.refl _ _) rfl
   have e0 : a.eval (.tmp 14) = .pointer (some ⟨g3_1, 0, none⟩) := (H.dep 1 14 (by kernel_rfl) rfl)
   simp only [execOp, resolve, e0]
   go_simp
  ·refine Eng.plain rfl rfl fun a w' H => ?_
   refine Eng.val (w1 := w') (v := .int .i64 ((ps.length : Nat) : Int)) ?_ (Below.refl _ _) rfl
   exact Eng.run_len_sl rfl Tryd.underlying59 (show a.eval (.tmp 15) = pv from (H.dep 2 15 (by kernel_rfl) rfl)) (Eng.Reads.below Fpp_4 H.below)
  ·refine Eng.plain rfl rfl fun a w' H => ?_
   refine Eng.val (w1 := w') (v := .bool (decide ((k : Nat) < ((ps.length : Nat) : Int)))) ?_ (Below.refl _ _) (by show _ = Value.bool q17; rw [Bq17])
   have e0 : a.eval (.tmp 13) = .int .i64 (k : Nat) := (H.dep 0 13 (by kernel_rfl) rfl)
   have e1 : a.eval (.tmp 16) = .int .i64 ((ps.length : Nat) : Int) := (H.dep 3 16 (by kernel_rfl) rfl)
   simp only [execOp, resolve, e0, e1]
   go_simp
 intro act5 w5 T
 have h0_5 := (T.rest 0 (by kernel_rfl)).trans h0_4
 have h1_5 := (T.rest 1 (by kernel_rfl)).trans h1_4
 have h2_5 := (T.rest 2 (by kernel_rfl)).trans h2_4
 have h3_5 := (T.rest 3 (by kernel_rfl)).trans h3_4
 have h4_5 := (T.rest 4 (by kernel_rfl)).trans h4_4
 have h6_5 := (T.rest 6 (by kernel_rfl)).trans h6_4
 have h7_5 := (T.rest 7 (by kernel_rfl)).trans h7_4
 have h8_5 := (T.rest 8 (by kernel_rfl)).trans h8_4
 have kg3_1_5 := (T.below.block _ lg3_1_4).trans kg3_1_4
 have lg3_1_5 := Nat.lt_of_lt_of_le lg3_1_4 T.below.size
 have kg4_1_5 := (T.below.block _ lg4_1_4).trans kg4_1_4
 have lg4_1_5 := Nat.lt_of_lt_of_le lg4_1_4 T.below.size
 have kg6_1_5 := (T.below.block _ lg6_1_4).trans kg6_1_4
 have lg6_1_5 := Nat.lt_of_lt_of_le lg6_1_4 T.below.size
 have kg7_2_5 := (T.below.block _ lg7_2_4).trans kg7_2_4
 have lg7_2_5 := Nat.lt_of_lt_of_le lg7_2_4 T.below.size
 have Fpp_5 := Eng.Reads.below Fpp_4 T.below
 have Fbb_5 := Eng.Reads.below Fbb_4 T.below
 have h17_5 : act5.eval (.tmp 17) = .bool q17 := T.done 4 17 rfl rfl
 have d5 := T.defers.trans d4
 have s5 := T.size.trans s4
 have bl5 := bl4.trans (T.below.mono bl4.size)
 clear T
 refine Eng.tail_nil ?_
 refine wp_cond_split h17_5 (fun hq => ?_) (fun hq => ?_)
 ·
  have c17 := Bq17.symm.trans hq
  clear hq
  have c17 := of_decide_eq_true c17
  have hk0 : k < ps.length := by omega
  have Fin0 := hin k hk0
  have hmi := Eng.Reads.len_le Fin0
  have Finn7 := Eng.Reads.below Fin0 bl5
  have hkb : k < bs.length := by omega
  refine wp_skip ?_
  refine wp_seq ?_
  refine wp_block ?_
  refine wp_seq ?_
  refine Eng.regionS (Eng.still [fun u_ => u_ = .int .i64 0]) (fun _ => .plain) 1 0 74 s5 rfl (by kernel_rfl) (Eng.still_stable _) (Or.inr (Eng.still_any _)) ?_ ?_
  ·refine Eng.Steps.cons (fun _ => ?_) (Eng.Steps.nil)
   ·refine Eng.plain rfl rfl fun a w' H => ?_
    exact Eng.val (w1 := w') (v := .int .i64 0) (Eng.run_assign rfl (rfl : a.eval (.const (.int .i64 0)) = .int .i64 0)) (Below.refl _ _) rfl
  intro act8 w8 T
  have h0_8 := (T.rest 0 (by kernel_rfl)).trans h0_5
  have h1_8 := (T.rest 1 (by kernel_rfl)).trans h1_5
  have h2_8 := (T.rest 2 (by kernel_rfl)).trans h2_5
  have h3_8 := (T.rest 3 (by kernel_rfl)).trans h3_5
  have h4_8 := (T.rest 4 (by kernel_rfl)).trans h4_5
  have h6_8 := (T.rest 6 (by kernel_rfl)).trans h6_5
  have h7_8 := (T.rest 7 (by kernel_rfl)).trans h7_5
  have h8_8 := (T.rest 8 (by kernel_rfl)).trans h8_5
  have h17_8 := (T.rest 17 (by kernel_rfl)).trans h17_5
  have kg3_1_8 := (T.below.block _ lg3_1_5).trans kg3_1_5
  have lg3_1_8 := Nat.lt_of_lt_of_le lg3_1_5 T.below.size
  have kg4_1_8 := (T.below.block _ lg4_1_5).trans kg4_1_5
  have lg4_1_8 := Nat.lt_of_lt_of_le lg4_1_5 T.below.size
  have kg6_1_8 := (T.below.block _ lg6_1_5).trans kg6_1_5
  have lg6_1_8 := Nat.lt_of_lt_of_le lg6_1_5 T.below.size
  have kg7_2_8 := (T.below.block _ lg7_2_5).trans kg7_2_5
  have lg7_2_8 := Nat.lt_of_lt_of_le lg7_2_5 T.below.size
  have h9_8 : act8.eval (.tmp 9) = .int .i64 0 := T.done 0 9 rfl rfl
  have d8 := T.defers.trans d5
  have s8 := T.size.trans s5
  have bl8 := bl5.trans (T.below.mono bl5.size)
  clear T
  refine Eng.tail_nil ?_
  refine wp_block ?_
  refine Eng.loopN (fun n a w' => ∃ (j : Nat), (ps.getD k []).length - j = n ∧ (j ≤ (ps.getD k []).length) ∧ a.defers = [] ∧ a.tmps.size = 74 ∧ Below w.heap.size w w' ∧ a.eval (.tmp 0) = .agg #[pv, bv, .int .i64 many] ∧ a.eval (.tmp 1) = .agg ((List.map (Value.int .u64) s).toArray) ∧ a.eval (.tmp 2) = .string step ∧ a.eval (.tmp 3) = .pointer (some ⟨g3_1, 0, none⟩) ∧ a.eval (.tmp 4) = .pointer (some ⟨g4_1, 0, none⟩) ∧ a.eval (.tmp 6) = .pointer (some ⟨g6_1, 0, none⟩) ∧ a.eval (.tmp 7) = .pointer (some ⟨g7_2, 0, none⟩) ∧ a.eval (.tmp 8) = .int .i64 (k : Nat) ∧ a.eval (.tmp 9) = .int .i64 (j : Nat) ∧ a.eval (.tmp 17) = .bool q17 ∧ w'.heap[g3_1]? = some (.cells (#[pv, bv, .int .i64 many]) 71 (0, 0)) ∧ g3_1 < w'.heap.size ∧ w'.heap[g4_1]? = some (.cells ((List.map (Value.int .u64) s).toArray) 61 (0, 0)) ∧ g4_1 < w'.heap.size ∧ w'.heap[g6_1]? = some (.cells ((List.map (Value.int .u64) (List.replicate 8 0)).toArray) 61 (0, 0)) ∧ g6_1 < w'.heap.size ∧ w'.heap[g7_2]? = some (.cells ((List.map (Value.int .u64) (Nfa.stepF s step (Nfa.itemsTo ps bs k j))).toArray) 61 (0, 0)) ∧ g7_2 < w'.heap.size) (n0 := (ps.getD k []).length - 0) ?_ ?_
  ·exact ⟨0, rfl, by omega, d8, s8, bl8, h0_8, h1_8, h2_8, h3_8, h4_8, h6_8, h7_8, h8_8, (h9_8.trans (by first | rfl | (congr 1; rw [Eng.i64_id (by omega) (by omega)]; omega) | (simp; done))), h17_8, kg3_1_8, lg3_1_8, kg4_1_8, lg4_1_8, kg6_1_8, lg6_1_8, (kg7_2_8.trans (by first | rfl | (rw [Nfa.step_at hkb, if_pos hx1]; done) | (rw [Nfa.step_at hkb, if_neg (by rw [hx1]; simp), if_pos c50]; done) | (rw [Nfa.step_at hkb, if_neg (by rw [hx1]; simp), if_neg (by rw [c50]; simp), if_pos c57]; done) | (rw [Nfa.step_at hkb, if_neg (by rw [hx1]; simp), if_neg (by rw [c50]; simp), if_neg (by rw [c57]; simp)]; done))), lg7_2_8⟩
  rintro n act9 w9 ⟨j, rfl, hc0_9, d9, s9, bl9, h0_9, h1_9, h2_9, h3_9, h4_9, h6_9, h7_9, h8_9, h9_9, h17_9, kg3_1_9, lg3_1_9, kg4_1_9, lg4_1_9, kg6_1_9, lg6_1_9, kg7_2_9, lg7_2_9⟩
  have Fpp_9 := Eng.Reads.below hp bl9
  have Fbb_9 := Eng.Reads.below hb bl9
  have Finn_9 := Eng.Reads.below Fin0 bl9
  have hj1 := hc0_9
  refine wp_seq ?_
  refine wp_seq ?_
  obtain ⟨q27, Bq27⟩ : ∃ b : Bool, b = (decide ((j : Nat) < (((ps.getD k []).length : Nat) : Int))) := ⟨_, rfl⟩
  refine Eng.regionS (Eng.still [fun u_ => u_ = .int .i64 (j : Nat), fun u_ => u_ = .pointer (some ⟨g3_1, 0, none⟩), fun u_ => u_ = pv, fun u_ => u_ = .int .i64 (k : Nat), fun u_ => u_ = Eng.elemPtr pv (k * 1), fun u_ => u_ = (vs.getD k undef), fun u_ => u_ = .int .i64 (((ps.getD k []).length : Nat) : Int), fun u_ => u_ = .bool q27]) (fun _ => .plain) 8 0 74 s9 rfl (by kernel_rfl) (Eng.still_stable _) (Or.inr (Eng.still_any _)) ?_ ?_
  ·refine Eng.Steps.cons (fun _ => ?_) (Eng.Steps.cons (fun _ => ?_) (Eng.Steps.cons (fun _ => ?_) (Eng.Steps.cons (fun _ => ?_) (Eng.Steps.cons (fun _ => ?_) (Eng.Steps.cons (fun _ => ?_) (Eng.Steps.cons (fun _ => ?_) (Eng.Steps.cons (fun _ => ?_) (Eng.Steps.nil))))))))
   ·refine Eng.plain rfl rfl fun a w' H => ?_
    exact Eng.val (w1 := w') (v := .int .i64 (j : Nat)) (Eng.run_move rfl ((H.kept 9 (by kernel_rfl)).trans h9_9)) (Below.refl _ _) rfl
   ·refine Eng.plain rfl rfl fun a w' H => ?_
    refine Eng.val (w1 := w') (v := .pointer (some ⟨g3_1, 0, none⟩)) ?_ (Below.refl _ _) rfl
    have e0 := ((H.kept 3 (by kernel_rfl)).trans h3_9)
    simp only [execOp, resolve, e0]
    go_simp
   ·refine Eng.plain rfl rfl fun a w' H => ?_
    have kb := (H.below.block _ lg3_1_9).trans kg3_1_9
    have z0 : w'.cell? ⟨g3_1, 0, none⟩ = some (pv) := (Eng.cells kb 0).trans rfl
    refine Eng.val (w1 := w') (v := pv) ?_ (Below.refl _ _) rfl
    have e0 : a.eval (.tmp 21) = .pointer (some ⟨g3_1, 0, none⟩) := (H.dep 1 21 (by kernel_rfl) rfl)
    simp only [execOp, resolve, e0]
    go_simp
   ·refine Eng.plain rfl rfl fun a w' H => ?_
    exact Eng.val (w1 := w') (v := .int .i64 (k : Nat)) (Eng.run_move rfl ((H.kept 8 (by kernel_rfl)).trans h8_9)) (Below.refl _ _) rfl
   ·refine Eng.plain rfl rfl fun a w' H => ?_
    refine Eng.val (w1 := w') (v := Eng.elemPtr pv (k * 1)) ?_ (Below.refl _ _) rfl
    exact Eng.run_index_sl rfl Tryd.underlying59 (by kernel_rfl) (show a.eval (.tmp 22) = pv from (H.dep 2 22 (by kernel_rfl) rfl)) ((show a.eval (.tmp 23) = .int .i64 (k : Nat) from (H.dep 3 23 (by kernel_rfl) rfl)).trans (congrArg (Value.int _) (show (k : Nat) = ((k : Nat) : Int) from by omega))) (Eng.Reads.below Fpp_9 H.below) (by omega) rfl
   ·refine Eng.plain rfl rfl fun a w' H => ?_
    refine Eng.val (w1 := w') (v := (vs.getD k undef)) ?_ (Below.refl _ _) rfl
    exact Eng.run_load_el ((vs.getD k undef)) rfl (show a.eval (.tmp 24) = Eng.elemPtr pv (k * 1) from (H.dep 4 24 (by kernel_rfl) rfl)) (Eng.Reads.below Fpp_9 H.below) (Nfa.at_one vs hvl (by omega)) (by kernel_rfl)
   ·refine Eng.plain rfl rfl fun a w' H => ?_
    refine Eng.val (w1 := w') (v := .int .i64 (((ps.getD k []).length : Nat) : Int)) ?_ (Below.refl _ _) rfl
    exact Eng.run_len_sl rfl Tryd.underlying118 (show a.eval (.tmp 25) = (vs.getD k undef) from (H.dep 5 25 (by kernel_rfl) rfl)) (Eng.Reads.below Finn_9 H.below)
   ·refine Eng.plain rfl rfl fun a w' H => ?_
    refine Eng.val (w1 := w') (v := .bool (decide ((j : Nat) < (((ps.getD k []).length : Nat) : Int)))) ?_ (Below.refl _ _) (by show _ = Value.bool q27; rw [Bq27])
    have e0 : a.eval (.tmp 20) = .int .i64 (j : Nat) := (H.dep 0 20 (by kernel_rfl) rfl)
    have e1 : a.eval (.tmp 26) = .int .i64 (((ps.getD k []).length : Nat) : Int) := (H.dep 6 26 (by kernel_rfl) rfl)
    simp only [execOp, resolve, e0, e1]
    go_simp
  intro act10 w10 T
  have h0_10 := (T.rest 0 (by kernel_rfl)).trans h0_9
  have h1_10 := (T.rest 1 (by kernel_rfl)).trans h1_9
  have h2_10 := (T.rest 2 (by kernel_rfl)).trans h2_9
  have h3_10 := (T.rest 3 (by kernel_rfl)).trans h3_9
  have h4_10 := (T.rest 4 (by kernel_rfl)).trans h4_9
  have h6_10 := (T.rest 6 (by kernel_rfl)).trans h6_9
  have h7_10 := (T.rest 7 (by kernel_rfl)).trans h7_9
  have h8_10 := (T.rest 8 (by kernel_rfl)).trans h8_9
  have h9_10 := (T.rest 9 (by kernel_rfl)).trans h9_9
  have h17_10 := (T.rest 17 (by kernel_rfl)).trans h17_9
  have kg3_1_10 := (T.below.block _ lg3_1_9).trans kg3_1_9
  have lg3_1_10 := Nat.lt_of_lt_of_le lg3_1_9 T.below.size
  have kg4_1_10 := (T.below.block _ lg4_1_9).trans kg4_1_9
  have lg4_1_10 := Nat.lt_of_lt_of_le lg4_1_9 T.below.size
  have kg6_1_10 := (T.below.block _ lg6_1_9).trans kg6_1_9
  have lg6_1_10 := Nat.lt_of_lt_of_le lg6_1_9 T.below.size
  have kg7_2_10 := (T.below.block _ lg7_2_9).trans kg7_2_9
  have lg7_2_10 := Nat.lt_of_lt_of_le lg7_2_9 T.below.size
  have Fpp_10 := Eng.Reads.below Fpp_9 T.below
  have Fbb_10 := Eng.Reads.below Fbb_9 T.below
  have Finn_10 := Eng.Reads.below Finn_9 T.below
  have h27_10 : act10.eval (.tmp 27) = .bool q27 := T.done 7 27 rfl rfl
  have d10 := T.defers.trans d9
  have s10 := T.size.trans s9
  have bl10 := bl9.trans (T.below.mono bl9.size)
  clear T
  refine Eng.tail_nil ?_
  refine wp_cond_split h27_10 (fun hq => ?_) (fun hq => ?_)
  ·
   have c27 := Bq27.symm.trans hq
   clear hq
   have c27 := of_decide_eq_true c27
   have hj0 : j < (ps.getD k []).length := by omega
   refine wp_skip ?_
   refine wp_seq ?_
   refine wp_block ?_
   refine wp_seq ?_
   refine Eng.regionS (Eng.still [fun u_ => u_ = .pointer (some ⟨g3_1, 0, none⟩), fun u_ => u_ = pv, fun u_ => u_ = .int .i64 (k : Nat), fun u_ => u_ = Eng.elemPtr pv (k * 1), fun u_ => u_ = (vs.getD k undef), fun u_ => u_ = .int .i64 (j : Nat), fun u_ => u_ = Eng.elemPtr (vs.getD k undef) (j * 2), fun u_ => u_ = .agg #[.int .i64 (((ps.getD k []).getD j default).1), .string (((ps.getD k []).getD j default).2)], fun u_ => True, fun u_ => True]) (fun i => ([.plain, .plain, .plain, .plain, .plain, .plain, .plain, .plain, .alloc 157 #[.int .i64 0, .string ⟨#[]⟩], .store 8 #[.int .i64 (((ps.getD k []).getD j default).1), .string (((ps.getD k []).getD j default).2)]] : List Eng.Kind).getD i .plain) 10 0 74 s10 rfl (by kernel_rfl) (Eng.still_stable _) (Or.inr (Eng.still_any _)) ?_ ?_
   ·refine Eng.Steps.cons (fun _ => ?_) (Eng.Steps.cons (fun _ => ?_) (Eng.Steps.cons (fun _ => ?_) (Eng.Steps.cons (fun _ => ?_) (Eng.Steps.cons (fun _ => ?_) (Eng.Steps.cons (fun _ => ?_) (Eng.Steps.cons (fun _ => ?_) (Eng.Steps.cons (fun _ => ?_) (Eng.Steps.cons (fun _ => ?_) (Eng.Steps.cons (fun _ => ?_) (Eng.Steps.nil))))))))))
    ·refine Eng.plain rfl rfl fun a w' H => ?_
     refine Eng.val (w1 := w') (v := .pointer (some ⟨g3_1, 0, none⟩)) ?_ (Below.refl _ _) rfl
     have e0 := ((H.kept 3 (by kernel_rfl)).trans h3_10)
     simp only [execOp, resolve, e0]
     go_simp
    ·refine Eng.plain rfl rfl fun a w' H => ?_
     have kb := (H.below.block _ lg3_1_10).trans kg3_1_10
     have z0 : w'.cell? ⟨g3_1, 0, none⟩ = some (pv) := (Eng.cells kb 0).trans rfl
     refine Eng.val (w1 := w') (v := pv) ?_ (Below.refl _ _) rfl
     have e0 : a.eval (.tmp 30) = .pointer (some ⟨g3_1, 0, none⟩) := (H.dep 0 30 (by kernel_rfl) rfl)
     simp only [execOp, resolve, e0]
     go_simp
    ·refine Eng.plain rfl rfl fun a w' H => ?_
     exact Eng.val (w1 := w') (v := .int .i64 (k : Nat)) (Eng.run_move rfl ((H.kept 8 (by kernel_rfl)).trans h8_10)) (Below.refl _ _) rfl
    ·refine Eng.plain rfl rfl fun a w' H => ?_
     refine Eng.val (w1 := w') (v := Eng.elemPtr pv (k * 1)) ?_ (Below.refl _ _) rfl
     exact Eng.run_index_sl rfl Tryd.underlying59 (by kernel_rfl) (show a.eval (.tmp 31) = pv from (H.dep 1 31 (by kernel_rfl) rfl)) ((show a.eval (.tmp 32) = .int .i64 (k : Nat) from (H.dep 2 32 (by kernel_rfl) rfl)).trans (congrArg (Value.int _) (show (k : Nat) = ((k : Nat) : Int) from by omega))) (Eng.Reads.below Fpp_10 H.below) (by omega) rfl
    ·refine Eng.plain rfl rfl fun a w' H => ?_
     refine Eng.val (w1 := w') (v := (vs.getD k undef)) ?_ (Below.refl _ _) rfl
     exact Eng.run_load_el ((vs.getD k undef)) rfl (show a.eval (.tmp 33) = Eng.elemPtr pv (k * 1) from (H.dep 3 33 (by kernel_rfl) rfl)) (Eng.Reads.below Fpp_10 H.below) (Nfa.at_one vs hvl (by omega)) (by kernel_rfl)
    ·refine Eng.plain rfl rfl fun a w' H => ?_
     exact Eng.val (w1 := w') (v := .int .i64 (j : Nat)) (Eng.run_move rfl ((H.kept 9 (by kernel_rfl)).trans h9_10)) (Below.refl _ _) rfl
    ·refine Eng.plain rfl rfl fun a w' H => ?_
     refine Eng.val (w1 := w') (v := Eng.elemPtr (vs.getD k undef) (j * 2)) ?_ (Below.refl _ _) rfl
     exact Eng.run_index_sl rfl Tryd.underlying118 (by kernel_rfl) (show a.eval (.tmp 34) = (vs.getD k undef) from (H.dep 4 34 (by kernel_rfl) rfl)) ((show a.eval (.tmp 35) = .int .i64 (j : Nat) from (H.dep 5 35 (by kernel_rfl) rfl)).trans (congrArg (Value.int _) (show (j : Nat) = ((j : Nat) : Int) from by omega))) (Eng.Reads.below Finn_10 H.below) (by omega) rfl
    ·refine Eng.plain rfl rfl fun a w' H => ?_
     refine Eng.val (w1 := w') (v := .agg #[.int .i64 (((ps.getD k []).getD j default).1), .string (((ps.getD k []).getD j default).2)]) ?_ (Below.refl _ _) rfl
     exact Eng.run_load_els [.int .i64 (((ps.getD k []).getD j default).1), .string (((ps.getD k []).getD j default).2)] rfl (show a.eval (.tmp 36) = Eng.elemPtr (vs.getD k undef) (j * 2) from (H.dep 6 36 (by kernel_rfl) rfl)) (Eng.Reads.below Finn_10 H.below) (Pth.cells_at (ps.getD k []) j (by omega)) rfl Tryd.underlying157 rfl (by kernel_rfl)
    ·refine Eng.made rfl (by simp) rfl (fun a w' hd ho => ?_) (fun _ _ => trivial)
     simp only [execOp]
     go_simp
    ·refine Eng.stored [.int .i64 (((ps.getD k []).getD j default).1), .string (((ps.getD k []).getD j default).2)] rfl rfl rfl (j := 8) (d := 10) (by kernel_rfl) rfl rfl (Eng.store_uniq (by kernel_rfl)) rfl rfl fun a w' g e hc hd ho => ?_
     have e0 : a.eval _ = .agg #[.int .i64 (((ps.getD k []).getD j default).1), .string (((ps.getD k []).getD j default).2)] := (hd 7 37 (by kernel_rfl) rfl)
     have z0 := (Eng.cells hc 0).trans rfl
     have z1 := (Eng.cells hc 1).trans rfl
     have f0 := Eng.unfrozen hc 0
     have f1 := Eng.unfrozen hc 1
     simp only [execOp, e, e0]
     go_simp
     rfl
   intro act12 w12 T
   have h0_12 := (T.rest 0 (by kernel_rfl)).trans h0_10
   have h1_12 := (T.rest 1 (by kernel_rfl)).trans h1_10
   have h2_12 := (T.rest 2 (by kernel_rfl)).trans h2_10
   have h3_12 := (T.rest 3 (by kernel_rfl)).trans h3_10
   have h4_12 := (T.rest 4 (by kernel_rfl)).trans h4_10
   have h6_12 := (T.rest 6 (by kernel_rfl)).trans h6_10
   have h7_12 := (T.rest 7 (by kernel_rfl)).trans h7_10
   have h8_12 := (T.rest 8 (by kernel_rfl)).trans h8_10
   have h9_12 := (T.rest 9 (by kernel_rfl)).trans h9_10
   have h17_12 := (T.rest 17 (by kernel_rfl)).trans h17_10
   have kg3_1_12 := (T.below.block _ lg3_1_10).trans kg3_1_10
   have lg3_1_12 := Nat.lt_of_lt_of_le lg3_1_10 T.below.size
   have kg4_1_12 := (T.below.block _ lg4_1_10).trans kg4_1_10
   have lg4_1_12 := Nat.lt_of_lt_of_le lg4_1_10 T.below.size
   have kg6_1_12 := (T.below.block _ lg6_1_10).trans kg6_1_10
   have lg6_1_12 := Nat.lt_of_lt_of_le lg6_1_10 T.below.size
   have kg7_2_12 := (T.below.block _ lg7_2_10).trans kg7_2_10
   have lg7_2_12 := Nat.lt_of_lt_of_le lg7_2_10 T.below.size
   have Fbb_12 := Eng.Reads.below Fbb_10 T.below
   obtain ⟨g10_12, h10_12, rg10_12, lg10_12_12, kg10_12_12⟩ := T.st 8 10 9 _ _ _ rfl rfl rfl rfl rfl
   have d12 := T.defers.trans d10
   have s12 := T.size.trans s10
   have bl12 := bl10.trans (T.below.mono bl10.size)
   clear T
   refine Eng.tail_nil ?_
   refine wp_seq ?_
   refine Eng.regionS (Eng.still [fun u_ => u_ = .pointer (some ⟨g3_1, 1, none⟩), fun u_ => u_ = bv, fun u_ => u_ = .int .i64 (k : Nat), fun u_ => u_ = Eng.elemPtr bv (k * 1), fun u_ => u_ = .int .i64 (bs.getD k 0), fun u_ => u_ = .int .i64 (j : Nat), fun u_ => u_ = .int .i64 (IntKind.i64.wrap ((bs.getD k 0) + (j : Nat))), fun u_ => u_ = .int .i64 (IntKind.i64.wrap ((bs.getD k 0) + (j : Nat)))]) (fun _ => .plain) 8 0 74 s12 rfl (by kernel_rfl) (Eng.still_stable _) (Or.inr (Eng.still_any _)) ?_ ?_
   ·refine Eng.Steps.cons (fun _ => ?_) (Eng.Steps.cons (fun _ => ?_) (Eng.Steps.cons (fun _ => ?_) (Eng.Steps.cons (fun _ => ?_) (Eng.Steps.cons (fun _ => ?_) (Eng.Steps.cons (fun _ => ?_) (Eng.Steps.cons (fun _ => ?_) (Eng.Steps.cons (fun _ => ?_) (Eng.Steps.nil))))))))
    ·refine Eng.plain rfl rfl fun a w' H => ?_
     refine Eng.val (w1 := w') (v := .pointer (some ⟨g3_1, 1, none⟩)) ?_ (Below.refl _ _) rfl
     have e0 := ((H.kept 3 (by kernel_rfl)).trans h3_12)
     simp only [execOp, resolve, e0]
     go_simp
    ·refine Eng.plain rfl rfl fun a w' H => ?_
     have kb := (H.below.block _ lg3_1_12).trans kg3_1_12
     have z0 : w'.cell? ⟨g3_1, 1, none⟩ = some (bv) := (Eng.cells kb 1).trans rfl
     refine Eng.val (w1 := w') (v := bv) ?_ (Below.refl _ _) rfl
     have e0 : a.eval (.tmp 38) = .pointer (some ⟨g3_1, 1, none⟩) := (H.dep 0 38 (by kernel_rfl) rfl)
     simp only [execOp, resolve, e0]
     go_simp
    ·refine Eng.plain rfl rfl fun a w' H => ?_
     exact Eng.val (w1 := w') (v := .int .i64 (k : Nat)) (Eng.run_move rfl ((H.kept 8 (by kernel_rfl)).trans h8_12)) (Below.refl _ _) rfl
    ·refine Eng.plain rfl rfl fun a w' H => ?_
     refine Eng.val (w1 := w') (v := Eng.elemPtr bv (k * 1)) ?_ (Below.refl _ _) rfl
     exact Eng.run_index_sl rfl Tryd.underlying63 (by kernel_rfl) (show a.eval (.tmp 39) = bv from (H.dep 1 39 (by kernel_rfl) rfl)) ((show a.eval (.tmp 40) = .int .i64 (k : Nat) from (H.dep 2 40 (by kernel_rfl) rfl)).trans (congrArg (Value.int _) (show (k : Nat) = ((k : Nat) : Int) from by omega))) (Eng.Reads.below Fbb_12 H.below) (by omega) rfl
    ·refine Eng.plain rfl rfl fun a w' H => ?_
     refine Eng.val (w1 := w') (v := .int .i64 (bs.getD k 0)) ?_ (Below.refl _ _) rfl
     exact Eng.run_load_el (.int .i64 (bs.getD k 0)) rfl (show a.eval (.tmp 41) = Eng.elemPtr bv (k * 1) from (H.dep 3 41 (by kernel_rfl) rfl)) (Eng.Reads.below Fbb_12 H.below) (Nfa.ints_at bs k (by omega)) (by kernel_rfl)
    ·refine Eng.plain rfl rfl fun a w' H => ?_
     exact Eng.val (w1 := w') (v := .int .i64 (j : Nat)) (Eng.run_move rfl ((H.kept 9 (by kernel_rfl)).trans h9_12)) (Below.refl _ _) rfl
    ·refine Eng.plain rfl rfl fun a w' H => ?_
     refine Eng.val (w1 := w') (v := .int .i64 (IntKind.i64.wrap ((bs.getD k 0) + (j : Nat)))) ?_ (Below.refl _ _) rfl
     have e0 : a.eval (.tmp 42) = .int .i64 (bs.getD k 0) := (H.dep 4 42 (by kernel_rfl) rfl)
     have e1 : a.eval (.tmp 43) = .int .i64 (j : Nat) := (H.dep 5 43 (by kernel_rfl) rfl)
     simp only [execOp, resolve, e0, e1]
     go_simp
    ·refine Eng.plain rfl rfl fun a w' H => ?_
     exact Eng.val (w1 := w') (v := .int .i64 (IntKind.i64.wrap ((bs.getD k 0) + (j : Nat)))) (Eng.run_assign rfl (H.dep 6 44 (by kernel_rfl) rfl)) (Below.refl _ _) rfl
   intro act13 w13 T
   have h0_13 := (T.rest 0 (by kernel_rfl)).trans h0_12
   have h1_13 := (T.rest 1 (by kernel_rfl)).trans h1_12
   have h2_13 := (T.rest 2 (by kernel_rfl)).trans h2_12
   have h3_13 := (T.rest 3 (by kernel_rfl)).trans h3_12
   have h4_13 := (T.rest 4 (by kernel_rfl)).trans h4_12
   have h6_13 := (T.rest 6 (by kernel_rfl)).trans h6_12
   have h7_13 := (T.rest 7 (by kernel_rfl)).trans h7_12
   have h8_13 := (T.rest 8 (by kernel_rfl)).trans h8_12
   have h9_13 := (T.rest 9 (by kernel_rfl)).trans h9_12
   have h10_13 := (T.rest 10 (by kernel_rfl)).trans h10_12
   have h17_13 := (T.rest 17 (by kernel_rfl)).trans h17_12
   have kg3_1_13 := (T.below.block _ lg3_1_12).trans kg3_1_12
   have lg3_1_13 := Nat.lt_of_lt_of_le lg3_1_12 T.below.size
   have kg4_1_13 := (T.below.block _ lg4_1_12).trans kg4_1_12
   have lg4_1_13 := Nat.lt_of_lt_of_le lg4_1_12 T.below.size
   have kg6_1_13 := (T.below.block _ lg6_1_12).trans kg6_1_12
   have lg6_1_13 := Nat.lt_of_lt_of_le lg6_1_12 T.below.size
   have kg7_2_13 := (T.below.block _ lg7_2_12).trans kg7_2_12
   have lg7_2_13 := Nat.lt_of_lt_of_le lg7_2_12 T.below.size
   have kg10_12_13 := (T.below.block _ lg10_12_12).trans kg10_12_12
   have lg10_12_13 := Nat.lt_of_lt_of_le lg10_12_12 T.below.size
   have h11_13 : act13.eval (.tmp 11) = .int .i64 (IntKind.i64.wrap ((bs.getD k 0) + (j : Nat))) := T.done 7 11 rfl rfl
   have d13 := T.defers.trans d12
   have s13 := T.size.trans s12
   have bl13 := bl12.trans (T.below.mono bl12.size)
   clear T
   refine Eng.tail_nil ?_
   refine wp_block ?_
   refine wp_seq ?_
   obtain ⟨q48, Bq48⟩ : ∃ b : Bool, b = (Nfa.has s (IntKind.i64.wrap ((bs.getD k 0) + (j : Nat)))) := ⟨_, rfl⟩
   obtain ⟨q49, Bq49⟩ : ∃ b : Bool, b = (!q48) := ⟨_, rfl⟩
   refine Eng.regionS (Eng.still [fun u_ => u_ = .agg ((List.map (Value.int .u64) s).toArray), fun u_ => u_ = .int .i64 (IntKind.i64.wrap ((bs.getD k 0) + (j : Nat))), fun u_ => u_ = .bool q48, fun u_ => u_ = .bool q49, fun u_ => u_ = .bool q49]) (fun _ => .plain) 5 0 74 s13 rfl (by kernel_rfl) (Eng.still_stable _) (Or.inr (Eng.still_any _)) ?_ ?_
   ·refine Eng.Steps.cons (fun _ => ?_) (Eng.Steps.cons (fun _ => ?_) (Eng.Steps.cons (fun _ => ?_) (Eng.Steps.cons (fun _ => ?_) (Eng.Steps.cons (fun _ => ?_) (Eng.Steps.nil)))))
    ·refine Eng.plain rfl rfl fun a w' H => ?_
     have kb := (H.below.block _ lg4_1_13).trans kg4_1_13
     refine Eng.val (w1 := w') (v := .agg ((List.map (Value.int .u64) s).toArray)) ?_ (Below.refl _ _) rfl
     exact Eng.run_load_all rfl ((H.kept 4 (by kernel_rfl)).trans h4_13) kb Tryd.underlying61 rfl (by rw [Nfa.cells_size ((hg).len)]; kernel_rfl)
    ·refine Eng.plain rfl rfl fun a w' H => ?_
     exact Eng.val (w1 := w') (v := .int .i64 (IntKind.i64.wrap ((bs.getD k 0) + (j : Nat)))) (Eng.run_move rfl ((H.kept 11 (by kernel_rfl)).trans h11_13)) (Below.refl _ _) rfl
    ·refine Eng.plain rfl rfl fun a w' H => ?_
     refine Eng.call Tryd.func115 (by kernel_rfl) (by kernel_rfl) rfl #[.agg ((List.map (Value.int .u64) s).toArray), .int .i64 (IntKind.i64.wrap ((bs.getD k 0) + (j : Nat)))] ?_ ?_
     ·have e0 : a.eval (.tmp 46) = .agg ((List.map (Value.int .u64) s).toArray) := (H.dep 0 46 (by kernel_rfl) rfl); have e1 : a.eval (.tmp 47) = .int .i64 (IntKind.i64.wrap ((bs.getD k 0) + (j : Nat))) := (H.dep 1 47 (by kernel_rfl) rfl); simp only [List.map_toArray, List.map_cons, List.map_nil, e0, e1]
     refine (Nfa.rhas_calls s (IntKind.i64.wrap ((bs.getD k 0) + (j : Nat))) _ (hg)).mono ?_
     rintro e w'' ⟨rfl, hb⟩
     exact ⟨_, rfl, (by show _ = Value.bool q48; rw [Bq48]), hb⟩
    ·refine Eng.plain rfl rfl fun a w' H => ?_
     exact Eng.val (w1 := w') (v := .bool (!q48)) (Eng.run_not rfl (H.dep 2 48 (by kernel_rfl) rfl)) (Below.refl _ _) (by show _ = Value.bool q49; rw [Bq49])
    ·refine Eng.plain rfl rfl fun a w' H => ?_
     exact Eng.val (w1 := w') (v := .bool q49) (Eng.run_assign rfl (H.dep 3 49 (by kernel_rfl) rfl)) (Below.refl _ _) rfl
   intro act14 w14 T
   have h0_14 := (T.rest 0 (by kernel_rfl)).trans h0_13
   have h1_14 := (T.rest 1 (by kernel_rfl)).trans h1_13
   have h2_14 := (T.rest 2 (by kernel_rfl)).trans h2_13
   have h3_14 := (T.rest 3 (by kernel_rfl)).trans h3_13
   have h4_14 := (T.rest 4 (by kernel_rfl)).trans h4_13
   have h6_14 := (T.rest 6 (by kernel_rfl)).trans h6_13
   have h7_14 := (T.rest 7 (by kernel_rfl)).trans h7_13
   have h8_14 := (T.rest 8 (by kernel_rfl)).trans h8_13
   have h9_14 := (T.rest 9 (by kernel_rfl)).trans h9_13
   have h10_14 := (T.rest 10 (by kernel_rfl)).trans h10_13
   have h11_14 := (T.rest 11 (by kernel_rfl)).trans h11_13
   have h17_14 := (T.rest 17 (by kernel_rfl)).trans h17_13
   have kg3_1_14 := (T.below.block _ lg3_1_13).trans kg3_1_13
   have lg3_1_14 := Nat.lt_of_lt_of_le lg3_1_13 T.below.size
   have kg4_1_14 := (T.below.block _ lg4_1_13).trans kg4_1_13
   have lg4_1_14 := Nat.lt_of_lt_of_le lg4_1_13 T.below.size
   have kg6_1_14 := (T.below.block _ lg6_1_13).trans kg6_1_13
   have lg6_1_14 := Nat.lt_of_lt_of_le lg6_1_13 T.below.size
   have kg7_2_14 := (T.below.block _ lg7_2_13).trans kg7_2_13
   have lg7_2_14 := Nat.lt_of_lt_of_le lg7_2_13 T.below.size
   have kg10_12_14 := (T.below.block _ lg10_12_13).trans kg10_12_13
   have lg10_12_14 := Nat.lt_of_lt_of_le lg10_12_13 T.below.size
   have h45_14 : act14.eval (.tmp 45) = .bool q49 := T.done 4 45 rfl rfl
   have d14 := T.defers.trans d13
   have s14 := T.size.trans s13
   have bl14 := bl13.trans (T.below.mono bl13.size)
   clear T
   refine Eng.tail_nil ?_
   refine wp_cond_split h45_14 (fun hq => ?_) (fun hq => ?_)
   ·
    have c45 := Bq49.symm.trans hq
    clear hq
    have hx1 := c45
    rw [Bq48] at hx1
    refine wp_skip ?_
    refine Eng.regionS (Eng.still [fun u_ => u_ = .int .i64 (j : Nat), fun u_ => u_ = .int .i64 (IntKind.i64.wrap ((j : Nat) + 1)), fun u_ => u_ = .int .i64 (IntKind.i64.wrap ((j : Nat) + 1))]) (fun _ => .plain) 3 0 74 s14 rfl (by kernel_rfl) (Eng.still_stable _) (Or.inr (Eng.still_any _)) ?_ ?_
    ·refine Eng.Steps.cons (fun _ => ?_) (Eng.Steps.cons (fun _ => ?_) (Eng.Steps.cons (fun _ => ?_) (Eng.Steps.nil)))
     ·refine Eng.plain rfl rfl fun a w' H => ?_
      exact Eng.val (w1 := w') (v := .int .i64 (j : Nat)) (Eng.run_move rfl ((H.kept 9 (by kernel_rfl)).trans h9_14)) (Below.refl _ _) rfl
     ·refine Eng.plain rfl rfl fun a w' H => ?_
      refine Eng.val (w1 := w') (v := .int .i64 (IntKind.i64.wrap ((j : Nat) + 1))) ?_ (Below.refl _ _) rfl
      have e0 : a.eval (.tmp 28) = .int .i64 (j : Nat) := (H.dep 0 28 (by kernel_rfl) rfl)
      have e1 : a.eval (.const (.int .i64 1)) = .int .i64 1 := (rfl : a.eval (.const (.int .i64 1)) = .int .i64 1)
      simp only [execOp, resolve, e0, e1]
      go_simp
     ·refine Eng.plain rfl rfl fun a w' H => ?_
      exact Eng.val (w1 := w') (v := .int .i64 (IntKind.i64.wrap ((j : Nat) + 1))) (Eng.run_assign rfl (H.dep 1 29 (by kernel_rfl) rfl)) (Below.refl _ _) rfl
    intro act16 w16 T
    have h0_16 := (T.rest 0 (by kernel_rfl)).trans h0_14
    have h1_16 := (T.rest 1 (by kernel_rfl)).trans h1_14
    have h2_16 := (T.rest 2 (by kernel_rfl)).trans h2_14
    have h3_16 := (T.rest 3 (by kernel_rfl)).trans h3_14
    have h4_16 := (T.rest 4 (by kernel_rfl)).trans h4_14
    have h6_16 := (T.rest 6 (by kernel_rfl)).trans h6_14
    have h7_16 := (T.rest 7 (by kernel_rfl)).trans h7_14
    have h8_16 := (T.rest 8 (by kernel_rfl)).trans h8_14
    have h17_16 := (T.rest 17 (by kernel_rfl)).trans h17_14
    have kg3_1_16 := (T.below.block _ lg3_1_14).trans kg3_1_14
    have lg3_1_16 := Nat.lt_of_lt_of_le lg3_1_14 T.below.size
    have kg4_1_16 := (T.below.block _ lg4_1_14).trans kg4_1_14
    have lg4_1_16 := Nat.lt_of_lt_of_le lg4_1_14 T.below.size
    have kg6_1_16 := (T.below.block _ lg6_1_14).trans kg6_1_14
    have lg6_1_16 := Nat.lt_of_lt_of_le lg6_1_14 T.below.size
    have kg7_2_16 := (T.below.block _ lg7_2_14).trans kg7_2_14
    have lg7_2_16 := Nat.lt_of_lt_of_le lg7_2_14 T.below.size
    have h9_16 : act16.eval (.tmp 9) = .int .i64 (IntKind.i64.wrap ((j : Nat) + 1)) := T.done 2 9 rfl rfl
    have d16 := T.defers.trans d14
    have s16 := T.size.trans s14
    have bl16 := bl14.trans (T.below.mono bl14.size)
    clear T
    refine Eng.tail_nil ?_
    exact ⟨_, by omega, j + 1, rfl, by omega, d16, s16, bl16, h0_16, h1_16, h2_16, h3_16, h4_16, h6_16, h7_16, h8_16, (h9_16.trans (by first | rfl | (congr 1; rw [Eng.i64_id (by omega) (by omega)]; omega) | (simp; done))), h17_16, kg3_1_16, lg3_1_16, kg4_1_16, lg4_1_16, kg6_1_16, lg6_1_16, (kg7_2_16.trans (by first | rfl | (rw [Nfa.step_at hkb, if_pos hx1]; done) | (rw [Nfa.step_at hkb, if_neg (by rw [hx1]; simp), if_pos c50]; done) | (rw [Nfa.step_at hkb, if_neg (by rw [hx1]; simp), if_neg (by rw [c50]; simp), if_pos c57]; done) | (rw [Nfa.step_at hkb, if_neg (by rw [hx1]; simp), if_neg (by rw [c50]; simp), if_neg (by rw [c57]; simp)]; done))), lg7_2_16⟩
   ·
    have c45 := Bq49.symm.trans hq
    clear hq
    have hx1 := c45
    rw [Bq48] at hx1
    refine wp_seq ?_
    obtain ⟨q53, Bq53⟩ : ∃ b : Bool, b = ((((ps.getD k []).getD j default).1) == 2) := ⟨_, rfl⟩
    refine Eng.regionS (Eng.still [fun u_ => u_ = .pointer (some ⟨g10_12, 0, none⟩), fun u_ => u_ = .int .i64 (((ps.getD k []).getD j default).1), fun u_ => u_ = .bool q53, fun u_ => u_ = .bool q53]) (fun _ => .plain) 4 0 74 s14 rfl (by kernel_rfl) (Eng.still_stable _) (Or.inr (Eng.still_any _)) ?_ ?_
    ·refine Eng.Steps.cons (fun _ => ?_) (Eng.Steps.cons (fun _ => ?_) (Eng.Steps.cons (fun _ => ?_) (Eng.Steps.cons (fun _ => ?_) (Eng.Steps.nil))))
     ·refine Eng.plain rfl rfl fun a w' H => ?_
      refine Eng.val (w1 := w') (v := .pointer (some ⟨g10_12, 0, none⟩)) ?_ (Below.refl _ _) rfl
      have e0 := ((H.kept 10 (by kernel_rfl)).trans h10_14)
      simp only [execOp, resolve, e0]
      go_simp
     ·refine Eng.plain rfl rfl fun a w' H => ?_
      have kb := (H.below.block _ lg10_12_14).trans kg10_12_14
      have z0 : w'.cell? ⟨g10_12, 0, none⟩ = some (.int .i64 (((ps.getD k []).getD j default).1)) := (Eng.cells kb 0).trans rfl
      refine Eng.val (w1 := w') (v := .int .i64 (((ps.getD k []).getD j default).1)) ?_ (Below.refl _ _) rfl
      have e0 : a.eval (.tmp 51) = .pointer (some ⟨g10_12, 0, none⟩) := (H.dep 0 51 (by kernel_rfl) rfl)
      simp only [execOp, resolve, e0]
      go_simp
     ·refine Eng.plain rfl rfl fun a w' H => ?_
      refine Eng.val (w1 := w') (v := .bool ((((ps.getD k []).getD j default).1) == 2)) ?_ (Below.refl _ _) (by show _ = Value.bool q53; rw [Bq53])
      have e0 : a.eval (.tmp 52) = .int .i64 (((ps.getD k []).getD j default).1) := (H.dep 1 52 (by kernel_rfl) rfl)
      have e1 : a.eval (.const (.int .i64 2)) = .int .i64 2 := (rfl : a.eval (.const (.int .i64 2)) = .int .i64 2)
      simp only [execOp, resolve, e0, e1]
      go_simp
     ·refine Eng.plain rfl rfl fun a w' H => ?_
      exact Eng.val (w1 := w') (v := .bool q53) (Eng.run_assign rfl (H.dep 2 53 (by kernel_rfl) rfl)) (Below.refl _ _) rfl
    intro act18 w18 T
    have h0_18 := (T.rest 0 (by kernel_rfl)).trans h0_14
    have h1_18 := (T.rest 1 (by kernel_rfl)).trans h1_14
    have h2_18 := (T.rest 2 (by kernel_rfl)).trans h2_14
    have h3_18 := (T.rest 3 (by kernel_rfl)).trans h3_14
    have h4_18 := (T.rest 4 (by kernel_rfl)).trans h4_14
    have h6_18 := (T.rest 6 (by kernel_rfl)).trans h6_14
    have h7_18 := (T.rest 7 (by kernel_rfl)).trans h7_14
    have h8_18 := (T.rest 8 (by kernel_rfl)).trans h8_14
    have h9_18 := (T.rest 9 (by kernel_rfl)).trans h9_14
    have h10_18 := (T.rest 10 (by kernel_rfl)).trans h10_14
    have h11_18 := (T.rest 11 (by kernel_rfl)).trans h11_14
    have h17_18 := (T.rest 17 (by kernel_rfl)).trans h17_14
    have kg3_1_18 := (T.below.block _ lg3_1_14).trans kg3_1_14
    have lg3_1_18 := Nat.lt_of_lt_of_le lg3_1_14 T.below.size
    have kg4_1_18 := (T.below.block _ lg4_1_14).trans kg4_1_14
    have lg4_1_18 := Nat.lt_of_lt_of_le lg4_1_14 T.below.size
    have kg6_1_18 := (T.below.block _ lg6_1_14).trans kg6_1_14
    have lg6_1_18 := Nat.lt_of_lt_of_le lg6_1_14 T.below.size
    have kg7_2_18 := (T.below.block _ lg7_2_14).trans kg7_2_14
    have lg7_2_18 := Nat.lt_of_lt_of_le lg7_2_14 T.below.size
    have kg10_12_18 := (T.below.block _ lg10_12_14).trans kg10_12_14
    have lg10_12_18 := Nat.lt_of_lt_of_le lg10_12_14 T.below.size
    have h50_18 : act18.eval (.tmp 50) = .bool q53 := T.done 3 50 rfl rfl
    have d18 := T.defers.trans d14
    have s18 := T.size.trans s14
    have bl18 := bl14.trans (T.below.mono bl14.size)
    clear T
    refine Eng.tail_nil ?_
    refine wp_cond_split h50_18 (fun hq => ?_) (fun hq => ?_)
    ·
     have c50 := Bq53.symm.trans hq
     clear hq
     refine Eng.regionS (Eng.still [fun u_ => u_ = .agg ((List.map (Value.int .u64) (Nfa.stepF s step (Nfa.itemsTo ps bs k j))).toArray), fun u_ => u_ = .int .i64 (IntKind.i64.wrap ((bs.getD k 0) + (j : Nat))), fun u_ => u_ = .agg ((List.map (Value.int .u64) (Nfa.put (Nfa.stepF s step (Nfa.itemsTo ps bs k j)) (IntKind.i64.wrap ((bs.getD k 0) + (j : Nat))))).toArray)]) (fun _ => .plain) 3 1 74 s18 rfl (by kernel_rfl) (Eng.still_stable _) (Or.inr (Eng.still_any _)) ?_ ?_
     ·refine Eng.Steps.cons (fun _ => ?_) (Eng.Steps.cons (fun _ => ?_) (Eng.Steps.cons (fun _ => ?_) (Eng.Steps.cons (fun hlt => ?_) (Eng.Steps.nil))))
      ·refine Eng.plain rfl rfl fun a w' H => ?_
       have kb := (H.below.block _ lg7_2_18).trans kg7_2_18
       refine Eng.val (w1 := w') (v := .agg ((List.map (Value.int .u64) (Nfa.stepF s step (Nfa.itemsTo ps bs k j))).toArray)) ?_ (Below.refl _ _) rfl
       exact Eng.run_load_all rfl ((H.kept 7 (by kernel_rfl)).trans h7_18) kb Tryd.underlying61 rfl (by rw [Nfa.cells_size ((Nfa.stepF_good _ _ _).len)]; kernel_rfl)
      ·refine Eng.plain rfl rfl fun a w' H => ?_
       exact Eng.val (w1 := w') (v := .int .i64 (IntKind.i64.wrap ((bs.getD k 0) + (j : Nat)))) (Eng.run_move rfl ((H.kept 11 (by kernel_rfl)).trans h11_18)) (Below.refl _ _) rfl
      ·refine Eng.plain rfl rfl fun a w' H => ?_
       refine Eng.call Tryd.func113 (by kernel_rfl) (by kernel_rfl) rfl #[.agg ((List.map (Value.int .u64) (Nfa.stepF s step (Nfa.itemsTo ps bs k j))).toArray), .int .i64 (IntKind.i64.wrap ((bs.getD k 0) + (j : Nat)))] ?_ ?_
       ·have e0 : a.eval (.tmp 54) = .agg ((List.map (Value.int .u64) (Nfa.stepF s step (Nfa.itemsTo ps bs k j))).toArray) := (H.dep 0 54 (by kernel_rfl) rfl); have e1 : a.eval (.tmp 55) = .int .i64 (IntKind.i64.wrap ((bs.getD k 0) + (j : Nat))) := (H.dep 1 55 (by kernel_rfl) rfl); simp only [List.map_toArray, List.map_cons, List.map_nil, e0, e1]
       refine (Nfa.with_calls (Nfa.stepF s step (Nfa.itemsTo ps bs k j)) (IntKind.i64.wrap ((bs.getD k 0) + (j : Nat))) _ (Nfa.stepF_good _ _ _) (hL.state hk0 (by omega)).1 (hL.state hk0 (by omega)).2).mono ?_
       rintro e w'' ⟨rfl, hb⟩
       exact ⟨_, rfl, rfl, hb⟩
      ·exact absurd hlt (by decide)
     intro act20 w20 T
     have h0_20 := (T.rest 0 (by kernel_rfl)).trans h0_18
     have h1_20 := (T.rest 1 (by kernel_rfl)).trans h1_18
     have h2_20 := (T.rest 2 (by kernel_rfl)).trans h2_18
     have h3_20 := (T.rest 3 (by kernel_rfl)).trans h3_18
     have h4_20 := (T.rest 4 (by kernel_rfl)).trans h4_18
     have h6_20 := (T.rest 6 (by kernel_rfl)).trans h6_18
     have h7_20 := (T.rest 7 (by kernel_rfl)).trans h7_18
     have h8_20 := (T.rest 8 (by kernel_rfl)).trans h8_18
     have h9_20 := (T.rest 9 (by kernel_rfl)).trans h9_18
     have h17_20 := (T.rest 17 (by kernel_rfl)).trans h17_18
     have kg3_1_20 := (T.below.block _ lg3_1_18).trans kg3_1_18
     have lg3_1_20 := Nat.lt_of_lt_of_le lg3_1_18 T.below.size
     have kg4_1_20 := (T.below.block _ lg4_1_18).trans kg4_1_18
     have lg4_1_20 := Nat.lt_of_lt_of_le lg4_1_18 T.below.size
     have kg6_1_20 := (T.below.block _ lg6_1_18).trans kg6_1_18
     have lg6_1_20 := Nat.lt_of_lt_of_le lg6_1_18 T.below.size
     have kg7_2_20 := (T.below.block _ lg7_2_18).trans kg7_2_18
     have lg7_2_20 := Nat.lt_of_lt_of_le lg7_2_18 T.below.size
     have h56_20 : act20.eval (.tmp 56) = .agg ((List.map (Value.int .u64) (Nfa.put (Nfa.stepF s step (Nfa.itemsTo ps bs k j)) (IntKind.i64.wrap ((bs.getD k 0) + (j : Nat))))).toArray) := T.done 2 56 rfl rfl
     have d20 := T.defers.trans d18
     have s20 := T.size.trans s18
     have bl20 := bl18.trans (T.below.mono bl18.size)
     clear T
     refine Eng.tail_arr rfl rfl rfl rfl h7_20 h56_20 kg7_2_20 (by rw [Nfa.cells_size ((Nfa.good_put (Nfa.stepF_good _ _ _) _).len)]; kernel_rfl) ((Nfa.cells_size ((Nfa.stepF_good _ _ _).len)).trans (Nfa.cells_size ((Nfa.good_put (Nfa.stepF_good _ _ _) _).len)).symm) (by first | exact Nfa.ones_u _ | simp [Value.oneCell']) fun w21 S => ?_
     have kg3_1_21 := (S.far _ ne_g7_2_g3_1).trans kg3_1_20
     have lg3_1_21 := Nat.lt_of_lt_of_eq lg3_1_20 S.size.symm
     have kg4_1_21 := (S.far _ ne_g7_2_g4_1).trans kg4_1_20
     have lg4_1_21 := Nat.lt_of_lt_of_eq lg4_1_20 S.size.symm
     have kg6_1_21 := (S.far _ ne_g7_2_g6_1).trans kg6_1_20
     have lg6_1_21 := Nat.lt_of_lt_of_eq lg6_1_20 S.size.symm
     have kg7_2_21 := S.new
     have lg7_2_21 := Nat.lt_of_lt_of_eq lg7_2_20 S.size.symm
     have bl21 := S.below bl20 og7_2
     clear S
     refine Eng.tail_nil ?_
     refine Eng.regionS (Eng.still [fun u_ => u_ = .int .i64 (j : Nat), fun u_ => u_ = .int .i64 (IntKind.i64.wrap ((j : Nat) + 1)), fun u_ => u_ = .int .i64 (IntKind.i64.wrap ((j : Nat) + 1))]) (fun _ => .plain) 3 0 74 s20 rfl (by kernel_rfl) (Eng.still_stable _) (Or.inr (Eng.still_any _)) ?_ ?_
     ·refine Eng.Steps.cons (fun _ => ?_) (Eng.Steps.cons (fun _ => ?_) (Eng.Steps.cons (fun _ => ?_) (Eng.Steps.nil)))
      ·refine Eng.plain rfl rfl fun a w' H => ?_
       exact Eng.val (w1 := w') (v := .int .i64 (j : Nat)) (Eng.run_move rfl ((H.kept 9 (by kernel_rfl)).trans h9_20)) (Below.refl _ _) rfl
      ·refine Eng.plain rfl rfl fun a w' H => ?_
       refine Eng.val (w1 := w') (v := .int .i64 (IntKind.i64.wrap ((j : Nat) + 1))) ?_ (Below.refl _ _) rfl
       have e0 : a.eval (.tmp 28) = .int .i64 (j : Nat) := (H.dep 0 28 (by kernel_rfl) rfl)
       have e1 : a.eval (.const (.int .i64 1)) = .int .i64 1 := (rfl : a.eval (.const (.int .i64 1)) = .int .i64 1)
       simp only [execOp, resolve, e0, e1]
       go_simp
      ·refine Eng.plain rfl rfl fun a w' H => ?_
       exact Eng.val (w1 := w') (v := .int .i64 (IntKind.i64.wrap ((j : Nat) + 1))) (Eng.run_assign rfl (H.dep 1 29 (by kernel_rfl) rfl)) (Below.refl _ _) rfl
     intro act22 w22 T
     have h0_22 := (T.rest 0 (by kernel_rfl)).trans h0_20
     have h1_22 := (T.rest 1 (by kernel_rfl)).trans h1_20
     have h2_22 := (T.rest 2 (by kernel_rfl)).trans h2_20
     have h3_22 := (T.rest 3 (by kernel_rfl)).trans h3_20
     have h4_22 := (T.rest 4 (by kernel_rfl)).trans h4_20
     have h6_22 := (T.rest 6 (by kernel_rfl)).trans h6_20
     have h7_22 := (T.rest 7 (by kernel_rfl)).trans h7_20
     have h8_22 := (T.rest 8 (by kernel_rfl)).trans h8_20
     have h17_22 := (T.rest 17 (by kernel_rfl)).trans h17_20
     have kg3_1_22 := (T.below.block _ lg3_1_21).trans kg3_1_21
     have lg3_1_22 := Nat.lt_of_lt_of_le lg3_1_21 T.below.size
     have kg4_1_22 := (T.below.block _ lg4_1_21).trans kg4_1_21
     have lg4_1_22 := Nat.lt_of_lt_of_le lg4_1_21 T.below.size
     have kg6_1_22 := (T.below.block _ lg6_1_21).trans kg6_1_21
     have lg6_1_22 := Nat.lt_of_lt_of_le lg6_1_21 T.below.size
     have kg7_2_22 := (T.below.block _ lg7_2_21).trans kg7_2_21
     have lg7_2_22 := Nat.lt_of_lt_of_le lg7_2_21 T.below.size
     have h9_22 : act22.eval (.tmp 9) = .int .i64 (IntKind.i64.wrap ((j : Nat) + 1)) := T.done 2 9 rfl rfl
     have d22 := T.defers.trans d20
     have s22 := T.size.trans s20
     have bl22 := bl21.trans (T.below.mono bl21.size)
     clear T
     refine Eng.tail_nil ?_
     exact ⟨_, by omega, j + 1, rfl, by omega, d22, s22, bl22, h0_22, h1_22, h2_22, h3_22, h4_22, h6_22, h7_22, h8_22, (h9_22.trans (by first | rfl | (congr 1; rw [Eng.i64_id (by omega) (by omega)]; omega) | (simp; done))), h17_22, kg3_1_22, lg3_1_22, kg4_1_22, lg4_1_22, kg6_1_22, lg6_1_22, (kg7_2_22.trans (by first | rfl | (rw [Nfa.step_at hkb, if_pos hx1]; done) | (rw [Nfa.step_at hkb, if_neg (by rw [hx1]; simp), if_pos c50]; done) | (rw [Nfa.step_at hkb, if_neg (by rw [hx1]; simp), if_neg (by rw [c50]; simp), if_pos c57]; done) | (rw [Nfa.step_at hkb, if_neg (by rw [hx1]; simp), if_neg (by rw [c50]; simp), if_neg (by rw [c57]; simp)]; done))), lg7_2_22⟩
    ·
     have c50 := Bq53.symm.trans hq
     clear hq
     refine wp_seq ?_
     obtain ⟨q60, Bq60⟩ : ∃ b : Bool, b = ((((ps.getD k []).getD j default).1) == 1) := ⟨_, rfl⟩
     obtain ⟨q65, Bq65⟩ : ∃ b : Bool, b = ((((ps.getD k []).getD j default).2).toList == step.toList) := ⟨_, rfl⟩
     obtain ⟨q66, Bq66⟩ : ∃ b : Bool, b = (q60 || q65) := ⟨_, rfl⟩
     refine Eng.regionS (Eng.still [fun u_ => u_ = .pointer (some ⟨g10_12, 0, none⟩), fun u_ => u_ = .int .i64 (((ps.getD k []).getD j default).1), fun u_ => u_ = .bool q60, fun u_ => u_ = .bool q60, fun u_ => u_ = bif (q60 == false) then (.pointer (some ⟨g10_12, 1, none⟩)) else undef, fun u_ => u_ = bif (q60 == false) then (.string (((ps.getD k []).getD j default).2)) else undef, fun u_ => u_ = bif (q60 == false) then (.string step) else undef, fun u_ => u_ = bif (q60 == false) then (.bool q65) else undef, fun u_ => u_ = .bool q66, fun u_ => u_ = .bool q66]) (fun _ => .plain) 10 0 74 s18 rfl (by kernel_rfl) (Eng.still_stable _) (Or.inr (Eng.still_any _)) ?_ ?_
     ·refine Eng.Steps.cons (fun _ => ?_) (Eng.Steps.cons (fun _ => ?_) (Eng.Steps.cons (fun _ => ?_) (Eng.Steps.cons (fun _ => ?_) (Eng.Steps.cons (fun _ => ?_) (Eng.Steps.cons (fun _ => ?_) (Eng.Steps.cons (fun _ => ?_) (Eng.Steps.cons (fun _ => ?_) (Eng.Steps.cons (fun _ => ?_) (Eng.Steps.cons (fun _ => ?_) (Eng.Steps.nil))))))))))
      ·refine Eng.plain rfl rfl fun a w' H => ?_
       refine Eng.val (w1 := w') (v := .pointer (some ⟨g10_12, 0, none⟩)) ?_ (Below.refl _ _) rfl
       have e0 := ((H.kept 10 (by kernel_rfl)).trans h10_18)
       simp only [execOp, resolve, e0]
       go_simp
      ·refine Eng.plain rfl rfl fun a w' H => ?_
       have kb := (H.below.block _ lg10_12_18).trans kg10_12_18
       have z0 : w'.cell? ⟨g10_12, 0, none⟩ = some (.int .i64 (((ps.getD k []).getD j default).1)) := (Eng.cells kb 0).trans rfl
       refine Eng.val (w1 := w') (v := .int .i64 (((ps.getD k []).getD j default).1)) ?_ (Below.refl _ _) rfl
       have e0 : a.eval (.tmp 58) = .pointer (some ⟨g10_12, 0, none⟩) := (H.dep 0 58 (by kernel_rfl) rfl)
       simp only [execOp, resolve, e0]
       go_simp
      ·refine Eng.plain rfl rfl fun a w' H => ?_
       refine Eng.val (w1 := w') (v := .bool ((((ps.getD k []).getD j default).1) == 1)) ?_ (Below.refl _ _) (by show _ = Value.bool q60; rw [Bq60])
       have e0 : a.eval (.tmp 59) = .int .i64 (((ps.getD k []).getD j default).1) := (H.dep 1 59 (by kernel_rfl) rfl)
       have e1 : a.eval (.const (.int .i64 1)) = .int .i64 1 := (rfl : a.eval (.const (.int .i64 1)) = .int .i64 1)
       simp only [execOp, resolve, e0, e1]
       go_simp
      ·refine Eng.plain rfl rfl fun a w' H => ?_
       exact Eng.val (w1 := w') (v := .bool q60) (Eng.run_move rfl (H.dep 2 60 (by kernel_rfl) rfl)) (Below.refl _ _) rfl
      ·refine Eng.guarded1 (j := 3) (d := 61) (b := q60) rfl rfl (by kernel_rfl) rfl (fun v w h => h) (fun hG w => Eng.off hG) fun hG a w' H => ?_
       refine Eng.val (w1 := w') (v := .pointer (some ⟨g10_12, 1, none⟩)) ?_ (Below.refl _ _) (Eng.off' hG rfl)
       have e0 := ((H.kept 10 (by kernel_rfl)).trans h10_18)
       simp only [execOp, resolve, e0]
       go_simp
      ·refine Eng.guarded1 (j := 3) (d := 61) (b := q60) rfl rfl (by kernel_rfl) rfl (fun v w h => h) (fun hG w => Eng.off hG) fun hG a w' H => ?_
       have kb := (H.below.block _ lg10_12_18).trans kg10_12_18
       have z0 : w'.cell? ⟨g10_12, 1, none⟩ = some (.string (((ps.getD k []).getD j default).2)) := (Eng.cells kb 1).trans rfl
       refine Eng.val (w1 := w') (v := .string (((ps.getD k []).getD j default).2)) ?_ (Below.refl _ _) (Eng.off' hG rfl)
       have e0 : a.eval (.tmp 62) = .pointer (some ⟨g10_12, 1, none⟩) := (Eng.on (H.dep 4 62 (by kernel_rfl) rfl) hG)
       simp only [execOp, resolve, e0]
       go_simp
      ·refine Eng.guarded1 (j := 3) (d := 61) (b := q60) rfl rfl (by kernel_rfl) rfl (fun v w h => h) (fun hG w => Eng.off hG) fun hG a w' H => ?_
       exact Eng.val (w1 := w') (v := .string step) (Eng.run_move rfl ((H.kept 2 (by kernel_rfl)).trans h2_18)) (Below.refl _ _) (Eng.off' hG rfl)
      ·refine Eng.guarded1 (j := 3) (d := 61) (b := q60) rfl rfl (by kernel_rfl) rfl (fun v w h => h) (fun hG w => Eng.off hG) fun hG a w' H => ?_
       refine Eng.val (w1 := w') (v := .bool ((((ps.getD k []).getD j default).2).toList == step.toList)) ?_ (Below.refl _ _) (Eng.off' hG (by rw [Bq65]))
       have e0 : a.eval (.tmp 63) = .string (((ps.getD k []).getD j default).2) := (Eng.on (H.dep 5 63 (by kernel_rfl) rfl) hG)
       have e1 : a.eval (.tmp 64) = .string step := (Eng.on (H.dep 6 64 (by kernel_rfl) rfl) hG)
       simp only [execOp, resolve, e0, e1]
       go_simp
      ·refine Eng.plain rfl rfl fun a w' H => ?_
       exact Eng.val (w1 := w') (v := .bool (q60 || q65)) (Eng.run_or rfl rfl (G := true) (H.dep 3 61 (by kernel_rfl) rfl) (fun hb => (Eng.on (H.dep 7 65 (by kernel_rfl) rfl) (Eng.mk1 hb)))) (Below.refl _ _) (by show _ = Value.bool q66; rw [Bq66])
      ·refine Eng.plain rfl rfl fun a w' H => ?_
       exact Eng.val (w1 := w') (v := .bool q66) (Eng.run_assign rfl (H.dep 8 66 (by kernel_rfl) rfl)) (Below.refl _ _) rfl
     intro act24 w24 T
     have h0_24 := (T.rest 0 (by kernel_rfl)).trans h0_18
     have h1_24 := (T.rest 1 (by kernel_rfl)).trans h1_18
     have h2_24 := (T.rest 2 (by kernel_rfl)).trans h2_18
     have h3_24 := (T.rest 3 (by kernel_rfl)).trans h3_18
     have h4_24 := (T.rest 4 (by kernel_rfl)).trans h4_18
     have h6_24 := (T.rest 6 (by kernel_rfl)).trans h6_18
     have h7_24 := (T.rest 7 (by kernel_rfl)).trans h7_18
     have h8_24 := (T.rest 8 (by kernel_rfl)).trans h8_18
     have h9_24 := (T.rest 9 (by kernel_rfl)).trans h9_18
     have h11_24 := (T.rest 11 (by kernel_rfl)).trans h11_18
     have h17_24 := (T.rest 17 (by kernel_rfl)).trans h17_18
     have kg3_1_24 := (T.below.block _ lg3_1_18).trans kg3_1_18
     have lg3_1_24 := Nat.lt_of_lt_of_le lg3_1_18 T.below.size
     have kg4_1_24 := (T.below.block _ lg4_1_18).trans kg4_1_18
     have lg4_1_24 := Nat.lt_of_lt_of_le lg4_1_18 T.below.size
     have kg6_1_24 := (T.below.block _ lg6_1_18).trans kg6_1_18
     have lg6_1_24 := Nat.lt_of_lt_of_le lg6_1_18 T.below.size
     have kg7_2_24 := (T.below.block _ lg7_2_18).trans kg7_2_18
     have lg7_2_24 := Nat.lt_of_lt_of_le lg7_2_18 T.below.size
     have h57_24 : act24.eval (.tmp 57) = .bool q66 := T.done 9 57 rfl rfl
     have d24 := T.defers.trans d18
     have s24 := T.size.trans s18
     have bl24 := bl18.trans (T.below.mono bl18.size)
     clear T
     refine Eng.tail_nil ?_
     refine wp_cond_split h57_24 (fun hq => ?_) (fun hq => ?_)
     ·
      have c57 := Bq66.symm.trans hq
      clear hq
      rw [Bq60, Bq65] at c57
      refine Eng.regionS (Eng.still [fun u_ => u_ = .agg ((List.map (Value.int .u64) (Nfa.stepF s step (Nfa.itemsTo ps bs k j))).toArray), fun u_ => u_ = .int .i64 (IntKind.i64.wrap ((bs.getD k 0) + (j : Nat))), fun u_ => u_ = .int .i64 (IntKind.i64.wrap ((IntKind.i64.wrap ((bs.getD k 0) + (j : Nat))) + 1)), fun u_ => u_ = .agg ((List.map (Value.int .u64) (Nfa.put (Nfa.stepF s step (Nfa.itemsTo ps bs k j)) (IntKind.i64.wrap ((IntKind.i64.wrap ((bs.getD k 0) + (j : Nat))) + 1)))).toArray)]) (fun _ => .plain) 4 1 74 s24 rfl (by kernel_rfl) (Eng.still_stable _) (Or.inr (Eng.still_any _)) ?_ ?_
      ·refine Eng.Steps.cons (fun _ => ?_) (Eng.Steps.cons (fun _ => ?_) (Eng.Steps.cons (fun _ => ?_) (Eng.Steps.cons (fun _ => ?_) (Eng.Steps.cons (fun hlt => ?_) (Eng.Steps.nil)))))
       ·refine Eng.plain rfl rfl fun a w' H => ?_
        have kb := (H.below.block _ lg7_2_24).trans kg7_2_24
        refine Eng.val (w1 := w') (v := .agg ((List.map (Value.int .u64) (Nfa.stepF s step (Nfa.itemsTo ps bs k j))).toArray)) ?_ (Below.refl _ _) rfl
        exact Eng.run_load_all rfl ((H.kept 7 (by kernel_rfl)).trans h7_24) kb Tryd.underlying61 rfl (by rw [Nfa.cells_size ((Nfa.stepF_good _ _ _).len)]; kernel_rfl)
       ·refine Eng.plain rfl rfl fun a w' H => ?_
        exact Eng.val (w1 := w') (v := .int .i64 (IntKind.i64.wrap ((bs.getD k 0) + (j : Nat)))) (Eng.run_move rfl ((H.kept 11 (by kernel_rfl)).trans h11_24)) (Below.refl _ _) rfl
       ·refine Eng.plain rfl rfl fun a w' H => ?_
        refine Eng.val (w1 := w') (v := .int .i64 (IntKind.i64.wrap ((IntKind.i64.wrap ((bs.getD k 0) + (j : Nat))) + 1))) ?_ (Below.refl _ _) rfl
        have e0 : a.eval (.tmp 68) = .int .i64 (IntKind.i64.wrap ((bs.getD k 0) + (j : Nat))) := (H.dep 1 68 (by kernel_rfl) rfl)
        have e1 : a.eval (.const (.int .i64 1)) = .int .i64 1 := (rfl : a.eval (.const (.int .i64 1)) = .int .i64 1)
        simp only [execOp, resolve, e0, e1]
        go_simp
       ·refine Eng.plain rfl rfl fun a w' H => ?_
        refine Eng.call Tryd.func113 (by kernel_rfl) (by kernel_rfl) rfl #[.agg ((List.map (Value.int .u64) (Nfa.stepF s step (Nfa.itemsTo ps bs k j))).toArray), .int .i64 (IntKind.i64.wrap ((IntKind.i64.wrap ((bs.getD k 0) + (j : Nat))) + 1))] ?_ ?_
        ·have e0 : a.eval (.tmp 67) = .agg ((List.map (Value.int .u64) (Nfa.stepF s step (Nfa.itemsTo ps bs k j))).toArray) := (H.dep 0 67 (by kernel_rfl) rfl); have e1 : a.eval (.tmp 69) = .int .i64 (IntKind.i64.wrap ((IntKind.i64.wrap ((bs.getD k 0) + (j : Nat))) + 1)) := (H.dep 2 69 (by kernel_rfl) rfl); simp only [List.map_toArray, List.map_cons, List.map_nil, e0, e1]
        refine (Nfa.with_calls (Nfa.stepF s step (Nfa.itemsTo ps bs k j)) (IntKind.i64.wrap ((IntKind.i64.wrap ((bs.getD k 0) + (j : Nat))) + 1)) _ (Nfa.stepF_good _ _ _) (hL.next hk0 hj0).1 (hL.next hk0 hj0).2).mono ?_
        rintro e w'' ⟨rfl, hb⟩
        exact ⟨_, rfl, rfl, hb⟩
       ·exact absurd hlt (by decide)
      intro act26 w26 T
      have h0_26 := (T.rest 0 (by kernel_rfl)).trans h0_24
      have h1_26 := (T.rest 1 (by kernel_rfl)).trans h1_24
      have h2_26 := (T.rest 2 (by kernel_rfl)).trans h2_24
      have h3_26 := (T.rest 3 (by kernel_rfl)).trans h3_24
      have h4_26 := (T.rest 4 (by kernel_rfl)).trans h4_24
      have h6_26 := (T.rest 6 (by kernel_rfl)).trans h6_24
      have h7_26 := (T.rest 7 (by kernel_rfl)).trans h7_24
      have h8_26 := (T.rest 8 (by kernel_rfl)).trans h8_24
      have h9_26 := (T.rest 9 (by kernel_rfl)).trans h9_24
      have h17_26 := (T.rest 17 (by kernel_rfl)).trans h17_24
      have kg3_1_26 := (T.below.block _ lg3_1_24).trans kg3_1_24
      have lg3_1_26 := Nat.lt_of_lt_of_le lg3_1_24 T.below.size
      have kg4_1_26 := (T.below.block _ lg4_1_24).trans kg4_1_24
      have lg4_1_26 := Nat.lt_of_lt_of_le lg4_1_24 T.below.size
      have kg6_1_26 := (T.below.block _ lg6_1_24).trans kg6_1_24
      have lg6_1_26 := Nat.lt_of_lt_of_le lg6_1_24 T.below.size
      have kg7_2_26 := (T.below.block _ lg7_2_24).trans kg7_2_24
      have lg7_2_26 := Nat.lt_of_lt_of_le lg7_2_24 T.below.size
      have h70_26 : act26.eval (.tmp 70) = .agg ((List.map (Value.int .u64) (Nfa.put (Nfa.stepF s step (Nfa.itemsTo ps bs k j)) (IntKind.i64.wrap ((IntKind.i64.wrap ((bs.getD k 0) + (j : Nat))) + 1)))).toArray) := T.done 3 70 rfl rfl
      have d26 := T.defers.trans d24
      have s26 := T.size.trans s24
      have bl26 := bl24.trans (T.below.mono bl24.size)
      clear T
      refine Eng.tail_arr rfl rfl rfl rfl h7_26 h70_26 kg7_2_26 (by rw [Nfa.cells_size ((Nfa.good_put (Nfa.stepF_good _ _ _) _).len)]; kernel_rfl) ((Nfa.cells_size ((Nfa.stepF_good _ _ _).len)).trans (Nfa.cells_size ((Nfa.good_put (Nfa.stepF_good _ _ _) _).len)).symm) (by first | exact Nfa.ones_u _ | simp [Value.oneCell']) fun w27 S => ?_
      have kg3_1_27 := (S.far _ ne_g7_2_g3_1).trans kg3_1_26
      have lg3_1_27 := Nat.lt_of_lt_of_eq lg3_1_26 S.size.symm
      have kg4_1_27 := (S.far _ ne_g7_2_g4_1).trans kg4_1_26
      have lg4_1_27 := Nat.lt_of_lt_of_eq lg4_1_26 S.size.symm
      have kg6_1_27 := (S.far _ ne_g7_2_g6_1).trans kg6_1_26
      have lg6_1_27 := Nat.lt_of_lt_of_eq lg6_1_26 S.size.symm
      have kg7_2_27 := S.new
      have lg7_2_27 := Nat.lt_of_lt_of_eq lg7_2_26 S.size.symm
      have bl27 := S.below bl26 og7_2
      clear S
      refine Eng.tail_nil ?_
      refine Eng.regionS (Eng.still [fun u_ => u_ = .int .i64 (j : Nat), fun u_ => u_ = .int .i64 (IntKind.i64.wrap ((j : Nat) + 1)), fun u_ => u_ = .int .i64 (IntKind.i64.wrap ((j : Nat) + 1))]) (fun _ => .plain) 3 0 74 s26 rfl (by kernel_rfl) (Eng.still_stable _) (Or.inr (Eng.still_any _)) ?_ ?_
      ·refine Eng.Steps.cons (fun _ => ?_) (Eng.Steps.cons (fun _ => ?_) (Eng.Steps.cons (fun _ => ?_) (Eng.Steps.nil)))
       ·refine Eng.plain rfl rfl fun a w' H => ?_
        exact Eng.val (w1 := w') (v := .int .i64 (j : Nat)) (Eng.run_move rfl ((H.kept 9 (by kernel_rfl)).trans h9_26)) (Below.refl _ _) rfl
       ·refine Eng.plain rfl rfl fun a w' H => ?_
        refine Eng.val (w1 := w') (v := .int .i64 (IntKind.i64.wrap ((j : Nat) + 1))) ?_ (Below.refl _ _) rfl
        have e0 : a.eval (.tmp 28) = .int .i64 (j : Nat) := (H.dep 0 28 (by kernel_rfl) rfl)
        have e1 : a.eval (.const (.int .i64 1)) = .int .i64 1 := (rfl : a.eval (.const (.int .i64 1)) = .int .i64 1)
        simp only [execOp, resolve, e0, e1]
        go_simp
       ·refine Eng.plain rfl rfl fun a w' H => ?_
        exact Eng.val (w1 := w') (v := .int .i64 (IntKind.i64.wrap ((j : Nat) + 1))) (Eng.run_assign rfl (H.dep 1 29 (by kernel_rfl) rfl)) (Below.refl _ _) rfl
      intro act28 w28 T
      have h0_28 := (T.rest 0 (by kernel_rfl)).trans h0_26
      have h1_28 := (T.rest 1 (by kernel_rfl)).trans h1_26
      have h2_28 := (T.rest 2 (by kernel_rfl)).trans h2_26
      have h3_28 := (T.rest 3 (by kernel_rfl)).trans h3_26
      have h4_28 := (T.rest 4 (by kernel_rfl)).trans h4_26
      have h6_28 := (T.rest 6 (by kernel_rfl)).trans h6_26
      have h7_28 := (T.rest 7 (by kernel_rfl)).trans h7_26
      have h8_28 := (T.rest 8 (by kernel_rfl)).trans h8_26
      have h17_28 := (T.rest 17 (by kernel_rfl)).trans h17_26
      have kg3_1_28 := (T.below.block _ lg3_1_27).trans kg3_1_27
      have lg3_1_28 := Nat.lt_of_lt_of_le lg3_1_27 T.below.size
      have kg4_1_28 := (T.below.block _ lg4_1_27).trans kg4_1_27
      have lg4_1_28 := Nat.lt_of_lt_of_le lg4_1_27 T.below.size
      have kg6_1_28 := (T.below.block _ lg6_1_27).trans kg6_1_27
      have lg6_1_28 := Nat.lt_of_lt_of_le lg6_1_27 T.below.size
      have kg7_2_28 := (T.below.block _ lg7_2_27).trans kg7_2_27
      have lg7_2_28 := Nat.lt_of_lt_of_le lg7_2_27 T.below.size
      have h9_28 : act28.eval (.tmp 9) = .int .i64 (IntKind.i64.wrap ((j : Nat) + 1)) := T.done 2 9 rfl rfl
      have d28 := T.defers.trans d26
      have s28 := T.size.trans s26
      have bl28 := bl27.trans (T.below.mono bl27.size)
      clear T
      refine Eng.tail_nil ?_
      exact ⟨_, by omega, j + 1, rfl, by omega, d28, s28, bl28, h0_28, h1_28, h2_28, h3_28, h4_28, h6_28, h7_28, h8_28, (h9_28.trans (by first | rfl | (congr 1; rw [Eng.i64_id (by omega) (by omega)]; omega) | (simp; done))), h17_28, kg3_1_28, lg3_1_28, kg4_1_28, lg4_1_28, kg6_1_28, lg6_1_28, (kg7_2_28.trans (by first | rfl | (rw [Nfa.step_at hkb, if_pos hx1]; done) | (rw [Nfa.step_at hkb, if_neg (by rw [hx1]; simp), if_pos c50]; done) | (rw [Nfa.step_at hkb, if_neg (by rw [hx1]; simp), if_neg (by rw [c50]; simp), if_pos c57]; done) | (rw [Nfa.step_at hkb, if_neg (by rw [hx1]; simp), if_neg (by rw [c50]; simp), if_neg (by rw [c57]; simp)]; done))), lg7_2_28⟩
     ·
      have c57 := Bq66.symm.trans hq
      clear hq
      rw [Bq60, Bq65] at c57
      refine wp_skip ?_
      refine Eng.regionS (Eng.still [fun u_ => u_ = .int .i64 (j : Nat), fun u_ => u_ = .int .i64 (IntKind.i64.wrap ((j : Nat) + 1)), fun u_ => u_ = .int .i64 (IntKind.i64.wrap ((j : Nat) + 1))]) (fun _ => .plain) 3 0 74 s24 rfl (by kernel_rfl) (Eng.still_stable _) (Or.inr (Eng.still_any _)) ?_ ?_
      ·refine Eng.Steps.cons (fun _ => ?_) (Eng.Steps.cons (fun _ => ?_) (Eng.Steps.cons (fun _ => ?_) (Eng.Steps.nil)))
       ·refine Eng.plain rfl rfl fun a w' H => ?_
        exact Eng.val (w1 := w') (v := .int .i64 (j : Nat)) (Eng.run_move rfl ((H.kept 9 (by kernel_rfl)).trans h9_24)) (Below.refl _ _) rfl
       ·refine Eng.plain rfl rfl fun a w' H => ?_
        refine Eng.val (w1 := w') (v := .int .i64 (IntKind.i64.wrap ((j : Nat) + 1))) ?_ (Below.refl _ _) rfl
        have e0 : a.eval (.tmp 28) = .int .i64 (j : Nat) := (H.dep 0 28 (by kernel_rfl) rfl)
        have e1 : a.eval (.const (.int .i64 1)) = .int .i64 1 := (rfl : a.eval (.const (.int .i64 1)) = .int .i64 1)
        simp only [execOp, resolve, e0, e1]
        go_simp
       ·refine Eng.plain rfl rfl fun a w' H => ?_
        exact Eng.val (w1 := w') (v := .int .i64 (IntKind.i64.wrap ((j : Nat) + 1))) (Eng.run_assign rfl (H.dep 1 29 (by kernel_rfl) rfl)) (Below.refl _ _) rfl
      intro act30 w30 T
      have h0_30 := (T.rest 0 (by kernel_rfl)).trans h0_24
      have h1_30 := (T.rest 1 (by kernel_rfl)).trans h1_24
      have h2_30 := (T.rest 2 (by kernel_rfl)).trans h2_24
      have h3_30 := (T.rest 3 (by kernel_rfl)).trans h3_24
      have h4_30 := (T.rest 4 (by kernel_rfl)).trans h4_24
      have h6_30 := (T.rest 6 (by kernel_rfl)).trans h6_24
      have h7_30 := (T.rest 7 (by kernel_rfl)).trans h7_24
      have h8_30 := (T.rest 8 (by kernel_rfl)).trans h8_24
      have h17_30 := (T.rest 17 (by kernel_rfl)).trans h17_24
      have kg3_1_30 := (T.below.block _ lg3_1_24).trans kg3_1_24
      have lg3_1_30 := Nat.lt_of_lt_of_le lg3_1_24 T.below.size
      have kg4_1_30 := (T.below.block _ lg4_1_24).trans kg4_1_24
      have lg4_1_30 := Nat.lt_of_lt_of_le lg4_1_24 T.below.size
      have kg6_1_30 := (T.below.block _ lg6_1_24).trans kg6_1_24
      have lg6_1_30 := Nat.lt_of_lt_of_le lg6_1_24 T.below.size
      have kg7_2_30 := (T.below.block _ lg7_2_24).trans kg7_2_24
      have lg7_2_30 := Nat.lt_of_lt_of_le lg7_2_24 T.below.size
      have h9_30 : act30.eval (.tmp 9) = .int .i64 (IntKind.i64.wrap ((j : Nat) + 1)) := T.done 2 9 rfl rfl
      have d30 := T.defers.trans d24
      have s30 := T.size.trans s24
      have bl30 := bl24.trans (T.below.mono bl24.size)
      clear T
      refine Eng.tail_nil ?_
      exact ⟨_, by omega, j + 1, rfl, by omega, d30, s30, bl30, h0_30, h1_30, h2_30, h3_30, h4_30, h6_30, h7_30, h8_30, (h9_30.trans (by first | rfl | (congr 1; rw [Eng.i64_id (by omega) (by omega)]; omega) | (simp; done))), h17_30, kg3_1_30, lg3_1_30, kg4_1_30, lg4_1_30, kg6_1_30, lg6_1_30, (kg7_2_30.trans (by first | rfl | (rw [Nfa.step_at hkb, if_pos hx1]; done) | (rw [Nfa.step_at hkb, if_neg (by rw [hx1]; simp), if_pos c50]; done) | (rw [Nfa.step_at hkb, if_neg (by rw [hx1]; simp), if_neg (by rw [c50]; simp), if_pos c57]; done) | (rw [Nfa.step_at hkb, if_neg (by rw [hx1]; simp), if_neg (by rw [c50]; simp), if_neg (by rw [c57]; simp)]; done))), lg7_2_30⟩
  ·
   have c27 := Bq27.symm.trans hq
   clear hq
   have c27 := of_decide_eq_false c27
   have hje : j = (ps.getD k []).length := by omega
   refine wp_exit ?_
   refine Eng.regionS (Eng.still [fun u_ => u_ = .int .i64 (k : Nat), fun u_ => u_ = .int .i64 (IntKind.i64.wrap ((k : Nat) + 1)), fun u_ => u_ = .int .i64 (IntKind.i64.wrap ((k : Nat) + 1))]) (fun _ => .plain) 3 0 74 s10 rfl (by kernel_rfl) (Eng.still_stable _) (Or.inr (Eng.still_any _)) ?_ ?_
   ·refine Eng.Steps.cons (fun _ => ?_) (Eng.Steps.cons (fun _ => ?_) (Eng.Steps.cons (fun _ => ?_) (Eng.Steps.nil)))
    ·refine Eng.plain rfl rfl fun a w' H => ?_
     exact Eng.val (w1 := w') (v := .int .i64 (k : Nat)) (Eng.run_move rfl ((H.kept 8 (by kernel_rfl)).trans h8_10)) (Below.refl _ _) rfl
    ·refine Eng.plain rfl rfl fun a w' H => ?_
     refine Eng.val (w1 := w') (v := .int .i64 (IntKind.i64.wrap ((k : Nat) + 1))) ?_ (Below.refl _ _) rfl
     have e0 : a.eval (.tmp 18) = .int .i64 (k : Nat) := (H.dep 0 18 (by kernel_rfl) rfl)
     have e1 : a.eval (.const (.int .i64 1)) = .int .i64 1 := (rfl : a.eval (.const (.int .i64 1)) = .int .i64 1)
     simp only [execOp, resolve, e0, e1]
     go_simp
    ·refine Eng.plain rfl rfl fun a w' H => ?_
     exact Eng.val (w1 := w') (v := .int .i64 (IntKind.i64.wrap ((k : Nat) + 1))) (Eng.run_assign rfl (H.dep 1 19 (by kernel_rfl) rfl)) (Below.refl _ _) rfl
   intro act32 w32 T
   have h0_32 := (T.rest 0 (by kernel_rfl)).trans h0_10
   have h1_32 := (T.rest 1 (by kernel_rfl)).trans h1_10
   have h2_32 := (T.rest 2 (by kernel_rfl)).trans h2_10
   have h3_32 := (T.rest 3 (by kernel_rfl)).trans h3_10
   have h4_32 := (T.rest 4 (by kernel_rfl)).trans h4_10
   have h6_32 := (T.rest 6 (by kernel_rfl)).trans h6_10
   have h7_32 := (T.rest 7 (by kernel_rfl)).trans h7_10
   have kg3_1_32 := (T.below.block _ lg3_1_10).trans kg3_1_10
   have lg3_1_32 := Nat.lt_of_lt_of_le lg3_1_10 T.below.size
   have kg4_1_32 := (T.below.block _ lg4_1_10).trans kg4_1_10
   have lg4_1_32 := Nat.lt_of_lt_of_le lg4_1_10 T.below.size
   have kg6_1_32 := (T.below.block _ lg6_1_10).trans kg6_1_10
   have lg6_1_32 := Nat.lt_of_lt_of_le lg6_1_10 T.below.size
   have kg7_2_32 := (T.below.block _ lg7_2_10).trans kg7_2_10
   have lg7_2_32 := Nat.lt_of_lt_of_le lg7_2_10 T.below.size
   have h8_32 : act32.eval (.tmp 8) = .int .i64 (IntKind.i64.wrap ((k : Nat) + 1)) := T.done 2 8 rfl rfl
   have d32 := T.defers.trans d10
   have s32 := T.size.trans s10
   have bl32 := bl10.trans (T.below.mono bl10.size)
   clear T
   refine Eng.tail_nil ?_
   exact ⟨_, by omega, k + 1, rfl, by omega, d32, s32, bl32, h0_32, h1_32, h2_32, h3_32, h4_32, h6_32, h7_32, (h8_32.trans (by first | rfl | (congr 1; rw [Eng.i64_id (by omega) (by omega)]; omega) | (simp; done))), kg3_1_32, lg3_1_32, kg4_1_32, lg4_1_32, kg6_1_32, lg6_1_32, (kg7_2_32.trans (by first | rfl | (rw [Nfa.itemsTo_zero]; rfl) | (rw [← Nfa.itemsTo_end, hje]; done) | (rw [hje, Nfa.itemsTo_end]; done))), lg7_2_32⟩
 ·
  have c17 := Bq17.symm.trans hq
  clear hq
  have c17 := of_decide_eq_false c17
  refine wp_exit ?_
  refine wp_seq ?_
  refine Eng.regionS (Eng.still [fun u_ => u_ = .agg #[pv, bv, .int .i64 many], fun u_ => u_ = .agg ((List.map (Value.int .u64) (Nfa.stepF s step (Nfa.itemsTo ps bs k 0))).toArray), fun u_ => u_ = .agg ((List.map (Value.int .u64) (Nfa.closeF (Nfa.stepF s step (Nfa.itemsTo ps bs k 0)) (Nfa.items ps bs))).toArray)]) (fun _ => .plain) 3 1 74 s5 rfl (by kernel_rfl) (Eng.still_stable _) (Or.inr (Eng.still_any _)) ?_ ?_
  ·refine Eng.Steps.cons (fun _ => ?_) (Eng.Steps.cons (fun _ => ?_) (Eng.Steps.cons (fun _ => ?_) (Eng.Steps.cons (fun hlt => ?_) (Eng.Steps.nil))))
   ·refine Eng.plain rfl rfl fun a w' H => ?_
    have kb := (H.below.block _ lg3_1_5).trans kg3_1_5
    have z0 : w'.cell? ⟨g3_1, 0, none⟩ = some (pv) := (Eng.cells kb 0).trans rfl
    have z1 : w'.cell? ⟨g3_1, 1, none⟩ = some (bv) := (Eng.cells kb 1).trans rfl
    have z2 : w'.cell? ⟨g3_1, 2, none⟩ = some (.int .i64 many) := (Eng.cells kb 2).trans rfl
    refine Eng.val (w1 := w') (v := .agg #[pv, bv, .int .i64 many]) ?_ (Below.refl _ _) rfl
    have e0 := ((H.kept 3 (by kernel_rfl)).trans h3_5)
    simp only [execOp, resolve, e0]
    go_simp
   ·refine Eng.plain rfl rfl fun a w' H => ?_
    have kb := (H.below.block _ lg7_2_5).trans kg7_2_5
    refine Eng.val (w1 := w') (v := .agg ((List.map (Value.int .u64) (Nfa.stepF s step (Nfa.itemsTo ps bs k 0))).toArray)) ?_ (Below.refl _ _) rfl
    exact Eng.run_load_all rfl ((H.kept 7 (by kernel_rfl)).trans h7_5) kb Tryd.underlying61 rfl (by rw [Nfa.cells_size ((Nfa.stepF_good _ _ _).len)]; kernel_rfl)
   ·refine Eng.plain rfl rfl fun a w' H => ?_
    refine Eng.call Tryd.func114 (by kernel_rfl) (by kernel_rfl) rfl #[.agg #[pv, bv, .int .i64 many], .agg ((List.map (Value.int .u64) (Nfa.stepF s step (Nfa.itemsTo ps bs k 0))).toArray)] ?_ ?_
    ·have e0 : a.eval (.tmp 71) = .agg #[pv, bv, .int .i64 many] := (H.dep 0 71 (by kernel_rfl) rfl); have e1 : a.eval (.tmp 72) = .agg ((List.map (Value.int .u64) (Nfa.stepF s step (Nfa.itemsTo ps bs k 0))).toArray) := (H.dep 1 72 (by kernel_rfl) rfl); simp only [List.map_toArray, List.map_cons, List.map_nil, e0, e1]
    refine (Nfa.rclosed_calls pv bv many ps bs vs (Nfa.stepF s step (Nfa.itemsTo ps bs k 0)) _ (Nfa.stepF_good _ _ _) hvl (Eng.Reads.below Fpp_5 H.below) (fun k hk => Eng.Reads.below (Eng.Reads.below (hin k hk) bl5) H.below) (Eng.Reads.below Fbb_5 H.below) hL).mono ?_
    rintro e w'' ⟨rfl, hb⟩
    exact ⟨_, rfl, rfl, hb⟩
   ·exact absurd hlt (by decide)
  intro act34 w34 T
  have h6_34 := (T.rest 6 (by kernel_rfl)).trans h6_5
  have kg6_1_34 := (T.below.block _ lg6_1_5).trans kg6_1_5
  have h73_34 : act34.eval (.tmp 73) = .agg ((List.map (Value.int .u64) (Nfa.closeF (Nfa.stepF s step (Nfa.itemsTo ps bs k 0)) (Nfa.items ps bs))).toArray) := T.done 2 73 rfl rfl
  have d34 := T.defers.trans d5
  have bl34 := bl5.trans (T.below.mono bl5.size)
  clear T
  refine Eng.tail_arr rfl rfl rfl rfl h6_34 h73_34 kg6_1_34 (by rw [Nfa.cells_size ((Nfa.closeF_good (Nfa.stepF_good _ _ _) _).len)]; kernel_rfl) ((Nfa.cells_size ((Nfa.good0).len)).trans (Nfa.cells_size ((Nfa.closeF_good (Nfa.stepF_good _ _ _) _).len)).symm) (by first | exact Nfa.ones_u _ | simp [Value.oneCell']) fun w35 S => ?_
  have kg6_1_35 := S.new
  have bl35 := S.below bl34 og6_1
  clear S
  refine Eng.tail_nil ?_
  refine wp_ret ?_
  repeat (first | refine Eng.in_ret ?_ | refine Eng.then_ret ?_)
  obtain rfl : k = ps.length := by omega
  have kk : w35.heap[g6_1]? = some (.cells (List.map (Value.int .u64) (Nfa.step ps bs s step)).toArray 61 (0, 0)) := kg6_1_35.trans (by unfold Nfa.step; rw [Nfa.itemsTo_all])
  exact Eng.retc rfl d34 h6_34 kk Tryd.underlying61 rfl (by rw [Nfa.cells_size (Nfa.step_good _ _ _ _).len]; kernel_rfl) ⟨rfl, bl35⟩
end Go.Proofs.YthgafcaoibfchaaDoor.X
