/- Words and walks that the row of NfaLike needs: printed by programs, and plain laws. -/
import Derived.Test.YthgafcaoibfchaaDoorM7
namespace Go.Proofs.YthgafcaoibfchaaDoor.X
open Go.RowKit Go.Shelf Go.Proofs Go.Proofs.YthgafcaoibfchaaDoorW.PrintWords Go.Proofs.YthgafcaoibfchaaDoorW.PrintLast Go.Proofs.YthgafcaoibfchaaDoorW.PrintMore
set_option linter.unusedVariables false
set_option linter.unusedSimpArgs false
attribute [local go_sem] max2_int min2_int max_two min_two
set_option maxHeartbeats 4000000 in
set_option maxRecDepth 100000 in
theorem Nfa.step_calls (pv bv : Value) (many : Int) (ps : List (List Pth.Part)) (bs : List Int) (vs : List Value) (s : List Int) (step : ByteArray) (w : World) (hs : s.length = 8) (hvl : vs.length = ps.length) (hp : Eng.Reads w pv ps.length 1 vs) (hin : ∀ k, k < ps.length → Eng.Reads w (vs.getD k undef) (ps.getD k []).length 2 (Pth.cellsP (ps.getD k []))) (hb : Eng.Reads w bv bs.length 1 (Nfa.ints bs)) : Calls Tryd.prog 48 #[.agg #[pv, bv, .int .i64 many], .agg ((List.map (Value.int .u64) s).toArray), .string step] w fun e w' => e = .returned (.agg (List.map (Value.int .u64) (Nfa.step ps bs s step)).toArray) ∧ Below w.heap.size w w' := by
  have hu115 := Tryd.underlying115
  refine Eng.enterM (n := 0) Tryd.func48 rfl fun act0 d0 s0 v0 => ?_
  have s0 : act0.tmps.size = 39 := s0
  have h0_0 : act0.eval (.tmp 0) = .agg #[pv, bv, .int .i64 many] := v0 0 (by simp)
  have h1_0 : act0.eval (.tmp 1) = .agg ((List.map (Value.int .u64) s).toArray) := v0 1 (by simp)
  have h2_0 : act0.eval (.tmp 2) = .string step := v0 2 (by simp)
  clear v0
  have bl0 : Below w.heap.size w w := Below.refl _ _
  refine wp_seq ?_
  refine Eng.regionS (Eng.still [fun u_ => True, fun u_ => True, fun u_ => True, fun u_ => True]) (fun i => ([.alloc 65 #[pv, bv, .int .i64 many], .alloc 74 ((List.map (Value.int .u64) s).toArray), .alloc 9 #[.string step], .alloc 74 ((List.map (Value.int .u64) (List.replicate 8 0)).toArray)] : List Eng.Kind).getD i .plain) 4 0 39 s0 rfl (by kernel_rfl) (Eng.still_stable _) (Or.inr (Eng.still_any _)) ?_ ?_
  · refine Eng.Steps.cons (fun _ => ?_) (Eng.Steps.cons (fun _ => ?_) (Eng.Steps.cons (fun _ => ?_) (Eng.Steps.cons (fun _ => ?_) (Eng.Steps.nil))))
    · refine Eng.made rfl (by simp) rfl (fun a w' hd ho => ?_) (fun _ _ => trivial)
      exact Eng.run_box rfl ((ho 0 (by kernel_rfl)).trans h0_0)
    · refine Eng.made rfl (by simp) rfl (fun a w' hd ho => ?_) (fun _ _ => trivial)
      exact Eng.run_box rfl ((ho 1 (by kernel_rfl)).trans h1_0)
    · refine Eng.made rfl (by simp) rfl (fun a w' hd ho => ?_) (fun _ _ => trivial)
      exact Eng.run_box rfl ((ho 2 (by kernel_rfl)).trans h2_0)
    · refine Eng.made rfl (by simp) rfl (fun a w' hd ho => ?_) (fun _ _ => trivial)
      exact Eng.run_alloc rfl (by kernel_rfl)
  intro act1 w1 T
  have h0_1 : act1.eval (.tmp 0) = .agg #[pv, bv, .int .i64 many] := (T.rest 0 (by kernel_rfl)).trans h0_0
  have h1_1 : act1.eval (.tmp 1) = .agg ((List.map (Value.int .u64) s).toArray) := (T.rest 1 (by kernel_rfl)).trans h1_0
  have h2_1 : act1.eval (.tmp 2) = .string step := (T.rest 2 (by kernel_rfl)).trans h2_0
  have Fpp_1 := Eng.Reads.below hp T.below
  have Fbb_1 := Eng.Reads.below hb T.below
  obtain ⟨g3_1, h3_1, rg3_1, lg3_1_1, kg3_1_1⟩ := T.al 0 3 _ _ rfl rfl rfl (by kernel_rfl)
  have og3_1 : w.heap.size ≤ g3_1 := Nat.le_trans bl0.size rg3_1
  obtain ⟨g4_1, h4_1, rg4_1, lg4_1_1, kg4_1_1⟩ := T.al 1 4 _ _ rfl rfl rfl (by kernel_rfl)
  have og4_1 : w.heap.size ≤ g4_1 := Nat.le_trans bl0.size rg4_1
  obtain ⟨g5_1, h5_1, rg5_1, lg5_1_1, kg5_1_1⟩ := T.al 2 5 _ _ rfl rfl rfl (by kernel_rfl)
  have og5_1 : w.heap.size ≤ g5_1 := Nat.le_trans bl0.size rg5_1
  obtain ⟨g6_1, h6_1, rg6_1, lg6_1_1, kg6_1_1⟩ := T.al 3 6 _ _ rfl rfl rfl (by kernel_rfl)
  have og6_1 : w.heap.size ≤ g6_1 := Nat.le_trans bl0.size rg6_1
  have ne_g6_1_g3_1 : g3_1 ≠ g6_1 := T.ne 0 3 3 6 rfl rfl rfl rfl rfl rfl h3_1 h6_1 rfl
  have ne_g6_1_g4_1 : g4_1 ≠ g6_1 := T.ne 1 3 4 6 rfl rfl rfl rfl rfl rfl h4_1 h6_1 rfl
  have ne_g6_1_g5_1 : g5_1 ≠ g6_1 := T.ne 2 3 5 6 rfl rfl rfl rfl rfl rfl h5_1 h6_1 rfl
  have d1 := T.defers.trans d0
  have s1 := T.size.trans s0
  have bl1 := bl0.trans (T.below.mono bl0.size)
  clear T
  refine Eng.tail_nil ?_
  first | show Code.wp Tryd.prog _ _ _ _ | skip
  refine wp_seq ?_
  refine wp_seq ?_
  refine (wpIn_wide (n := 1)).1 ?_
  refine EngI.regionS EngI.free_wide (Eng.still [fun u_ => u_ = .agg #[pv, bv, .int .i64 many]]) (fun i => ([.plain] : List Eng.Kind).getD i .plain) 1 1 39 s1 rfl (by kernel_rfl) (Eng.still_stable _) (Or.inr (Eng.still_any _)) (by kernel_rfl) ?_ ?_
  · refine Eng.Steps.cons (fun _ => ?_) (Eng.Steps.cons (fun hlt => ?_) (Eng.Steps.nil))
    · refine Eng.plain rfl rfl fun a w' H => ?_
      have kb := (H.below.block _ lg3_1_1).trans kg3_1_1
      have z0 : w'.cell? ⟨g3_1, 0, none⟩ = some (pv) := (Eng.cells kb 0).trans rfl
      have z1 : w'.cell? ⟨g3_1, 1, none⟩ = some (bv) := (Eng.cells kb 1).trans rfl
      have z2 : w'.cell? ⟨g3_1, 2, none⟩ = some (.int .i64 many) := (Eng.cells kb 2).trans rfl
      refine Eng.val (w1 := w') (v := .agg #[pv, bv, .int .i64 many]) ?_ (Below.refl _ _) rfl
      have e0 : a.eval (.tmp 3) = .pointer (some ⟨g3_1, 0, none⟩) := ((H.kept 3 (by kernel_rfl)).trans h3_1)
      simp only [execOp, resolve, List.map_toArray, List.map_cons, List.map_nil, e0]
      go_simp
      all_goals first | rfl | (simp; done) | (rw [Bool.eq_iff_iff]; simp; done) | omega | skip
    · exact absurd hlt (by decide)
  intro act2 w2 T
  have h0_2 : act2.eval (.tmp 0) = .agg #[pv, bv, .int .i64 many] := (T.rest 0 (by kernel_rfl)).trans h0_1
  have h1_2 : act2.eval (.tmp 1) = .agg ((List.map (Value.int .u64) s).toArray) := (T.rest 1 (by kernel_rfl)).trans h1_1
  have h2_2 : act2.eval (.tmp 2) = .string step := (T.rest 2 (by kernel_rfl)).trans h2_1
  have h3_2 : act2.eval (.tmp 3) = .pointer (some ⟨g3_1, 0, none⟩) := (T.rest 3 (by kernel_rfl)).trans h3_1
  have h4_2 : act2.eval (.tmp 4) = .pointer (some ⟨g4_1, 0, none⟩) := (T.rest 4 (by kernel_rfl)).trans h4_1
  have h5_2 : act2.eval (.tmp 5) = .pointer (some ⟨g5_1, 0, none⟩) := (T.rest 5 (by kernel_rfl)).trans h5_1
  have h6_2 : act2.eval (.tmp 6) = .pointer (some ⟨g6_1, 0, none⟩) := (T.rest 6 (by kernel_rfl)).trans h6_1
  have kg3_1_2 := (T.below.block _ lg3_1_1).trans kg3_1_1
  have lg3_1_2 := Nat.lt_of_lt_of_le lg3_1_1 T.below.size
  have kg4_1_2 := (T.below.block _ lg4_1_1).trans kg4_1_1
  have lg4_1_2 := Nat.lt_of_lt_of_le lg4_1_1 T.below.size
  have kg5_1_2 := (T.below.block _ lg5_1_1).trans kg5_1_1
  have lg5_1_2 := Nat.lt_of_lt_of_le lg5_1_1 T.below.size
  have kg6_1_2 := (T.below.block _ lg6_1_1).trans kg6_1_1
  have lg6_1_2 := Nat.lt_of_lt_of_le lg6_1_1 T.below.size
  have Fpp_2 := Eng.Reads.below Fpp_1 T.below
  have Fbb_2 := Eng.Reads.below Fbb_1 T.below
  have h9_2 : act2.eval (.tmp 9) = .agg #[pv, bv, .int .i64 many] := T.done 0 9 rfl rfl
  have d2 := T.defers.trans d1
  have s2 := T.size.trans s1
  have bl2 := bl1.trans (T.below.mono bl1.size)
  clear T
  refine EngI.tail_call EngI.free_wide Tryd.func89 (by kernel_rfl) (by kernel_rfl) rfl rfl rfl rfl #[.agg #[pv, bv, .int .i64 many]] (by have e0 : act2.eval (.tmp 9) = .agg #[pv, bv, .int .i64 many] := h9_2; simp only [List.map_toArray, List.map_cons, List.map_nil, e0]) s2 rfl (R := fun v w' => ∃ bt, v = .func (.func 116) #[] #[.pointer (some ⟨bt, 0, none⟩)] ∧ w2.heap.size ≤ bt ∧ bt < w'.heap.size ∧ w'.heap[bt]? = some (.cells #[pv, bv, .int .i64 many] 65 (0, 0)) ∧ Below w2.heap.size w2 w') ((Nfa.parts_calls pv bv many _).mono ?_) fun v_3 w3 act3 R d3 s3 hv hr => ?_
  · rintro e w1 ⟨bt, rfl, h1, h2, h3, h4⟩; exact ⟨_, rfl, bt, rfl, h1, h2, h3, h4⟩
  have h0_3 : act3.eval (.tmp 0) = .agg #[pv, bv, .int .i64 many] := (hr 0 rfl).trans h0_2
  have h1_3 : act3.eval (.tmp 1) = .agg ((List.map (Value.int .u64) s).toArray) := (hr 1 rfl).trans h1_2
  have h2_3 : act3.eval (.tmp 2) = .string step := (hr 2 rfl).trans h2_2
  have h3_3 : act3.eval (.tmp 3) = .pointer (some ⟨g3_1, 0, none⟩) := (hr 3 rfl).trans h3_2
  have h4_3 : act3.eval (.tmp 4) = .pointer (some ⟨g4_1, 0, none⟩) := (hr 4 rfl).trans h4_2
  have h5_3 : act3.eval (.tmp 5) = .pointer (some ⟨g5_1, 0, none⟩) := (hr 5 rfl).trans h5_2
  have h6_3 : act3.eval (.tmp 6) = .pointer (some ⟨g6_1, 0, none⟩) := (hr 6 rfl).trans h6_2
  have h9_3 : act3.eval (.tmp 9) = .agg #[pv, bv, .int .i64 many] := (hr 9 rfl).trans h9_2
  have h10_3 : act3.eval (.tmp 10) = v_3 := hv
  have d3 := d3.trans d2
  clear hv hr
  obtain ⟨bt, hv1, hlo, hlt, hbt, hb3⟩ := R
  rw [hv1] at h10_3
  have kg3_1_3 := (hb3.block _ lg3_1_2).trans kg3_1_2
  have lg3_1_3 := Nat.lt_of_lt_of_le lg3_1_2 hb3.size
  have ne_bt_g3_1 : g3_1 ≠ bt := fun e => Nat.lt_irrefl _ (Nat.lt_of_lt_of_le (e ▸ lg3_1_2) hlo)
  have kg4_1_3 := (hb3.block _ lg4_1_2).trans kg4_1_2
  have lg4_1_3 := Nat.lt_of_lt_of_le lg4_1_2 hb3.size
  have ne_bt_g4_1 : g4_1 ≠ bt := fun e => Nat.lt_irrefl _ (Nat.lt_of_lt_of_le (e ▸ lg4_1_2) hlo)
  have kg5_1_3 := (hb3.block _ lg5_1_2).trans kg5_1_2
  have lg5_1_3 := Nat.lt_of_lt_of_le lg5_1_2 hb3.size
  have ne_bt_g5_1 : g5_1 ≠ bt := fun e => Nat.lt_irrefl _ (Nat.lt_of_lt_of_le (e ▸ lg5_1_2) hlo)
  have kg6_1_3 := (hb3.block _ lg6_1_2).trans kg6_1_2
  have lg6_1_3 := Nat.lt_of_lt_of_le lg6_1_2 hb3.size
  have ne_bt_g6_1 : g6_1 ≠ bt := fun e => Nat.lt_irrefl _ (Nat.lt_of_lt_of_le (e ▸ lg6_1_2) hlo)
  have bl3 := bl2.trans (hb3.mono bl2.size)
  have obt : w.heap.size ≤ bt := Nat.le_trans bl2.size hlo
  have Fpp_3 := Eng.Reads.below hp bl3
  have Fbb_3 := Eng.Reads.below hb bl3
  refine EngI.tail_nil ?_
  first | show Code.wp Tryd.prog _ _ _ _ | skip
  refine wp_block ?_
  refine Eng.range_rule (n := 0) (m := 0) (Nfa.items ps bs) Nfa.enc (fun pre W_ => Below w.heap.size w W_ ∧ W_.heap[g3_1]? = some (.cells (#[pv, bv, .int .i64 many]) 65 (0, 0)) ∧ W_.heap[g4_1]? = some (.cells ((List.map (Value.int .u64) s).toArray) 74 (0, 0)) ∧ W_.heap[g5_1]? = some (.cells (#[.string step]) 9 (0, 0)) ∧ W_.heap[g6_1]? = some (.cells ((List.map (Value.int .u64) (Nfa.stepF s step pre)).toArray) 74 (0, 0)) ∧ W_.heap[bt]? = some (.cells (#[pv, bv, .int .i64 many]) 65 (0, 0))) h10_3 (Eng.enters Tryd.func116 (by kernel_rfl) rfl) (fun _ => rfl) ?_ ?_ ?_ ?_ ?_
  · exact ⟨bl3, kg3_1_3, kg4_1_3, kg5_1_3, kg6_1_3, hbt⟩
  · rintro pre W1 W2 ⟨b, k0, k1, k2, k3, k4⟩ hb; exact ⟨b.trans (hb.mono bl3.size), (hb.block _ lg3_1_3).trans k0, (hb.block _ lg4_1_3).trans k1, (hb.block _ lg5_1_3).trans k2, (hb.block _ lg6_1_3).trans k3, (hb.block _ hlt).trans k4⟩
  · exact fun lp K hK hKJ hY W0 h0 => Nfa.parts_in 0 lp bt w pv bv many ps bs vs hvl hp hin hb K hK (fun pre W h => ⟨(hKJ _ _ h).1, (hKJ _ _ h).2.2.2.2.2⟩) hY W0 h0
  ·
    rintro pre x w5 lp act5 hpre ⟨bl5, kg3_1_5, kg4_1_5, kg5_1_5, kg6_1_5, kbt_5⟩ hV5 hl5 d5 ht
    obtain ⟨s5, h11_5, h12_5, hr⟩ := Eng.range_act2 (v0 := .int .i64 x.1) (v1 := .agg #[.int .i64 x.2.1, .string x.2.2]) ht s3 rfl rfl rfl
    have h0_5 : act5.eval (.tmp 0) = .agg #[pv, bv, .int .i64 many] := (hr 0 rfl).trans h0_3
    have h1_5 : act5.eval (.tmp 1) = .agg ((List.map (Value.int .u64) s).toArray) := (hr 1 rfl).trans h1_3
    have h2_5 : act5.eval (.tmp 2) = .string step := (hr 2 rfl).trans h2_3
    have h3_5 : act5.eval (.tmp 3) = .pointer (some ⟨g3_1, 0, none⟩) := (hr 3 rfl).trans h3_3
    have h4_5 : act5.eval (.tmp 4) = .pointer (some ⟨g4_1, 0, none⟩) := (hr 4 rfl).trans h4_3
    have h5_5 : act5.eval (.tmp 5) = .pointer (some ⟨g5_1, 0, none⟩) := (hr 5 rfl).trans h5_3
    have h6_5 : act5.eval (.tmp 6) = .pointer (some ⟨g6_1, 0, none⟩) := (hr 6 rfl).trans h6_3
    have h9_5 : act5.eval (.tmp 9) = .agg #[pv, bv, .int .i64 many] := (hr 9 rfl).trans h9_3
    have h10_5 : act5.eval (.tmp 10) = .func (.func 116) #[] #[.pointer (some ⟨bt, 0, none⟩)] := (hr 10 rfl).trans h10_3
    clear hr ht
    have lg3_1_5 := (Array.getElem?_eq_some_iff.1 kg3_1_5).1
    have lg4_1_5 := (Array.getElem?_eq_some_iff.1 kg4_1_5).1
    have lg5_1_5 := (Array.getElem?_eq_some_iff.1 kg5_1_5).1
    have lg6_1_5 := (Array.getElem?_eq_some_iff.1 kg6_1_5).1
    have lbt_5 := (Array.getElem?_eq_some_iff.1 kbt_5).1
    have Fpp_5 := Eng.Reads.below hp bl5
    have Fbb_5 := Eng.Reads.below hb bl5
    have kp5 := Eng.Kept.refl w3.heap.size w5
    refine wpIn_seq ?_
    refine EngI.regionS (EngI.free_wide.inRound lp) (Eng.still [fun u_ => u_ = .int .i64 x.1]) (fun i => ([.plain] : List Eng.Kind).getD i .plain) 1 0 39 s5 rfl (by kernel_rfl) (Eng.still_stable _) (Or.inr (Eng.still_any _)) (by kernel_rfl) ?_ ?_
    · refine Eng.Steps.cons (fun _ => ?_) (Eng.Steps.nil)
      · refine Eng.plain rfl rfl fun a w' H => ?_
        exact Eng.val (w1 := w') (v := .int .i64 x.1) (Eng.run_assign rfl ((H.kept 11 (by kernel_rfl)).trans h11_5)) (Below.refl _ _) rfl
    intro act6 w6 T
    have h0_6 : act6.eval (.tmp 0) = .agg #[pv, bv, .int .i64 many] := (T.rest 0 (by kernel_rfl)).trans h0_5
    have h1_6 : act6.eval (.tmp 1) = .agg ((List.map (Value.int .u64) s).toArray) := (T.rest 1 (by kernel_rfl)).trans h1_5
    have h2_6 : act6.eval (.tmp 2) = .string step := (T.rest 2 (by kernel_rfl)).trans h2_5
    have h3_6 : act6.eval (.tmp 3) = .pointer (some ⟨g3_1, 0, none⟩) := (T.rest 3 (by kernel_rfl)).trans h3_5
    have h4_6 : act6.eval (.tmp 4) = .pointer (some ⟨g4_1, 0, none⟩) := (T.rest 4 (by kernel_rfl)).trans h4_5
    have h5_6 : act6.eval (.tmp 5) = .pointer (some ⟨g5_1, 0, none⟩) := (T.rest 5 (by kernel_rfl)).trans h5_5
    have h6_6 : act6.eval (.tmp 6) = .pointer (some ⟨g6_1, 0, none⟩) := (T.rest 6 (by kernel_rfl)).trans h6_5
    have h10_6 : act6.eval (.tmp 10) = .func (.func 116) #[] #[.pointer (some ⟨bt, 0, none⟩)] := (T.rest 10 (by kernel_rfl)).trans h10_5
    have h11_6 : act6.eval (.tmp 11) = .int .i64 x.1 := (T.rest 11 (by kernel_rfl)).trans h11_5
    have h12_6 : act6.eval (.tmp 12) = .agg #[.int .i64 x.2.1, .string x.2.2] := (T.rest 12 (by kernel_rfl)).trans h12_5
    have kg3_1_6 := (T.below.block _ lg3_1_5).trans kg3_1_5
    have lg3_1_6 := Nat.lt_of_lt_of_le lg3_1_5 T.below.size
    have kg4_1_6 := (T.below.block _ lg4_1_5).trans kg4_1_5
    have lg4_1_6 := Nat.lt_of_lt_of_le lg4_1_5 T.below.size
    have kg5_1_6 := (T.below.block _ lg5_1_5).trans kg5_1_5
    have lg5_1_6 := Nat.lt_of_lt_of_le lg5_1_5 T.below.size
    have kg6_1_6 := (T.below.block _ lg6_1_5).trans kg6_1_5
    have lg6_1_6 := Nat.lt_of_lt_of_le lg6_1_5 T.below.size
    have kbt_6 := (T.below.block _ lbt_5).trans kbt_5
    have lbt_6 := Nat.lt_of_lt_of_le lbt_5 T.below.size
    have Fpp_6 := Eng.Reads.below Fpp_5 T.below
    have Fbb_6 := Eng.Reads.below Fbb_5 T.below
    have h7_6 : act6.eval (.tmp 7) = .int .i64 x.1 := T.done 0 7 rfl rfl
    have d6 := T.defers.trans d5
    have s6 := T.size.trans s5
    have bl6 := bl5.trans (T.below.mono bl5.size)
    have kp6 := kp5.trans (Eng.Kept.below T.below)
    clear T
    refine EngI.tail_nil ?_
    first | show Code.wpIn _ _ Tryd.prog _ _ _ _ | skip
    refine EngI.regionS (EngI.free_wide.inRound lp) (Eng.still [fun u_ => True, fun u_ => True]) (fun i => ([.alloc 115 #[.int .i64 0, .string ⟨#[]⟩], .store 0 #[.int .i64 x.2.1, .string x.2.2]] : List Eng.Kind).getD i .plain) 2 0 39 s6 rfl (by kernel_rfl) (Eng.still_stable _) (Or.inr (Eng.still_any _)) (by kernel_rfl) ?_ ?_
    · refine Eng.Steps.cons (fun _ => ?_) (Eng.Steps.cons (fun _ => ?_) (Eng.Steps.nil))
      · refine Eng.made rfl (by simp) rfl (fun a w' hd ho => ?_) (fun _ _ => trivial)
        simp only [execOp]
        go_simp
      · refine Eng.stored [.int .i64 x.2.1, .string x.2.2] rfl rfl rfl (j := 0) (d := 8) (by kernel_rfl) rfl rfl (Eng.store_uniq (by kernel_rfl)) rfl rfl fun a w' g e hc hd ho => ?_
        have e0 : a.eval _ = .agg #[.int .i64 x.2.1, .string x.2.2] := ((ho 12 (by kernel_rfl)).trans h12_6)
        have z0 := (Eng.cells hc 0).trans rfl
        have z1 := (Eng.cells hc 1).trans rfl
        have f0 := Eng.unfrozen hc 0
        have f1 := Eng.unfrozen hc 1
        simp only [execOp, e, e0]
        go_simp
        rfl
    intro act7 w7 T
    have h0_7 : act7.eval (.tmp 0) = .agg #[pv, bv, .int .i64 many] := (T.rest 0 (by kernel_rfl)).trans h0_6
    have h1_7 : act7.eval (.tmp 1) = .agg ((List.map (Value.int .u64) s).toArray) := (T.rest 1 (by kernel_rfl)).trans h1_6
    have h2_7 : act7.eval (.tmp 2) = .string step := (T.rest 2 (by kernel_rfl)).trans h2_6
    have h3_7 : act7.eval (.tmp 3) = .pointer (some ⟨g3_1, 0, none⟩) := (T.rest 3 (by kernel_rfl)).trans h3_6
    have h4_7 : act7.eval (.tmp 4) = .pointer (some ⟨g4_1, 0, none⟩) := (T.rest 4 (by kernel_rfl)).trans h4_6
    have h5_7 : act7.eval (.tmp 5) = .pointer (some ⟨g5_1, 0, none⟩) := (T.rest 5 (by kernel_rfl)).trans h5_6
    have h6_7 : act7.eval (.tmp 6) = .pointer (some ⟨g6_1, 0, none⟩) := (T.rest 6 (by kernel_rfl)).trans h6_6
    have h7_7 : act7.eval (.tmp 7) = .int .i64 x.1 := (T.rest 7 (by kernel_rfl)).trans h7_6
    have h10_7 : act7.eval (.tmp 10) = .func (.func 116) #[] #[.pointer (some ⟨bt, 0, none⟩)] := (T.rest 10 (by kernel_rfl)).trans h10_6
    have h11_7 : act7.eval (.tmp 11) = .int .i64 x.1 := (T.rest 11 (by kernel_rfl)).trans h11_6
    have h12_7 : act7.eval (.tmp 12) = .agg #[.int .i64 x.2.1, .string x.2.2] := (T.rest 12 (by kernel_rfl)).trans h12_6
    have kg3_1_7 := (T.below.block _ lg3_1_6).trans kg3_1_6
    have lg3_1_7 := Nat.lt_of_lt_of_le lg3_1_6 T.below.size
    have kg4_1_7 := (T.below.block _ lg4_1_6).trans kg4_1_6
    have lg4_1_7 := Nat.lt_of_lt_of_le lg4_1_6 T.below.size
    have kg5_1_7 := (T.below.block _ lg5_1_6).trans kg5_1_6
    have lg5_1_7 := Nat.lt_of_lt_of_le lg5_1_6 T.below.size
    have kg6_1_7 := (T.below.block _ lg6_1_6).trans kg6_1_6
    have lg6_1_7 := Nat.lt_of_lt_of_le lg6_1_6 T.below.size
    have kbt_7 := (T.below.block _ lbt_6).trans kbt_6
    have lbt_7 := Nat.lt_of_lt_of_le lbt_6 T.below.size
    have Fpp_7 := Eng.Reads.below Fpp_6 T.below
    have Fbb_7 := Eng.Reads.below Fbb_6 T.below
    obtain ⟨g8_7, h8_7, rg8_7, lg8_7_7, kg8_7_7⟩ := T.st 0 8 1 _ _ _ rfl rfl rfl rfl rfl
    have og8_7 : w.heap.size ≤ g8_7 := Nat.le_trans bl6.size rg8_7
    have rrg8_7 := Nat.le_trans kp6.size rg8_7
    have ne_g8_7_g6_1 : g6_1 ≠ g8_7 := fun e => Nat.lt_irrefl _ (Nat.lt_of_lt_of_le (e ▸ lg6_1_6) rg8_7)
    have d7 := T.defers.trans d6
    have s7 := T.size.trans s6
    have bl7 := bl6.trans (T.below.mono bl6.size)
    have kp7 := kp6.trans (Eng.Kept.below T.below)
    clear T
    refine EngI.tail_nil ?_
    refine ⟨kp7, ⟨bl7, kg3_1_7, kg4_1_7, kg5_1_7, kg6_1_7, kbt_7⟩, ?_⟩
    rintro w8 hfar hsz hb2 ⟨bl8, kg3_1_8, kg4_1_8, kg5_1_8, kg6_1_8, kbt_8⟩
    have lg3_1_8 := (Array.getElem?_eq_some_iff.1 kg3_1_8).1
    have lg4_1_8 := (Array.getElem?_eq_some_iff.1 kg4_1_8).1
    have lg5_1_8 := (Array.getElem?_eq_some_iff.1 kg5_1_8).1
    have lg6_1_8 := (Array.getElem?_eq_some_iff.1 kg6_1_8).1
    have lbt_8 := (Array.getElem?_eq_some_iff.1 kbt_8).1
    have Fpp_8 := Eng.Reads.below hp bl8
    have Fbb_8 := Eng.Reads.below hb bl8
    have kg8_7_8 := (hfar _ (fun e => Nat.lt_irrefl _ (Nat.lt_of_lt_of_le (e ▸ hl5) rrg8_7))).trans kg8_7_7
    have lg8_7_8 := Nat.lt_of_lt_of_eq lg8_7_7 hsz.symm
    have kp8 := Eng.Kept.refl w3.heap.size w8
    clear hfar hb2
    refine wpIn_block ?_
    refine wpIn_seq ?_
    refine wpIn_seq ?_
    obtain ⟨q15, Bq15⟩ : ∃ b : Bool, b = (Nfa.has s x.1) := ⟨_, rfl⟩
    obtain ⟨q16, Bq16⟩ : ∃ b : Bool, b = (!q15) := ⟨_, rfl⟩
    refine EngI.regionS (EngI.free_wide.inRound lp) (Eng.still [fun u_ => u_ = .agg ((List.map (Value.int .u64) s).toArray), fun u_ => u_ = .int .i64 x.1, fun u_ => u_ = .bool q15, fun u_ => u_ = .bool q16]) (fun i => ([.plain, .plain, .plain, .plain] : List Eng.Kind).getD i .plain) 4 0 39 s7 rfl (by kernel_rfl) (Eng.still_stable _) (Or.inr (Eng.still_any _)) (by kernel_rfl) ?_ ?_
    · refine Eng.Steps.cons (fun _ => ?_) (Eng.Steps.cons (fun _ => ?_) (Eng.Steps.cons (fun _ => ?_) (Eng.Steps.cons (fun _ => ?_) (Eng.Steps.nil))))
      · refine Eng.plain rfl rfl fun a w' H => ?_
        have kb := (H.below.block _ lg4_1_8).trans kg4_1_8
        refine Eng.val (w1 := w') (v := .agg ((List.map (Value.int .u64) s).toArray)) ?_ (Below.refl _ _) rfl
        exact Eng.run_load_all rfl ((H.kept 4 (by kernel_rfl)).trans h4_7) kb Tryd.underlying74 rfl (by rw [Nfa.cells_size (hs)]; kernel_rfl)
      · refine Eng.plain rfl rfl fun a w' H => ?_
        exact Eng.val (w1 := w') (v := .int .i64 x.1) (Eng.run_move rfl ((H.kept 7 (by kernel_rfl)).trans h7_7)) (Below.refl _ _) rfl
      · refine Eng.plain rfl rfl fun a w' H => ?_
        refine Eng.call Tryd.func85 (by kernel_rfl) (by kernel_rfl) rfl #[.agg ((List.map (Value.int .u64) s).toArray), .int .i64 x.1] ?_ ?_
        · have e0 : a.eval (.tmp 13) = .agg ((List.map (Value.int .u64) s).toArray) := (H.dep 0 13 (by kernel_rfl) rfl); have e1 : a.eval (.tmp 14) = .int .i64 x.1 := (H.dep 1 14 (by kernel_rfl) rfl); simp only [List.map_toArray, List.map_cons, List.map_nil, e0, e1]
        refine (Nfa.has_calls s x.1 _ (hs)).mono ?_
        rintro e w'' ⟨rfl, hb⟩
        exact ⟨_, rfl, (by show _ = Value.bool q15; rw [Bq15]), hb⟩
      · refine Eng.plain rfl rfl fun a w' H => ?_
        exact Eng.val (w1 := w') (v := .bool (!q15)) (Eng.run_not rfl (H.dep 2 15 (by kernel_rfl) rfl)) (Below.refl _ _) (by show _ = Value.bool q16; rw [Bq16])
    intro act9 w9 T
    have h0_9 : act9.eval (.tmp 0) = .agg #[pv, bv, .int .i64 many] := (T.rest 0 (by kernel_rfl)).trans h0_7
    have h1_9 : act9.eval (.tmp 1) = .agg ((List.map (Value.int .u64) s).toArray) := (T.rest 1 (by kernel_rfl)).trans h1_7
    have h2_9 : act9.eval (.tmp 2) = .string step := (T.rest 2 (by kernel_rfl)).trans h2_7
    have h3_9 : act9.eval (.tmp 3) = .pointer (some ⟨g3_1, 0, none⟩) := (T.rest 3 (by kernel_rfl)).trans h3_7
    have h4_9 : act9.eval (.tmp 4) = .pointer (some ⟨g4_1, 0, none⟩) := (T.rest 4 (by kernel_rfl)).trans h4_7
    have h5_9 : act9.eval (.tmp 5) = .pointer (some ⟨g5_1, 0, none⟩) := (T.rest 5 (by kernel_rfl)).trans h5_7
    have h6_9 : act9.eval (.tmp 6) = .pointer (some ⟨g6_1, 0, none⟩) := (T.rest 6 (by kernel_rfl)).trans h6_7
    have h7_9 : act9.eval (.tmp 7) = .int .i64 x.1 := (T.rest 7 (by kernel_rfl)).trans h7_7
    have h8_9 : act9.eval (.tmp 8) = .pointer (some ⟨g8_7, 0, none⟩) := (T.rest 8 (by kernel_rfl)).trans h8_7
    have h10_9 : act9.eval (.tmp 10) = .func (.func 116) #[] #[.pointer (some ⟨bt, 0, none⟩)] := (T.rest 10 (by kernel_rfl)).trans h10_7
    have h11_9 : act9.eval (.tmp 11) = .int .i64 x.1 := (T.rest 11 (by kernel_rfl)).trans h11_7
    have h12_9 : act9.eval (.tmp 12) = .agg #[.int .i64 x.2.1, .string x.2.2] := (T.rest 12 (by kernel_rfl)).trans h12_7
    have kg3_1_9 := (T.below.block _ lg3_1_8).trans kg3_1_8
    have lg3_1_9 := Nat.lt_of_lt_of_le lg3_1_8 T.below.size
    have kg4_1_9 := (T.below.block _ lg4_1_8).trans kg4_1_8
    have lg4_1_9 := Nat.lt_of_lt_of_le lg4_1_8 T.below.size
    have kg5_1_9 := (T.below.block _ lg5_1_8).trans kg5_1_8
    have lg5_1_9 := Nat.lt_of_lt_of_le lg5_1_8 T.below.size
    have kg6_1_9 := (T.below.block _ lg6_1_8).trans kg6_1_8
    have lg6_1_9 := Nat.lt_of_lt_of_le lg6_1_8 T.below.size
    have kbt_9 := (T.below.block _ lbt_8).trans kbt_8
    have lbt_9 := Nat.lt_of_lt_of_le lbt_8 T.below.size
    have kg8_7_9 := (T.below.block _ lg8_7_8).trans kg8_7_8
    have lg8_7_9 := Nat.lt_of_lt_of_le lg8_7_8 T.below.size
    have Fpp_9 := Eng.Reads.below Fpp_8 T.below
    have Fbb_9 := Eng.Reads.below Fbb_8 T.below
    have h16_9 : act9.eval (.tmp 16) = .bool q16 := T.done 3 16 rfl rfl
    have d9 := T.defers.trans d7
    have s9 := T.size.trans s7
    have bl9 := bl8.trans (T.below.mono bl8.size)
    have kp9 := kp8.trans (Eng.Kept.below T.below)
    clear T
    refine EngI.tail_nil ?_
    first | show Code.wpIn _ _ Tryd.prog _ _ _ _ | skip
    refine wpIn_cond_split h16_9 (fun hq => ?_) (fun hq => ?_)
    ·
      have kn10 := hq
      have c16 := Bq16.symm.trans hq
      clear hq
      have hbx : (!Nfa.has s x.1) = true := by rw [Bq15] at c16; exact c16
      refine wpIn_exit ?_
      exact ⟨rfl, ⟨bl9, kg3_1_9, kg4_1_9, kg5_1_9, (kg6_1_9.trans (by rw [Nfa.stepF_snoc]; unfold Nfa.stepP; first | (rw [if_pos hbx]; done) | (rw [if_neg (by rw [hbx]; simp), if_pos c17]; done) | (rw [if_neg (by rw [hbx]; simp), if_neg (by rw [c17]; simp), if_pos c23]; done) | (rw [if_neg (by rw [hbx]; simp), if_neg (by rw [c17]; simp), if_neg (by rw [c23]; simp)]; done))), kbt_9⟩, kp9⟩
    ·
      have kn11 := hq
      have c16 := Bq16.symm.trans hq
      clear hq
      have hbx : (!Nfa.has s x.1) = false := by rw [Bq15] at c16; exact c16
      refine wpIn_skip ?_
      first | show Code.wpIn _ _ Tryd.prog _ _ _ _ | skip
      refine wpIn_block ?_
      refine wpIn_seq ?_
      obtain ⟨q20, Bq20⟩ : ∃ b : Bool, b = (x.2.1 == 2) := ⟨_, rfl⟩
      refine EngI.regionS (EngI.free_wide.inRound lp) (Eng.still [fun u_ => u_ = .pointer (some ⟨g8_7, 0, none⟩), fun u_ => u_ = .int .i64 x.2.1, fun u_ => u_ = .bool q20, fun u_ => u_ = .bool q20]) (fun i => ([.plain, .plain, .plain, .plain] : List Eng.Kind).getD i .plain) 4 0 39 s9 rfl (by kernel_rfl) (Eng.still_stable _) (Or.inr (Eng.still_any _)) (by kernel_rfl) ?_ ?_
      · refine Eng.Steps.cons (fun _ => ?_) (Eng.Steps.cons (fun _ => ?_) (Eng.Steps.cons (fun _ => ?_) (Eng.Steps.cons (fun _ => ?_) (Eng.Steps.nil))))
        · refine Eng.plain rfl rfl fun a w' H => ?_
          refine Eng.val (w1 := w') (v := .pointer (some ⟨g8_7, 0, none⟩)) ?_ (Below.refl _ _) rfl
          have e0 : a.eval (.tmp 8) = .pointer (some ⟨g8_7, 0, none⟩) := ((H.kept 8 (by kernel_rfl)).trans h8_9)
          simp only [execOp, resolve, List.map_toArray, List.map_cons, List.map_nil, e0]
          go_simp
          all_goals first | rfl | (simp; done) | (rw [Bool.eq_iff_iff]; simp; done) | omega | skip
        · refine Eng.plain rfl rfl fun a w' H => ?_
          have kb := (H.below.block _ lg8_7_9).trans kg8_7_9
          have z0 : w'.cell? ⟨g8_7, 0, none⟩ = some (.int .i64 x.2.1) := (Eng.cells kb 0).trans rfl
          refine Eng.val (w1 := w') (v := .int .i64 x.2.1) ?_ (Below.refl _ _) rfl
          have e0 : a.eval (.tmp 18) = .pointer (some ⟨g8_7, 0, none⟩) := (H.dep 0 18 (by kernel_rfl) rfl)
          simp only [execOp, resolve, List.map_toArray, List.map_cons, List.map_nil, e0]
          go_simp
          all_goals first | rfl | (simp; done) | (rw [Bool.eq_iff_iff]; simp; done) | omega | skip
        · refine Eng.plain rfl rfl fun a w' H => ?_
          refine Eng.val (w1 := w') (v := .bool (x.2.1 == 2)) ?_ (Below.refl _ _) (by show _ = Value.bool q20; rw [Bq20])
          have e0 : a.eval (.tmp 19) = .int .i64 x.2.1 := (H.dep 1 19 (by kernel_rfl) rfl)
          have e1 : a.eval (.const (.int .i64 2)) = .int .i64 2 := (rfl : a.eval (.const (.int .i64 2)) = .int .i64 2)
          simp only [execOp, resolve, List.map_toArray, List.map_cons, List.map_nil, e0, e1]
          go_simp
          all_goals first | rfl | (simp; done) | (rw [Bool.eq_iff_iff]; simp; done) | omega | skip
        · refine Eng.plain rfl rfl fun a w' H => ?_
          exact Eng.val (w1 := w') (v := .bool q20) (Eng.run_assign rfl (H.dep 2 20 (by kernel_rfl) rfl)) (Below.refl _ _) rfl
      intro act12 w12 T
      have h0_12 : act12.eval (.tmp 0) = .agg #[pv, bv, .int .i64 many] := (T.rest 0 (by kernel_rfl)).trans h0_9
      have h1_12 : act12.eval (.tmp 1) = .agg ((List.map (Value.int .u64) s).toArray) := (T.rest 1 (by kernel_rfl)).trans h1_9
      have h2_12 : act12.eval (.tmp 2) = .string step := (T.rest 2 (by kernel_rfl)).trans h2_9
      have h3_12 : act12.eval (.tmp 3) = .pointer (some ⟨g3_1, 0, none⟩) := (T.rest 3 (by kernel_rfl)).trans h3_9
      have h4_12 : act12.eval (.tmp 4) = .pointer (some ⟨g4_1, 0, none⟩) := (T.rest 4 (by kernel_rfl)).trans h4_9
      have h5_12 : act12.eval (.tmp 5) = .pointer (some ⟨g5_1, 0, none⟩) := (T.rest 5 (by kernel_rfl)).trans h5_9
      have h6_12 : act12.eval (.tmp 6) = .pointer (some ⟨g6_1, 0, none⟩) := (T.rest 6 (by kernel_rfl)).trans h6_9
      have h7_12 : act12.eval (.tmp 7) = .int .i64 x.1 := (T.rest 7 (by kernel_rfl)).trans h7_9
      have h8_12 : act12.eval (.tmp 8) = .pointer (some ⟨g8_7, 0, none⟩) := (T.rest 8 (by kernel_rfl)).trans h8_9
      have h10_12 : act12.eval (.tmp 10) = .func (.func 116) #[] #[.pointer (some ⟨bt, 0, none⟩)] := (T.rest 10 (by kernel_rfl)).trans h10_9
      have h11_12 : act12.eval (.tmp 11) = .int .i64 x.1 := (T.rest 11 (by kernel_rfl)).trans h11_9
      have h12_12 : act12.eval (.tmp 12) = .agg #[.int .i64 x.2.1, .string x.2.2] := (T.rest 12 (by kernel_rfl)).trans h12_9
      have h16_12 : act12.eval (.tmp 16) = .bool q16 := (T.rest 16 (by kernel_rfl)).trans h16_9
      have kg3_1_12 := (T.below.block _ lg3_1_9).trans kg3_1_9
      have lg3_1_12 := Nat.lt_of_lt_of_le lg3_1_9 T.below.size
      have kg4_1_12 := (T.below.block _ lg4_1_9).trans kg4_1_9
      have lg4_1_12 := Nat.lt_of_lt_of_le lg4_1_9 T.below.size
      have kg5_1_12 := (T.below.block _ lg5_1_9).trans kg5_1_9
      have lg5_1_12 := Nat.lt_of_lt_of_le lg5_1_9 T.below.size
      have kg6_1_12 := (T.below.block _ lg6_1_9).trans kg6_1_9
      have lg6_1_12 := Nat.lt_of_lt_of_le lg6_1_9 T.below.size
      have kbt_12 := (T.below.block _ lbt_9).trans kbt_9
      have lbt_12 := Nat.lt_of_lt_of_le lbt_9 T.below.size
      have kg8_7_12 := (T.below.block _ lg8_7_9).trans kg8_7_9
      have lg8_7_12 := Nat.lt_of_lt_of_le lg8_7_9 T.below.size
      have Fpp_12 := Eng.Reads.below Fpp_9 T.below
      have Fbb_12 := Eng.Reads.below Fbb_9 T.below
      have h17_12 : act12.eval (.tmp 17) = .bool q20 := T.done 3 17 rfl rfl
      have d12 := T.defers.trans d9
      have s12 := T.size.trans s9
      have bl12 := bl9.trans (T.below.mono bl9.size)
      have kp12 := kp9.trans (Eng.Kept.below T.below)
      clear T
      refine EngI.tail_nil ?_
      first | show Code.wpIn _ _ Tryd.prog _ _ _ _ | skip
      refine wpIn_cond_split h17_12 (fun hq => ?_) (fun hq => ?_)
      ·
        have kn13 := hq
        have c17 := Bq20.symm.trans hq
        clear hq
        refine EngI.regionS (EngI.free_wide.inRound lp) (Eng.still [fun u_ => u_ = .int .i64 x.1]) (fun i => ([.plain] : List Eng.Kind).getD i .plain) 1 1 39 s12 rfl (by kernel_rfl) (Eng.still_stable _) (Or.inr (Eng.still_any _)) (by kernel_rfl) ?_ ?_
        · refine Eng.Steps.cons (fun _ => ?_) (Eng.Steps.cons (fun hlt => ?_) (Eng.Steps.nil))
          · refine Eng.plain rfl rfl fun a w' H => ?_
            exact Eng.val (w1 := w') (v := .int .i64 x.1) (Eng.run_move rfl ((H.kept 7 (by kernel_rfl)).trans h7_12)) (Below.refl _ _) rfl
          · exact absurd hlt (by decide)
        intro act14 w14 T
        have h0_14 : act14.eval (.tmp 0) = .agg #[pv, bv, .int .i64 many] := (T.rest 0 (by kernel_rfl)).trans h0_12
        have h1_14 : act14.eval (.tmp 1) = .agg ((List.map (Value.int .u64) s).toArray) := (T.rest 1 (by kernel_rfl)).trans h1_12
        have h2_14 : act14.eval (.tmp 2) = .string step := (T.rest 2 (by kernel_rfl)).trans h2_12
        have h3_14 : act14.eval (.tmp 3) = .pointer (some ⟨g3_1, 0, none⟩) := (T.rest 3 (by kernel_rfl)).trans h3_12
        have h4_14 : act14.eval (.tmp 4) = .pointer (some ⟨g4_1, 0, none⟩) := (T.rest 4 (by kernel_rfl)).trans h4_12
        have h5_14 : act14.eval (.tmp 5) = .pointer (some ⟨g5_1, 0, none⟩) := (T.rest 5 (by kernel_rfl)).trans h5_12
        have h6_14 : act14.eval (.tmp 6) = .pointer (some ⟨g6_1, 0, none⟩) := (T.rest 6 (by kernel_rfl)).trans h6_12
        have h7_14 : act14.eval (.tmp 7) = .int .i64 x.1 := (T.rest 7 (by kernel_rfl)).trans h7_12
        have h8_14 : act14.eval (.tmp 8) = .pointer (some ⟨g8_7, 0, none⟩) := (T.rest 8 (by kernel_rfl)).trans h8_12
        have h10_14 : act14.eval (.tmp 10) = .func (.func 116) #[] #[.pointer (some ⟨bt, 0, none⟩)] := (T.rest 10 (by kernel_rfl)).trans h10_12
        have h11_14 : act14.eval (.tmp 11) = .int .i64 x.1 := (T.rest 11 (by kernel_rfl)).trans h11_12
        have h12_14 : act14.eval (.tmp 12) = .agg #[.int .i64 x.2.1, .string x.2.2] := (T.rest 12 (by kernel_rfl)).trans h12_12
        have h16_14 : act14.eval (.tmp 16) = .bool q16 := (T.rest 16 (by kernel_rfl)).trans h16_12
        have h17_14 : act14.eval (.tmp 17) = .bool q20 := (T.rest 17 (by kernel_rfl)).trans h17_12
        have kg3_1_14 := (T.below.block _ lg3_1_12).trans kg3_1_12
        have lg3_1_14 := Nat.lt_of_lt_of_le lg3_1_12 T.below.size
        have kg4_1_14 := (T.below.block _ lg4_1_12).trans kg4_1_12
        have lg4_1_14 := Nat.lt_of_lt_of_le lg4_1_12 T.below.size
        have kg5_1_14 := (T.below.block _ lg5_1_12).trans kg5_1_12
        have lg5_1_14 := Nat.lt_of_lt_of_le lg5_1_12 T.below.size
        have kg6_1_14 := (T.below.block _ lg6_1_12).trans kg6_1_12
        have lg6_1_14 := Nat.lt_of_lt_of_le lg6_1_12 T.below.size
        have kbt_14 := (T.below.block _ lbt_12).trans kbt_12
        have lbt_14 := Nat.lt_of_lt_of_le lbt_12 T.below.size
        have kg8_7_14 := (T.below.block _ lg8_7_12).trans kg8_7_12
        have lg8_7_14 := Nat.lt_of_lt_of_le lg8_7_12 T.below.size
        have Fpp_14 := Eng.Reads.below Fpp_12 T.below
        have Fbb_14 := Eng.Reads.below Fbb_12 T.below
        have h21_14 : act14.eval (.tmp 21) = .int .i64 x.1 := T.done 0 21 rfl rfl
        have d14 := T.defers.trans d12
        have s14 := T.size.trans s12
        have bl14 := bl12.trans (T.below.mono bl12.size)
        have kp14 := kp12.trans (Eng.Kept.below T.below)
        clear T
        refine EngI.tail_call (EngI.free_wide.inRound lp) Tryd.func90 (by kernel_rfl) (by kernel_rfl) rfl rfl rfl rfl #[.pointer (some ⟨g6_1, 0, none⟩), .int .i64 x.1] (by have e0 : act14.eval (.tmp 6) = .pointer (some ⟨g6_1, 0, none⟩) := h6_14; have e1 : act14.eval (.tmp 21) = .int .i64 x.1 := h21_14; simp only [List.map_toArray, List.map_cons, List.map_nil, e0, e1]) s14 rfl (R := fun _ w' => Eng.Turns w14 w' g6_1 (.cells ((List.map (Value.int .u64) (Nfa.put (Nfa.stepF s step pre) x.1)).toArray) 74 (0, 0))) ((Nfa.put_calls g6_1 (Nfa.stepF s step pre) x.1 _ (Nfa.stepF_len _ _ _) kg6_1_14).mono ?_) fun v_15 w15 act15 R d15 s15 hv hr => ?_
        · rintro e w1 ⟨v, rfl, R⟩; exact ⟨v, rfl, R⟩
        have h0_15 : act15.eval (.tmp 0) = .agg #[pv, bv, .int .i64 many] := (hr 0 rfl).trans h0_14
        have h1_15 : act15.eval (.tmp 1) = .agg ((List.map (Value.int .u64) s).toArray) := (hr 1 rfl).trans h1_14
        have h2_15 : act15.eval (.tmp 2) = .string step := (hr 2 rfl).trans h2_14
        have h3_15 : act15.eval (.tmp 3) = .pointer (some ⟨g3_1, 0, none⟩) := (hr 3 rfl).trans h3_14
        have h4_15 : act15.eval (.tmp 4) = .pointer (some ⟨g4_1, 0, none⟩) := (hr 4 rfl).trans h4_14
        have h5_15 : act15.eval (.tmp 5) = .pointer (some ⟨g5_1, 0, none⟩) := (hr 5 rfl).trans h5_14
        have h6_15 : act15.eval (.tmp 6) = .pointer (some ⟨g6_1, 0, none⟩) := (hr 6 rfl).trans h6_14
        have h7_15 : act15.eval (.tmp 7) = .int .i64 x.1 := (hr 7 rfl).trans h7_14
        have h8_15 : act15.eval (.tmp 8) = .pointer (some ⟨g8_7, 0, none⟩) := (hr 8 rfl).trans h8_14
        have h10_15 : act15.eval (.tmp 10) = .func (.func 116) #[] #[.pointer (some ⟨bt, 0, none⟩)] := (hr 10 rfl).trans h10_14
        have h11_15 : act15.eval (.tmp 11) = .int .i64 x.1 := (hr 11 rfl).trans h11_14
        have h12_15 : act15.eval (.tmp 12) = .agg #[.int .i64 x.2.1, .string x.2.2] := (hr 12 rfl).trans h12_14
        have h16_15 : act15.eval (.tmp 16) = .bool q16 := (hr 16 rfl).trans h16_14
        have h17_15 : act15.eval (.tmp 17) = .bool q20 := (hr 17 rfl).trans h17_14
        have h21_15 : act15.eval (.tmp 21) = .int .i64 x.1 := (hr 21 rfl).trans h21_14
        have h22_15 : act15.eval (.tmp 22) = v_15 := hv
        have d15 := d15.trans d14
        clear hv hr
        have bl15 := Eng.Turns.below R bl14 og6_1 (Nat.le_refl _)
        have kp15 := kp14.trans (Eng.Turns.kept R lg6_1_3)
        have kg3_1_15 := (R.far _ ne_g6_1_g3_1 lg3_1_14).trans kg3_1_14
        have lg3_1_15 := Nat.lt_of_lt_of_le lg3_1_14 R.size
        have kg4_1_15 := (R.far _ ne_g6_1_g4_1 lg4_1_14).trans kg4_1_14
        have lg4_1_15 := Nat.lt_of_lt_of_le lg4_1_14 R.size
        have kg5_1_15 := (R.far _ ne_g6_1_g5_1 lg5_1_14).trans kg5_1_14
        have lg5_1_15 := Nat.lt_of_lt_of_le lg5_1_14 R.size
        have kg6_1_15 := R.new
        have lg6_1_15 := Nat.lt_of_lt_of_le lg6_1_14 R.size
        have kbt_15 := (R.far _ ne_bt_g6_1.symm lbt_14).trans kbt_14
        have lbt_15 := Nat.lt_of_lt_of_le lbt_14 R.size
        have kg8_7_15 := (R.far _ ne_g8_7_g6_1.symm lg8_7_14).trans kg8_7_14
        have lg8_7_15 := Nat.lt_of_lt_of_le lg8_7_14 R.size
        have Fpp_15 := Eng.Reads.below hp bl15
        have Fbb_15 := Eng.Reads.below hb bl15
        clear R
        refine EngI.tail_nil ?_
        exact ⟨rfl, ⟨bl15, kg3_1_15, kg4_1_15, kg5_1_15, (kg6_1_15.trans (by rw [Nfa.stepF_snoc]; unfold Nfa.stepP; first | (rw [if_pos hbx]; done) | (rw [if_neg (by rw [hbx]; simp), if_pos c17]; done) | (rw [if_neg (by rw [hbx]; simp), if_neg (by rw [c17]; simp), if_pos c23]; done) | (rw [if_neg (by rw [hbx]; simp), if_neg (by rw [c17]; simp), if_neg (by rw [c23]; simp)]; done))), kbt_15⟩, kp15⟩
      ·
        have kn16 := hq
        have c17 := Bq20.symm.trans hq
        clear hq
        refine wpIn_seq ?_
        obtain ⟨q26, Bq26⟩ : ∃ b : Bool, b = (x.2.1 == 1) := ⟨_, rfl⟩
        obtain ⟨q31, Bq31⟩ : ∃ b : Bool, b = (x.2.2.toList == step.toList) := ⟨_, rfl⟩
        obtain ⟨q32, Bq32⟩ : ∃ b : Bool, b = (q26 || q31) := ⟨_, rfl⟩
        refine EngI.regionS (EngI.free_wide.inRound lp) (Eng.still [fun u_ => u_ = .pointer (some ⟨g8_7, 0, none⟩), fun u_ => u_ = .int .i64 x.2.1, fun u_ => u_ = .bool q26, fun u_ => u_ = .bool q26, fun u_ => u_ = bif (q26 == false) then (.pointer (some ⟨g8_7, 1, none⟩)) else undef, fun u_ => u_ = bif (q26 == false) then (.string x.2.2) else undef, fun u_ => u_ = bif (q26 == false) then (.string step) else undef, fun u_ => u_ = bif (q26 == false) then (.bool q31) else undef, fun u_ => u_ = .bool q32, fun u_ => u_ = .bool q32]) (fun i => ([.plain, .plain, .plain, .plain, .plain, .plain, .plain, .plain, .plain, .plain] : List Eng.Kind).getD i .plain) 10 0 39 s12 rfl (by kernel_rfl) (Eng.still_stable _) (Or.inr (Eng.still_any _)) (by kernel_rfl) ?_ ?_
        · refine Eng.Steps.cons (fun _ => ?_) (Eng.Steps.cons (fun _ => ?_) (Eng.Steps.cons (fun _ => ?_) (Eng.Steps.cons (fun _ => ?_) (Eng.Steps.cons (fun _ => ?_) (Eng.Steps.cons (fun _ => ?_) (Eng.Steps.cons (fun _ => ?_) (Eng.Steps.cons (fun _ => ?_) (Eng.Steps.cons (fun _ => ?_) (Eng.Steps.cons (fun _ => ?_) (Eng.Steps.nil))))))))))
          · refine Eng.plain rfl rfl fun a w' H => ?_
            refine Eng.val (w1 := w') (v := .pointer (some ⟨g8_7, 0, none⟩)) ?_ (Below.refl _ _) rfl
            have e0 : a.eval (.tmp 8) = .pointer (some ⟨g8_7, 0, none⟩) := ((H.kept 8 (by kernel_rfl)).trans h8_12)
            simp only [execOp, resolve, List.map_toArray, List.map_cons, List.map_nil, e0]
            go_simp
            all_goals first | rfl | (simp; done) | (rw [Bool.eq_iff_iff]; simp; done) | omega | skip
          · refine Eng.plain rfl rfl fun a w' H => ?_
            have kb := (H.below.block _ lg8_7_12).trans kg8_7_12
            have z0 : w'.cell? ⟨g8_7, 0, none⟩ = some (.int .i64 x.2.1) := (Eng.cells kb 0).trans rfl
            refine Eng.val (w1 := w') (v := .int .i64 x.2.1) ?_ (Below.refl _ _) rfl
            have e0 : a.eval (.tmp 24) = .pointer (some ⟨g8_7, 0, none⟩) := (H.dep 0 24 (by kernel_rfl) rfl)
            simp only [execOp, resolve, List.map_toArray, List.map_cons, List.map_nil, e0]
            go_simp
            all_goals first | rfl | (simp; done) | (rw [Bool.eq_iff_iff]; simp; done) | omega | skip
          · refine Eng.plain rfl rfl fun a w' H => ?_
            refine Eng.val (w1 := w') (v := .bool (x.2.1 == 1)) ?_ (Below.refl _ _) (by show _ = Value.bool q26; rw [Bq26])
            have e0 : a.eval (.tmp 25) = .int .i64 x.2.1 := (H.dep 1 25 (by kernel_rfl) rfl)
            have e1 : a.eval (.const (.int .i64 1)) = .int .i64 1 := (rfl : a.eval (.const (.int .i64 1)) = .int .i64 1)
            simp only [execOp, resolve, List.map_toArray, List.map_cons, List.map_nil, e0, e1]
            go_simp
            all_goals first | rfl | (simp; done) | (rw [Bool.eq_iff_iff]; simp; done) | omega | skip
          · refine Eng.plain rfl rfl fun a w' H => ?_
            exact Eng.val (w1 := w') (v := .bool q26) (Eng.run_move rfl (H.dep 2 26 (by kernel_rfl) rfl)) (Below.refl _ _) rfl
          · refine Eng.guarded1 (j := 3) (d := 27) (b := q26) rfl rfl (by kernel_rfl) rfl (fun v w h => h) (fun hG w => Eng.off hG) fun hG a w' H => ?_
            refine Eng.val (w1 := w') (v := .pointer (some ⟨g8_7, 1, none⟩)) ?_ (Below.refl _ _) (Eng.off' hG rfl)
            have e0 : a.eval (.tmp 8) = .pointer (some ⟨g8_7, 0, none⟩) := ((H.kept 8 (by kernel_rfl)).trans h8_12)
            simp only [execOp, resolve, List.map_toArray, List.map_cons, List.map_nil, e0]
            go_simp
            all_goals first | rfl | (simp; done) | (rw [Bool.eq_iff_iff]; simp; done) | omega | skip
          · refine Eng.guarded1 (j := 3) (d := 27) (b := q26) rfl rfl (by kernel_rfl) rfl (fun v w h => h) (fun hG w => Eng.off hG) fun hG a w' H => ?_
            have kb := (H.below.block _ lg8_7_12).trans kg8_7_12
            have z0 : w'.cell? ⟨g8_7, 1, none⟩ = some (.string x.2.2) := (Eng.cells kb 1).trans rfl
            refine Eng.val (w1 := w') (v := .string x.2.2) ?_ (Below.refl _ _) (Eng.off' hG rfl)
            have e0 : a.eval (.tmp 28) = .pointer (some ⟨g8_7, 1, none⟩) := (Eng.on (H.dep 4 28 (by kernel_rfl) rfl) hG)
            simp only [execOp, resolve, List.map_toArray, List.map_cons, List.map_nil, e0]
            go_simp
            all_goals first | rfl | (simp; done) | (rw [Bool.eq_iff_iff]; simp; done) | omega | skip
          · refine Eng.guarded1 (j := 3) (d := 27) (b := q26) rfl rfl (by kernel_rfl) rfl (fun v w h => h) (fun hG w => Eng.off hG) fun hG a w' H => ?_
            have kb := (H.below.block _ lg5_1_12).trans kg5_1_12
            have z0 : w'.cell? ⟨g5_1, 0, none⟩ = some (.string step) := (Eng.cells kb 0).trans rfl
            refine Eng.val (w1 := w') (v := .string step) ?_ (Below.refl _ _) (Eng.off' hG rfl)
            have e0 : a.eval (.tmp 5) = .pointer (some ⟨g5_1, 0, none⟩) := ((H.kept 5 (by kernel_rfl)).trans h5_12)
            simp only [execOp, resolve, List.map_toArray, List.map_cons, List.map_nil, e0]
            go_simp
            all_goals first | rfl | (simp; done) | (rw [Bool.eq_iff_iff]; simp; done) | omega | skip
          · refine Eng.guarded1 (j := 3) (d := 27) (b := q26) rfl rfl (by kernel_rfl) rfl (fun v w h => h) (fun hG w => Eng.off hG) fun hG a w' H => ?_
            refine Eng.val (w1 := w') (v := .bool (x.2.2.toList == step.toList)) ?_ (Below.refl _ _) (Eng.off' hG (by rw [Bq31]))
            have e0 : a.eval (.tmp 29) = .string x.2.2 := (Eng.on (H.dep 5 29 (by kernel_rfl) rfl) hG)
            have e1 : a.eval (.tmp 30) = .string step := (Eng.on (H.dep 6 30 (by kernel_rfl) rfl) hG)
            simp only [execOp, resolve, List.map_toArray, List.map_cons, List.map_nil, e0, e1]
            go_simp
            all_goals first | rfl | (simp; done) | (rw [Bool.eq_iff_iff]; simp; done) | omega | skip
          · refine Eng.plain rfl rfl fun a w' H => ?_
            exact Eng.val (w1 := w') (v := .bool (q26 || q31)) (Eng.run_or rfl rfl (G := true) (H.dep 3 27 (by kernel_rfl) rfl) (fun hb => (Eng.on (H.dep 7 31 (by kernel_rfl) rfl) (Eng.mk1 hb)))) (Below.refl _ _) (by show _ = Value.bool q32; rw [Bq32])
          · refine Eng.plain rfl rfl fun a w' H => ?_
            exact Eng.val (w1 := w') (v := .bool q32) (Eng.run_assign rfl (H.dep 8 32 (by kernel_rfl) rfl)) (Below.refl _ _) rfl
        intro act17 w17 T
        have h0_17 : act17.eval (.tmp 0) = .agg #[pv, bv, .int .i64 many] := (T.rest 0 (by kernel_rfl)).trans h0_12
        have h1_17 : act17.eval (.tmp 1) = .agg ((List.map (Value.int .u64) s).toArray) := (T.rest 1 (by kernel_rfl)).trans h1_12
        have h2_17 : act17.eval (.tmp 2) = .string step := (T.rest 2 (by kernel_rfl)).trans h2_12
        have h3_17 : act17.eval (.tmp 3) = .pointer (some ⟨g3_1, 0, none⟩) := (T.rest 3 (by kernel_rfl)).trans h3_12
        have h4_17 : act17.eval (.tmp 4) = .pointer (some ⟨g4_1, 0, none⟩) := (T.rest 4 (by kernel_rfl)).trans h4_12
        have h5_17 : act17.eval (.tmp 5) = .pointer (some ⟨g5_1, 0, none⟩) := (T.rest 5 (by kernel_rfl)).trans h5_12
        have h6_17 : act17.eval (.tmp 6) = .pointer (some ⟨g6_1, 0, none⟩) := (T.rest 6 (by kernel_rfl)).trans h6_12
        have h7_17 : act17.eval (.tmp 7) = .int .i64 x.1 := (T.rest 7 (by kernel_rfl)).trans h7_12
        have h8_17 : act17.eval (.tmp 8) = .pointer (some ⟨g8_7, 0, none⟩) := (T.rest 8 (by kernel_rfl)).trans h8_12
        have h10_17 : act17.eval (.tmp 10) = .func (.func 116) #[] #[.pointer (some ⟨bt, 0, none⟩)] := (T.rest 10 (by kernel_rfl)).trans h10_12
        have h11_17 : act17.eval (.tmp 11) = .int .i64 x.1 := (T.rest 11 (by kernel_rfl)).trans h11_12
        have h12_17 : act17.eval (.tmp 12) = .agg #[.int .i64 x.2.1, .string x.2.2] := (T.rest 12 (by kernel_rfl)).trans h12_12
        have h16_17 : act17.eval (.tmp 16) = .bool q16 := (T.rest 16 (by kernel_rfl)).trans h16_12
        have h17_17 : act17.eval (.tmp 17) = .bool q20 := (T.rest 17 (by kernel_rfl)).trans h17_12
        have kg3_1_17 := (T.below.block _ lg3_1_12).trans kg3_1_12
        have lg3_1_17 := Nat.lt_of_lt_of_le lg3_1_12 T.below.size
        have kg4_1_17 := (T.below.block _ lg4_1_12).trans kg4_1_12
        have lg4_1_17 := Nat.lt_of_lt_of_le lg4_1_12 T.below.size
        have kg5_1_17 := (T.below.block _ lg5_1_12).trans kg5_1_12
        have lg5_1_17 := Nat.lt_of_lt_of_le lg5_1_12 T.below.size
        have kg6_1_17 := (T.below.block _ lg6_1_12).trans kg6_1_12
        have lg6_1_17 := Nat.lt_of_lt_of_le lg6_1_12 T.below.size
        have kbt_17 := (T.below.block _ lbt_12).trans kbt_12
        have lbt_17 := Nat.lt_of_lt_of_le lbt_12 T.below.size
        have kg8_7_17 := (T.below.block _ lg8_7_12).trans kg8_7_12
        have lg8_7_17 := Nat.lt_of_lt_of_le lg8_7_12 T.below.size
        have Fpp_17 := Eng.Reads.below Fpp_12 T.below
        have Fbb_17 := Eng.Reads.below Fbb_12 T.below
        have h23_17 : act17.eval (.tmp 23) = .bool q32 := T.done 9 23 rfl rfl
        have d17 := T.defers.trans d12
        have s17 := T.size.trans s12
        have bl17 := bl12.trans (T.below.mono bl12.size)
        have kp17 := kp12.trans (Eng.Kept.below T.below)
        clear T
        refine EngI.tail_nil ?_
        first | show Code.wpIn _ _ Tryd.prog _ _ _ _ | skip
        refine wpIn_cond_split h23_17 (fun hq => ?_) (fun hq => ?_)
        ·
          have kn18 := hq
          have c23 := Bq32.symm.trans hq
          clear hq
          rw [Bq26, Bq31] at c23
          refine EngI.regionS (EngI.free_wide.inRound lp) (Eng.still [fun u_ => u_ = .int .i64 x.1, fun u_ => u_ = .int .i64 (IntKind.i64.wrap (x.1 + 1))]) (fun i => ([.plain, .plain] : List Eng.Kind).getD i .plain) 2 1 39 s17 rfl (by kernel_rfl) (Eng.still_stable _) (Or.inr (Eng.still_any _)) (by kernel_rfl) ?_ ?_
          · refine Eng.Steps.cons (fun _ => ?_) (Eng.Steps.cons (fun _ => ?_) (Eng.Steps.cons (fun hlt => ?_) (Eng.Steps.nil)))
            · refine Eng.plain rfl rfl fun a w' H => ?_
              exact Eng.val (w1 := w') (v := .int .i64 x.1) (Eng.run_move rfl ((H.kept 7 (by kernel_rfl)).trans h7_17)) (Below.refl _ _) rfl
            · refine Eng.plain rfl rfl fun a w' H => ?_
              refine Eng.val (w1 := w') (v := .int .i64 (IntKind.i64.wrap (x.1 + 1))) ?_ (Below.refl _ _) rfl
              have e0 : a.eval (.tmp 33) = .int .i64 x.1 := (H.dep 0 33 (by kernel_rfl) rfl)
              have e1 : a.eval (.const (.int .i64 1)) = .int .i64 1 := (rfl : a.eval (.const (.int .i64 1)) = .int .i64 1)
              simp only [execOp, resolve, List.map_toArray, List.map_cons, List.map_nil, e0, e1]
              go_simp
              all_goals first | rfl | (simp; done) | (rw [Bool.eq_iff_iff]; simp; done) | omega | skip
            · exact absurd hlt (by decide)
          intro act19 w19 T
          have h0_19 : act19.eval (.tmp 0) = .agg #[pv, bv, .int .i64 many] := (T.rest 0 (by kernel_rfl)).trans h0_17
          have h1_19 : act19.eval (.tmp 1) = .agg ((List.map (Value.int .u64) s).toArray) := (T.rest 1 (by kernel_rfl)).trans h1_17
          have h2_19 : act19.eval (.tmp 2) = .string step := (T.rest 2 (by kernel_rfl)).trans h2_17
          have h3_19 : act19.eval (.tmp 3) = .pointer (some ⟨g3_1, 0, none⟩) := (T.rest 3 (by kernel_rfl)).trans h3_17
          have h4_19 : act19.eval (.tmp 4) = .pointer (some ⟨g4_1, 0, none⟩) := (T.rest 4 (by kernel_rfl)).trans h4_17
          have h5_19 : act19.eval (.tmp 5) = .pointer (some ⟨g5_1, 0, none⟩) := (T.rest 5 (by kernel_rfl)).trans h5_17
          have h6_19 : act19.eval (.tmp 6) = .pointer (some ⟨g6_1, 0, none⟩) := (T.rest 6 (by kernel_rfl)).trans h6_17
          have h7_19 : act19.eval (.tmp 7) = .int .i64 x.1 := (T.rest 7 (by kernel_rfl)).trans h7_17
          have h8_19 : act19.eval (.tmp 8) = .pointer (some ⟨g8_7, 0, none⟩) := (T.rest 8 (by kernel_rfl)).trans h8_17
          have h10_19 : act19.eval (.tmp 10) = .func (.func 116) #[] #[.pointer (some ⟨bt, 0, none⟩)] := (T.rest 10 (by kernel_rfl)).trans h10_17
          have h11_19 : act19.eval (.tmp 11) = .int .i64 x.1 := (T.rest 11 (by kernel_rfl)).trans h11_17
          have h12_19 : act19.eval (.tmp 12) = .agg #[.int .i64 x.2.1, .string x.2.2] := (T.rest 12 (by kernel_rfl)).trans h12_17
          have h16_19 : act19.eval (.tmp 16) = .bool q16 := (T.rest 16 (by kernel_rfl)).trans h16_17
          have h17_19 : act19.eval (.tmp 17) = .bool q20 := (T.rest 17 (by kernel_rfl)).trans h17_17
          have h23_19 : act19.eval (.tmp 23) = .bool q32 := (T.rest 23 (by kernel_rfl)).trans h23_17
          have kg3_1_19 := (T.below.block _ lg3_1_17).trans kg3_1_17
          have lg3_1_19 := Nat.lt_of_lt_of_le lg3_1_17 T.below.size
          have kg4_1_19 := (T.below.block _ lg4_1_17).trans kg4_1_17
          have lg4_1_19 := Nat.lt_of_lt_of_le lg4_1_17 T.below.size
          have kg5_1_19 := (T.below.block _ lg5_1_17).trans kg5_1_17
          have lg5_1_19 := Nat.lt_of_lt_of_le lg5_1_17 T.below.size
          have kg6_1_19 := (T.below.block _ lg6_1_17).trans kg6_1_17
          have lg6_1_19 := Nat.lt_of_lt_of_le lg6_1_17 T.below.size
          have kbt_19 := (T.below.block _ lbt_17).trans kbt_17
          have lbt_19 := Nat.lt_of_lt_of_le lbt_17 T.below.size
          have kg8_7_19 := (T.below.block _ lg8_7_17).trans kg8_7_17
          have lg8_7_19 := Nat.lt_of_lt_of_le lg8_7_17 T.below.size
          have Fpp_19 := Eng.Reads.below Fpp_17 T.below
          have Fbb_19 := Eng.Reads.below Fbb_17 T.below
          have h34_19 : act19.eval (.tmp 34) = .int .i64 (IntKind.i64.wrap (x.1 + 1)) := T.done 1 34 rfl rfl
          have d19 := T.defers.trans d17
          have s19 := T.size.trans s17
          have bl19 := bl17.trans (T.below.mono bl17.size)
          have kp19 := kp17.trans (Eng.Kept.below T.below)
          clear T
          refine EngI.tail_call (EngI.free_wide.inRound lp) Tryd.func90 (by kernel_rfl) (by kernel_rfl) rfl rfl rfl rfl #[.pointer (some ⟨g6_1, 0, none⟩), .int .i64 (IntKind.i64.wrap (x.1 + 1))] (by have e0 : act19.eval (.tmp 6) = .pointer (some ⟨g6_1, 0, none⟩) := h6_19; have e1 : act19.eval (.tmp 34) = .int .i64 (IntKind.i64.wrap (x.1 + 1)) := h34_19; simp only [List.map_toArray, List.map_cons, List.map_nil, e0, e1]) s19 rfl (R := fun _ w' => Eng.Turns w19 w' g6_1 (.cells ((List.map (Value.int .u64) (Nfa.put (Nfa.stepF s step pre) (IntKind.i64.wrap (x.1 + 1)))).toArray) 74 (0, 0))) ((Nfa.put_calls g6_1 (Nfa.stepF s step pre) (IntKind.i64.wrap (x.1 + 1)) _ (Nfa.stepF_len _ _ _) kg6_1_19).mono ?_) fun v_20 w20 act20 R d20 s20 hv hr => ?_
          · rintro e w1 ⟨v, rfl, R⟩; exact ⟨v, rfl, R⟩
          have h0_20 : act20.eval (.tmp 0) = .agg #[pv, bv, .int .i64 many] := (hr 0 rfl).trans h0_19
          have h1_20 : act20.eval (.tmp 1) = .agg ((List.map (Value.int .u64) s).toArray) := (hr 1 rfl).trans h1_19
          have h2_20 : act20.eval (.tmp 2) = .string step := (hr 2 rfl).trans h2_19
          have h3_20 : act20.eval (.tmp 3) = .pointer (some ⟨g3_1, 0, none⟩) := (hr 3 rfl).trans h3_19
          have h4_20 : act20.eval (.tmp 4) = .pointer (some ⟨g4_1, 0, none⟩) := (hr 4 rfl).trans h4_19
          have h5_20 : act20.eval (.tmp 5) = .pointer (some ⟨g5_1, 0, none⟩) := (hr 5 rfl).trans h5_19
          have h6_20 : act20.eval (.tmp 6) = .pointer (some ⟨g6_1, 0, none⟩) := (hr 6 rfl).trans h6_19
          have h7_20 : act20.eval (.tmp 7) = .int .i64 x.1 := (hr 7 rfl).trans h7_19
          have h8_20 : act20.eval (.tmp 8) = .pointer (some ⟨g8_7, 0, none⟩) := (hr 8 rfl).trans h8_19
          have h10_20 : act20.eval (.tmp 10) = .func (.func 116) #[] #[.pointer (some ⟨bt, 0, none⟩)] := (hr 10 rfl).trans h10_19
          have h11_20 : act20.eval (.tmp 11) = .int .i64 x.1 := (hr 11 rfl).trans h11_19
          have h12_20 : act20.eval (.tmp 12) = .agg #[.int .i64 x.2.1, .string x.2.2] := (hr 12 rfl).trans h12_19
          have h16_20 : act20.eval (.tmp 16) = .bool q16 := (hr 16 rfl).trans h16_19
          have h17_20 : act20.eval (.tmp 17) = .bool q20 := (hr 17 rfl).trans h17_19
          have h23_20 : act20.eval (.tmp 23) = .bool q32 := (hr 23 rfl).trans h23_19
          have h34_20 : act20.eval (.tmp 34) = .int .i64 (IntKind.i64.wrap (x.1 + 1)) := (hr 34 rfl).trans h34_19
          have h35_20 : act20.eval (.tmp 35) = v_20 := hv
          have d20 := d20.trans d19
          clear hv hr
          have bl20 := Eng.Turns.below R bl19 og6_1 (Nat.le_refl _)
          have kp20 := kp19.trans (Eng.Turns.kept R lg6_1_3)
          have kg3_1_20 := (R.far _ ne_g6_1_g3_1 lg3_1_19).trans kg3_1_19
          have lg3_1_20 := Nat.lt_of_lt_of_le lg3_1_19 R.size
          have kg4_1_20 := (R.far _ ne_g6_1_g4_1 lg4_1_19).trans kg4_1_19
          have lg4_1_20 := Nat.lt_of_lt_of_le lg4_1_19 R.size
          have kg5_1_20 := (R.far _ ne_g6_1_g5_1 lg5_1_19).trans kg5_1_19
          have lg5_1_20 := Nat.lt_of_lt_of_le lg5_1_19 R.size
          have kg6_1_20 := R.new
          have lg6_1_20 := Nat.lt_of_lt_of_le lg6_1_19 R.size
          have kbt_20 := (R.far _ ne_bt_g6_1.symm lbt_19).trans kbt_19
          have lbt_20 := Nat.lt_of_lt_of_le lbt_19 R.size
          have kg8_7_20 := (R.far _ ne_g8_7_g6_1.symm lg8_7_19).trans kg8_7_19
          have lg8_7_20 := Nat.lt_of_lt_of_le lg8_7_19 R.size
          have Fpp_20 := Eng.Reads.below hp bl20
          have Fbb_20 := Eng.Reads.below hb bl20
          clear R
          refine EngI.tail_nil ?_
          exact ⟨rfl, ⟨bl20, kg3_1_20, kg4_1_20, kg5_1_20, (kg6_1_20.trans (by rw [Nfa.stepF_snoc]; unfold Nfa.stepP; first | (rw [if_pos hbx]; done) | (rw [if_neg (by rw [hbx]; simp), if_pos c17]; done) | (rw [if_neg (by rw [hbx]; simp), if_neg (by rw [c17]; simp), if_pos c23]; done) | (rw [if_neg (by rw [hbx]; simp), if_neg (by rw [c17]; simp), if_neg (by rw [c23]; simp)]; done))), kbt_20⟩, kp20⟩
        ·
          have kn21 := hq
          have c23 := Bq32.symm.trans hq
          clear hq
          rw [Bq26, Bq31] at c23
          refine wpIn_skip ?_
          exact ⟨rfl, ⟨bl17, kg3_1_17, kg4_1_17, kg5_1_17, (kg6_1_17.trans (by rw [Nfa.stepF_snoc]; unfold Nfa.stepP; first | (rw [if_pos hbx]; done) | (rw [if_neg (by rw [hbx]; simp), if_pos c17]; done) | (rw [if_neg (by rw [hbx]; simp), if_neg (by rw [c17]; simp), if_pos c23]; done) | (rw [if_neg (by rw [hbx]; simp), if_neg (by rw [c17]; simp), if_neg (by rw [c23]; simp)]; done))), kbt_17⟩, kp17⟩
  ·
    rintro w22 act22 ⟨bl22, kg3_1_22, kg4_1_22, kg5_1_22, kg6_1_22, kbt_22⟩ ht hd hD22
    have h0_22 : act22.eval (.tmp 0) = .agg #[pv, bv, .int .i64 many] := (Eng.act_eval ht 0).trans h0_3
    have h1_22 : act22.eval (.tmp 1) = .agg ((List.map (Value.int .u64) s).toArray) := (Eng.act_eval ht 1).trans h1_3
    have h2_22 : act22.eval (.tmp 2) = .string step := (Eng.act_eval ht 2).trans h2_3
    have h3_22 : act22.eval (.tmp 3) = .pointer (some ⟨g3_1, 0, none⟩) := (Eng.act_eval ht 3).trans h3_3
    have h4_22 : act22.eval (.tmp 4) = .pointer (some ⟨g4_1, 0, none⟩) := (Eng.act_eval ht 4).trans h4_3
    have h5_22 : act22.eval (.tmp 5) = .pointer (some ⟨g5_1, 0, none⟩) := (Eng.act_eval ht 5).trans h5_3
    have h6_22 : act22.eval (.tmp 6) = .pointer (some ⟨g6_1, 0, none⟩) := (Eng.act_eval ht 6).trans h6_3
    have h9_22 : act22.eval (.tmp 9) = .agg #[pv, bv, .int .i64 many] := (Eng.act_eval ht 9).trans h9_3
    have h10_22 : act22.eval (.tmp 10) = .func (.func 116) #[] #[.pointer (some ⟨bt, 0, none⟩)] := (Eng.act_eval ht 10).trans h10_3
    have s22 : act22.tmps.size = 39 := by rw [ht]; exact s3
    have d22 := hd.trans (congrArg _ d3)
    clear ht hd
    have lg3_1_22 := (Array.getElem?_eq_some_iff.1 kg3_1_22).1
    have lg4_1_22 := (Array.getElem?_eq_some_iff.1 kg4_1_22).1
    have lg5_1_22 := (Array.getElem?_eq_some_iff.1 kg5_1_22).1
    have lg6_1_22 := (Array.getElem?_eq_some_iff.1 kg6_1_22).1
    have lbt_22 := (Array.getElem?_eq_some_iff.1 kbt_22).1
    have Fpp_22 := Eng.Reads.below hp bl22
    have Fbb_22 := Eng.Reads.below hb bl22
    first | show Code.wp Tryd.prog _ _ _ _ | skip
    refine wp_seq ?_
    refine Eng.regionS (Eng.still [fun u_ => u_ = .agg #[pv, bv, .int .i64 many], fun u_ => u_ = .agg ((List.map (Value.int .u64) (Nfa.stepF s step (Nfa.items ps bs))).toArray), fun u_ => u_ = .agg ((List.map (Value.int .u64) (Nfa.closeF (Nfa.stepF s step (Nfa.items ps bs)) (Nfa.items ps bs))).toArray)]) (fun i => ([.plain, .plain, .plain] : List Eng.Kind).getD i .plain) 3 1 39 s22 rfl (by kernel_rfl) (Eng.still_stable _) (Or.inr (Eng.still_any _)) ?_ ?_
    · refine Eng.Steps.cons (fun _ => ?_) (Eng.Steps.cons (fun _ => ?_) (Eng.Steps.cons (fun _ => ?_) (Eng.Steps.cons (fun hlt => ?_) (Eng.Steps.nil))))
      · refine Eng.plain rfl rfl fun a w' H => ?_
        have kb := (H.below.block _ lg3_1_22).trans kg3_1_22
        have z0 : w'.cell? ⟨g3_1, 0, none⟩ = some (pv) := (Eng.cells kb 0).trans rfl
        have z1 : w'.cell? ⟨g3_1, 1, none⟩ = some (bv) := (Eng.cells kb 1).trans rfl
        have z2 : w'.cell? ⟨g3_1, 2, none⟩ = some (.int .i64 many) := (Eng.cells kb 2).trans rfl
        refine Eng.val (w1 := w') (v := .agg #[pv, bv, .int .i64 many]) ?_ (Below.refl _ _) rfl
        have e0 : a.eval (.tmp 3) = .pointer (some ⟨g3_1, 0, none⟩) := ((H.kept 3 (by kernel_rfl)).trans h3_22)
        simp only [execOp, resolve, List.map_toArray, List.map_cons, List.map_nil, e0]
        go_simp
        all_goals first | rfl | (simp; done) | (rw [Bool.eq_iff_iff]; simp; done) | omega | skip
      · refine Eng.plain rfl rfl fun a w' H => ?_
        have kb := (H.below.block _ lg6_1_22).trans kg6_1_22
        refine Eng.val (w1 := w') (v := .agg ((List.map (Value.int .u64) (Nfa.stepF s step (Nfa.items ps bs))).toArray)) ?_ (Below.refl _ _) rfl
        exact Eng.run_load_all rfl ((H.kept 6 (by kernel_rfl)).trans h6_22) kb Tryd.underlying74 rfl (by rw [Nfa.cells_size (Nfa.stepF_len _ _ _)]; kernel_rfl)
      · refine Eng.plain rfl rfl fun a w' H => ?_
        refine Eng.call Tryd.func91 (by kernel_rfl) (by kernel_rfl) rfl #[.agg #[pv, bv, .int .i64 many], .agg ((List.map (Value.int .u64) (Nfa.stepF s step (Nfa.items ps bs))).toArray)] ?_ ?_
        · have e0 : a.eval (.tmp 36) = .agg #[pv, bv, .int .i64 many] := (H.dep 0 36 (by kernel_rfl) rfl); have e1 : a.eval (.tmp 37) = .agg ((List.map (Value.int .u64) (Nfa.stepF s step (Nfa.items ps bs))).toArray) := (H.dep 1 37 (by kernel_rfl) rfl); simp only [List.map_toArray, List.map_cons, List.map_nil, e0, e1]
        refine (Nfa.closed_calls pv bv many ps bs vs (Nfa.stepF s step (Nfa.items ps bs)) _ (Nfa.stepF_len _ _ _) hvl (Eng.Reads.below Fpp_22 H.below) (fun k hk => Eng.Reads.below (Eng.Reads.below (hin k hk) bl22) H.below) (Eng.Reads.below Fbb_22 H.below)).mono ?_
        rintro e w'' ⟨rfl, hb⟩
        exact ⟨_, rfl, rfl, hb⟩
      · exact absurd hlt (by decide)
    intro act23 w23 T
    have h0_23 : act23.eval (.tmp 0) = .agg #[pv, bv, .int .i64 many] := (T.rest 0 (by kernel_rfl)).trans h0_22
    have h1_23 : act23.eval (.tmp 1) = .agg ((List.map (Value.int .u64) s).toArray) := (T.rest 1 (by kernel_rfl)).trans h1_22
    have h2_23 : act23.eval (.tmp 2) = .string step := (T.rest 2 (by kernel_rfl)).trans h2_22
    have h3_23 : act23.eval (.tmp 3) = .pointer (some ⟨g3_1, 0, none⟩) := (T.rest 3 (by kernel_rfl)).trans h3_22
    have h4_23 : act23.eval (.tmp 4) = .pointer (some ⟨g4_1, 0, none⟩) := (T.rest 4 (by kernel_rfl)).trans h4_22
    have h5_23 : act23.eval (.tmp 5) = .pointer (some ⟨g5_1, 0, none⟩) := (T.rest 5 (by kernel_rfl)).trans h5_22
    have h6_23 : act23.eval (.tmp 6) = .pointer (some ⟨g6_1, 0, none⟩) := (T.rest 6 (by kernel_rfl)).trans h6_22
    have h10_23 : act23.eval (.tmp 10) = .func (.func 116) #[] #[.pointer (some ⟨bt, 0, none⟩)] := (T.rest 10 (by kernel_rfl)).trans h10_22
    have kg3_1_23 := (T.below.block _ lg3_1_22).trans kg3_1_22
    have lg3_1_23 := Nat.lt_of_lt_of_le lg3_1_22 T.below.size
    have kg4_1_23 := (T.below.block _ lg4_1_22).trans kg4_1_22
    have lg4_1_23 := Nat.lt_of_lt_of_le lg4_1_22 T.below.size
    have kg5_1_23 := (T.below.block _ lg5_1_22).trans kg5_1_22
    have lg5_1_23 := Nat.lt_of_lt_of_le lg5_1_22 T.below.size
    have kg6_1_23 := (T.below.block _ lg6_1_22).trans kg6_1_22
    have lg6_1_23 := Nat.lt_of_lt_of_le lg6_1_22 T.below.size
    have kbt_23 := (T.below.block _ lbt_22).trans kbt_22
    have lbt_23 := Nat.lt_of_lt_of_le lbt_22 T.below.size
    have Fpp_23 := Eng.Reads.below Fpp_22 T.below
    have Fbb_23 := Eng.Reads.below Fbb_22 T.below
    have h38_23 : act23.eval (.tmp 38) = .agg ((List.map (Value.int .u64) (Nfa.closeF (Nfa.stepF s step (Nfa.items ps bs)) (Nfa.items ps bs))).toArray) := T.done 2 38 rfl rfl
    have d23 := T.defers.trans d22
    have s23 := T.size.trans s22
    have bl23 := bl22.trans (T.below.mono bl22.size)
    have D23 := (T.below.block _ (Array.getElem?_eq_some_iff.1 hD22).1).trans hD22
    clear T
    refine Eng.tail_arr rfl rfl rfl rfl h6_23 h38_23 kg6_1_23 (by rw [Nfa.cells_size ((Nfa.closeF_len _ _).trans (Nfa.stepF_len _ _ _))]; kernel_rfl) ((Nfa.cells_size (Nfa.stepF_len _ _ _)).trans (Nfa.cells_size ((Nfa.closeF_len _ _).trans (Nfa.stepF_len _ _ _))).symm) (by simp [Value.oneCell']) fun w24 S => ?_
    have kg3_1_24 := (S.far _ ne_g6_1_g3_1).trans kg3_1_23
    have lg3_1_24 := Nat.lt_of_lt_of_eq lg3_1_23 S.size.symm
    have kg4_1_24 := (S.far _ ne_g6_1_g4_1).trans kg4_1_23
    have lg4_1_24 := Nat.lt_of_lt_of_eq lg4_1_23 S.size.symm
    have kg5_1_24 := (S.far _ ne_g6_1_g5_1).trans kg5_1_23
    have lg5_1_24 := Nat.lt_of_lt_of_eq lg5_1_23 S.size.symm
    have kg6_1_24 := S.new
    have lg6_1_24 := Nat.lt_of_lt_of_eq lg6_1_23 S.size.symm
    have kbt_24 := (S.far _ ne_bt_g6_1.symm).trans kbt_23
    have lbt_24 := Nat.lt_of_lt_of_eq lbt_23 S.size.symm
    have bl24 := S.below bl23 og6_1
    have Fpp_24 := Eng.Reads.below hp bl24
    have Fbb_24 := Eng.Reads.below hb bl24
    have D24 := (S.far _ (Eng.def_ne D23 kg6_1_23)).trans D23
    clear S
    refine Eng.tail_nil ?_
    first | show Code.wp Tryd.prog _ _ _ _ | skip
    refine wp_ret ?_
    repeat (first | refine Eng.in_ret ?_ | refine Eng.then_ret ?_)
    exact Eng.retcM rfl d23 D24 h6_23 kg6_1_24 Tryd.underlying74 rfl (by rw [Nfa.cells_size ((Nfa.closeF_len _ _).trans (Nfa.stepF_len _ _ _))]; kernel_rfl) fun w1 hb => ⟨rfl, bl24.trans (hb.mono bl3.size)⟩
end Go.Proofs.YthgafcaoibfchaaDoor.X
