/- Words and walks that the row of NfaApart needs: printed by programs, and plain laws. -/
import Derived.Test.YthgafcaoibfchaaDoorM11
import Derived.Test.YthgafcaoibfchaaDoorM12
import Derived.Test.YthgafcaoibfchaaDoorM13
namespace Go.Proofs.YthgafcaoibfchaaDoor.X
open Go.RowKit Go.Shelf Go.Proofs Go.Proofs.YthgafcaoibfchaaDoorW.PrintWords Go.Proofs.YthgafcaoibfchaaDoorW.PrintLast Go.Proofs.YthgafcaoibfchaaDoorW.PrintMore
set_option linter.unusedVariables false
set_option linter.unusedSimpArgs false
attribute [local go_sem] max2_int min2_int max_two min_two
set_option maxHeartbeats 4000000 in
set_option maxRecDepth 100000 in
theorem Nfa.apart_walk (pa av : Value) (ps : List (List Pth.Part)) (us : List Value) (la : List ByteArray) (w : World) (hua : us.length = ps.length) (hp : Eng.Reads w pa ps.length 1 us) (hin : ∀ k, k < ps.length → Eng.Reads w (us.getD k undef) (ps.getD k []).length 2 (Pth.cellsP (ps.getD k []))) (hsz : ∀ k, k < ps.length → (ps.getD k []).length ≤ 5864062014634) (hpl : ps.length ≤ 5864062014634) (hst : ∀ k, k < ps.length → ∀ p ∈ ps.getD k [], p.2.size ≤ 9223372036854775807) (hT : Tabs.Holds w) (hra : Eng.Reads w av la.length 1 (Nfa.strs la)) : Calls Tryd.prog 11 #[pa, av] w fun e w' => e = .returned (.bool true) ∧ Below w.heap.size w w' := by
  have hm := Eng.Reads.len_le hra
  have hmp := Eng.Reads.len_le hp
  refine Eng.enter Tryd.func11 rfl fun act0 d0 s0 v0 => ?_
  have s0 : act0.tmps.size = 67 := s0
  have h0_0 : act0.eval (.tmp 0) = pa := v0 0 (by simp)
  have h1_0 : act0.eval (.tmp 1) = av := v0 1 (by simp)
  clear v0
  have bl0 : Below w.heap.size w w := Below.refl _ _
  refine wp_seq ?_
  refine Eng.regionS (Eng.still [fun u_ => u_ = .bool false]) (fun i => ([.plain] : List Eng.Kind).getD i .plain) 1 0 67 s0 rfl (by kernel_rfl) (Eng.still_stable _) (Or.inr (Eng.still_any _)) ?_ ?_
  · refine Eng.Steps.cons (fun _ => ?_) (Eng.Steps.nil)
    · refine Eng.plain rfl rfl fun a w' H => ?_
      exact Eng.val (w1 := w') (v := .bool false) (Eng.run_assign rfl (rfl : a.eval (.const (.bool false)) = .bool false)) (Below.refl _ _) rfl
  intro act1 w1 T
  have h0_1 : act1.eval (.tmp 0) = pa := (T.rest 0 (by kernel_rfl)).trans h0_0
  have h1_1 : act1.eval (.tmp 1) = av := (T.rest 1 (by kernel_rfl)).trans h1_0
  have Fpp_1 := Eng.Reads.below hp T.below
  have Fra_1 := Eng.Reads.below hra T.below
  have h4_1 : act1.eval (.tmp 4) = .bool false := T.done 0 4 rfl rfl
  have d1 := T.defers.trans d0
  have s1 := T.size.trans s0
  have bl1 := bl0.trans (T.below.mono bl0.size)
  clear T
  refine Eng.tail_nil ?_
  first | show Code.wp Tryd.prog _ _ _ _ | skip
  refine wp_seq ?_
  refine wp_seq ?_
  obtain ⟨q13, Bq13⟩ : ∃ b : Bool, b = (true) := ⟨_, rfl⟩
  obtain ⟨q14, Bq14⟩ : ∃ b : Bool, b = (!q13) := ⟨_, rfl⟩
  refine Eng.regionS (Eng.still [fun u_ => u_ = .bool q13, fun u_ => u_ = .bool q14]) (fun i => ([.plain, .plain] : List Eng.Kind).getD i .plain) 2 0 67 s1 rfl (by kernel_rfl) (Eng.still_stable _) (Or.inr (Eng.still_any _)) ?_ ?_
  · refine Eng.Steps.cons (fun _ => ?_) (Eng.Steps.cons (fun _ => ?_) (Eng.Steps.nil))
    · refine Eng.plain rfl rfl fun a w' H => ?_
      refine Eng.call Tryd.func35 (by kernel_rfl) (by kernel_rfl) rfl #[] ?_ ?_
      · simp
      refine (Nfa.alive_calls _ (Tabs.below (Tabs.below hT bl1) H.below)).mono ?_
      rintro e w'' ⟨rfl, hb⟩
      exact ⟨_, rfl, (by show _ = Value.bool q13; rw [Bq13]), hb⟩
    · refine Eng.plain rfl rfl fun a w' H => ?_
      exact Eng.val (w1 := w') (v := .bool (!q13)) (Eng.run_not rfl (H.dep 0 13 (by kernel_rfl) rfl)) (Below.refl _ _) (by show _ = Value.bool q14; rw [Bq14])
  intro act2 w2 T
  have h0_2 : act2.eval (.tmp 0) = pa := (T.rest 0 (by kernel_rfl)).trans h0_1
  have h1_2 : act2.eval (.tmp 1) = av := (T.rest 1 (by kernel_rfl)).trans h1_1
  have h4_2 : act2.eval (.tmp 4) = .bool false := (T.rest 4 (by kernel_rfl)).trans h4_1
  have Fpp_2 := Eng.Reads.below Fpp_1 T.below
  have Fra_2 := Eng.Reads.below Fra_1 T.below
  have h14_2 : act2.eval (.tmp 14) = .bool q14 := T.done 1 14 rfl rfl
  have d2 := T.defers.trans d1
  have s2 := T.size.trans s1
  have bl2 := bl1.trans (T.below.mono bl1.size)
  clear T
  refine Eng.tail_nil ?_
  first | show Code.wp Tryd.prog _ _ _ _ | skip
  have n14 : q14 = false := by
    try simp only [Bq14, Bq13]
    first | done | rfl
  refine wp_cond_false (h14_2.trans (by rw [n14])) ?_
  refine wp_skip ?_
  first | show Code.wp Tryd.prog _ _ _ _ | skip
  refine wp_seq ?_
  refine (wpIn_wide (n := 1)).1 ?_
  refine EngI.regionS EngI.free_wide (Eng.still [fun u_ => u_ = pa]) (fun i => ([.plain] : List Eng.Kind).getD i .plain) 1 2 67 s2 rfl (by kernel_rfl) (Eng.still_stable _) (Or.inr (Eng.still_any _)) (by kernel_rfl) ?_ ?_
  · refine Eng.Steps.cons (fun _ => ?_) (Eng.Steps.cons (fun hlt => ?_) (Eng.Steps.cons (fun hlt => ?_) (Eng.Steps.nil)))
    · refine Eng.plain rfl rfl fun a w' H => ?_
      exact Eng.val (w1 := w') (v := pa) (Eng.run_move rfl ((H.kept 0 (by kernel_rfl)).trans h0_2)) (Below.refl _ _) rfl
    · exact absurd hlt (by decide)
    · exact absurd hlt (by decide)
  intro act3 w3 T
  have h0_3 : act3.eval (.tmp 0) = pa := (T.rest 0 (by kernel_rfl)).trans h0_2
  have h1_3 : act3.eval (.tmp 1) = av := (T.rest 1 (by kernel_rfl)).trans h1_2
  have h4_3 : act3.eval (.tmp 4) = .bool false := (T.rest 4 (by kernel_rfl)).trans h4_2
  have h14_3 : act3.eval (.tmp 14) = .bool q14 := (T.rest 14 (by kernel_rfl)).trans h14_2
  have Fpp_3 := Eng.Reads.below Fpp_2 T.below
  have Fra_3 := Eng.Reads.below Fra_2 T.below
  have h15_3 : act3.eval (.tmp 15) = pa := T.done 0 15 rfl rfl
  have d3 := T.defers.trans d2
  have s3 := T.size.trans s2
  have bl3 := bl2.trans (T.below.mono bl2.size)
  clear T
  refine EngI.tail_call EngI.free_wide Tryd.func37 (by kernel_rfl) (by kernel_rfl) rfl rfl rfl rfl #[pa] (by have e0 : act3.eval (.tmp 15) = pa := h15_3; simp only [List.map_toArray, List.map_cons, List.map_nil, e0]) s3 rfl (R := fun v w' => ∃ vl, vl.length = ps.length ∧ w'.ownsRow w3.heap.size 82 1 v ps.length vl ∧ Pth.Each w3.heap.size ps vl w' ∧ Below w3.heap.size w3 w') ((Pth.theirses_calls pa ps us _ hua Fpp_3 (fun k hk => Eng.Reads.below (hin k hk) bl3) hsz hpl).mono ?_) fun v_4 w4 act4 R d4 s4 hv hr => ?_
  · rintro e w1 ⟨v, vl, rfl, h1, h2, h3, h4⟩; exact ⟨v, rfl, vl, h1, h2, h3, h4⟩
  have h0_4 : act4.eval (.tmp 0) = pa := (hr 0 rfl).trans h0_3
  have h1_4 : act4.eval (.tmp 1) = av := (hr 1 rfl).trans h1_3
  have h4_4 : act4.eval (.tmp 4) = .bool false := (hr 4 rfl).trans h4_3
  have h14_4 : act4.eval (.tmp 14) = .bool q14 := (hr 14 rfl).trans h14_3
  have h15_4 : act4.eval (.tmp 15) = pa := (hr 15 rfl).trans h15_3
  have h16_4 : act4.eval (.tmp 16) = v_4 := hv
  have d4 := d4.trans d3
  clear hv hr
  obtain ⟨vl, hvl, Oth4, XE4, hb4⟩ := R
  have Oth := Eng.own_mono Oth4 bl3.size
  have XE := Pth.Each.mono XE4 bl3.size
  have Fth := Eng.Reads.of_own Oth
  have Fpp_4 := Eng.Reads.below Fpp_3 hb4
  have Fra_4 := Eng.Reads.below Fra_3 hb4
  have bl4 := bl3.trans (hb4.mono bl3.size)
  refine EngI.tail_val EngI.free_wide rfl rfl rfl rfl (Eng.run_assign rfl h16_4) s4 rfl fun act5 d5 s5 hv hr => ?_
  have h0_5 : act5.eval (.tmp 0) = pa := (hr 0 rfl).trans h0_4
  have h1_5 : act5.eval (.tmp 1) = av := (hr 1 rfl).trans h1_4
  have h4_5 : act5.eval (.tmp 4) = .bool false := (hr 4 rfl).trans h4_4
  have h14_5 : act5.eval (.tmp 14) = .bool q14 := (hr 14 rfl).trans h14_4
  have h15_5 : act5.eval (.tmp 15) = pa := (hr 15 rfl).trans h15_4
  have h16_5 : act5.eval (.tmp 16) = v_4 := (hr 16 rfl).trans h16_4
  have h5_5 : act5.eval (.tmp 5) = v_4 := hv
  have d5 := d5.trans d4
  clear hv hr
  refine EngI.tail_nil ?_
  first | show Code.wp Tryd.prog _ _ _ _ | skip
  refine wp_seq ?_
  refine (wpIn_wide (n := 1)).1 ?_
  refine EngI.regionT (n := 8) rfl ?_
  refine EngI.tail_val EngI.free_wide rfl rfl rfl rfl (Eng.run_move rfl h5_5) s5 rfl fun act6 d6 s6 hv hr => ?_
  have h0_6 : act6.eval (.tmp 0) = pa := (hr 0 rfl).trans h0_5
  have h1_6 : act6.eval (.tmp 1) = av := (hr 1 rfl).trans h1_5
  have h4_6 : act6.eval (.tmp 4) = .bool false := (hr 4 rfl).trans h4_5
  have h5_6 : act6.eval (.tmp 5) = v_4 := (hr 5 rfl).trans h5_5
  have h14_6 : act6.eval (.tmp 14) = .bool q14 := (hr 14 rfl).trans h14_5
  have h15_6 : act6.eval (.tmp 15) = pa := (hr 15 rfl).trans h15_5
  have h16_6 : act6.eval (.tmp 16) = v_4 := (hr 16 rfl).trans h16_5
  have h18_6 : act6.eval (.tmp 18) = v_4 := hv
  have d6 := d6.trans d5
  clear hv hr
  refine EngI.tail_call EngI.free_wide Tryd.func36 (by kernel_rfl) (by kernel_rfl) rfl rfl rfl rfl #[v_4] (by have e0 : act6.eval (.tmp 18) = v_4 := h18_6; simp only [List.map_toArray, List.map_cons, List.map_nil, e0]) s6 rfl (R := fun v w' => ∃ pv bv vs m, v = .tuple #[.agg #[pv, bv, .int .i64 m], .int .i64 (Nfa.code ps)] ∧ (Nfa.Slc pv ∧ Nfa.Slc bv) ∧ Nfa.Made w4.heap.size pv bv ps vs m w' ∧ Below w4.heap.size w4 w') ((Nfa.make_calls v_4 ps vl _ hvl Fth (Pth.Each.reads XE hvl) hsz hpl hst (Tabs.below hT bl4)).mono ?_) fun v_7 w7 act7 R d7 s7 hv hr => ?_
  · rintro e w1 ⟨pv, bv, vs, m, rfl, h1, h2, h3⟩; exact ⟨_, rfl, pv, bv, vs, m, rfl, h1, h2, h3⟩
  have h0_7 : act7.eval (.tmp 0) = pa := (hr 0 rfl).trans h0_6
  have h1_7 : act7.eval (.tmp 1) = av := (hr 1 rfl).trans h1_6
  have h4_7 : act7.eval (.tmp 4) = .bool false := (hr 4 rfl).trans h4_6
  have h5_7 : act7.eval (.tmp 5) = v_4 := (hr 5 rfl).trans h5_6
  have h14_7 : act7.eval (.tmp 14) = .bool q14 := (hr 14 rfl).trans h14_6
  have h15_7 : act7.eval (.tmp 15) = pa := (hr 15 rfl).trans h15_6
  have h16_7 : act7.eval (.tmp 16) = v_4 := (hr 16 rfl).trans h16_6
  have h18_7 : act7.eval (.tmp 18) = v_4 := (hr 18 rfl).trans h18_6
  have h19_7 : act7.eval (.tmp 19) = v_7 := hv
  have d7 := d7.trans d6
  clear hv hr
  obtain ⟨pv, bv, vs, m, hv1_7, ⟨hsl0_7, hsl1_7⟩, hM_7, hb7⟩ := R
  have hMm_7 := Nfa.Made.mono hM_7 bl4.size
  clear hM_7
  have Fpp_7 := Eng.Reads.below Fpp_4 hb7
  have Fra_7 := Eng.Reads.below Fra_4 hb7
  have Fth_7 := Eng.Reads.below Fth hb7
  have Oth_7 := Eng.own_below Oth hb7
  have XE_7 := Pth.Each.below XE hb7
  have bl7 := bl4.trans (hb7.mono bl4.size)
  rw [hv1_7] at h19_7
  refine EngI.tail_val EngI.free_wide rfl rfl rfl rfl (Eng.run_move rfl h19_7) s7 rfl fun act8 d8 s8 hv hr => ?_
  have h0_8 : act8.eval (.tmp 0) = pa := (hr 0 rfl).trans h0_7
  have h1_8 : act8.eval (.tmp 1) = av := (hr 1 rfl).trans h1_7
  have h4_8 : act8.eval (.tmp 4) = .bool false := (hr 4 rfl).trans h4_7
  have h5_8 : act8.eval (.tmp 5) = v_4 := (hr 5 rfl).trans h5_7
  have h14_8 : act8.eval (.tmp 14) = .bool q14 := (hr 14 rfl).trans h14_7
  have h15_8 : act8.eval (.tmp 15) = pa := (hr 15 rfl).trans h15_7
  have h16_8 : act8.eval (.tmp 16) = v_4 := (hr 16 rfl).trans h16_7
  have h18_8 : act8.eval (.tmp 18) = v_4 := (hr 18 rfl).trans h18_7
  have h19_8 : act8.eval (.tmp 19) = .tuple #[.agg #[pv, bv, .int .i64 m], .int .i64 (Nfa.code ps)] := (hr 19 rfl).trans h19_7
  have h17_8 : act8.eval (.tmp 17) = .tuple #[.agg #[pv, bv, .int .i64 m], .int .i64 (Nfa.code ps)] := hv
  have d8 := d8.trans d7
  clear hv hr
  refine EngI.tail_val (w1 := w7) (v := .agg #[pv, bv, .int .i64 m]) EngI.free_wide rfl rfl rfl rfl ?_ s8 rfl ?_
  · have e0 : act8.eval (.tmp 17) = .tuple #[.agg #[pv, bv, .int .i64 m], .int .i64 (Nfa.code ps)] := h17_8
    simp only [execOp, resolve, List.map_toArray, List.map_cons, List.map_nil, e0]
    go_simp
    all_goals first | rfl | (simp; done) | (rw [Bool.eq_iff_iff]; simp; done) | omega | skip
  intro act9 d9 s9 hv hr
  have h0_9 : act9.eval (.tmp 0) = pa := (hr 0 rfl).trans h0_8
  have h1_9 : act9.eval (.tmp 1) = av := (hr 1 rfl).trans h1_8
  have h4_9 : act9.eval (.tmp 4) = .bool false := (hr 4 rfl).trans h4_8
  have h5_9 : act9.eval (.tmp 5) = v_4 := (hr 5 rfl).trans h5_8
  have h14_9 : act9.eval (.tmp 14) = .bool q14 := (hr 14 rfl).trans h14_8
  have h15_9 : act9.eval (.tmp 15) = pa := (hr 15 rfl).trans h15_8
  have h16_9 : act9.eval (.tmp 16) = v_4 := (hr 16 rfl).trans h16_8
  have h17_9 : act9.eval (.tmp 17) = .tuple #[.agg #[pv, bv, .int .i64 m], .int .i64 (Nfa.code ps)] := (hr 17 rfl).trans h17_8
  have h18_9 : act9.eval (.tmp 18) = v_4 := (hr 18 rfl).trans h18_8
  have h19_9 : act9.eval (.tmp 19) = .tuple #[.agg #[pv, bv, .int .i64 m], .int .i64 (Nfa.code ps)] := (hr 19 rfl).trans h19_8
  have h20_9 : act9.eval (.tmp 20) = .agg #[pv, bv, .int .i64 m] := hv
  have d9 := d9.trans d8
  clear hv hr
  refine EngI.tail_val (w1 := w7) (v := .int .i64 (Nfa.code ps)) EngI.free_wide rfl rfl rfl rfl ?_ s9 rfl ?_
  · have e0 : act9.eval (.tmp 17) = .tuple #[.agg #[pv, bv, .int .i64 m], .int .i64 (Nfa.code ps)] := h17_9
    simp only [execOp, resolve, List.map_toArray, List.map_cons, List.map_nil, e0]
    go_simp
    all_goals first | rfl | (simp; done) | (rw [Bool.eq_iff_iff]; simp; done) | omega | skip
  intro act10 d10 s10 hv hr
  have h0_10 : act10.eval (.tmp 0) = pa := (hr 0 rfl).trans h0_9
  have h1_10 : act10.eval (.tmp 1) = av := (hr 1 rfl).trans h1_9
  have h4_10 : act10.eval (.tmp 4) = .bool false := (hr 4 rfl).trans h4_9
  have h5_10 : act10.eval (.tmp 5) = v_4 := (hr 5 rfl).trans h5_9
  have h14_10 : act10.eval (.tmp 14) = .bool q14 := (hr 14 rfl).trans h14_9
  have h15_10 : act10.eval (.tmp 15) = pa := (hr 15 rfl).trans h15_9
  have h16_10 : act10.eval (.tmp 16) = v_4 := (hr 16 rfl).trans h16_9
  have h17_10 : act10.eval (.tmp 17) = .tuple #[.agg #[pv, bv, .int .i64 m], .int .i64 (Nfa.code ps)] := (hr 17 rfl).trans h17_9
  have h18_10 : act10.eval (.tmp 18) = v_4 := (hr 18 rfl).trans h18_9
  have h19_10 : act10.eval (.tmp 19) = .tuple #[.agg #[pv, bv, .int .i64 m], .int .i64 (Nfa.code ps)] := (hr 19 rfl).trans h19_9
  have h20_10 : act10.eval (.tmp 20) = .agg #[pv, bv, .int .i64 m] := (hr 20 rfl).trans h20_9
  have h21_10 : act10.eval (.tmp 21) = .int .i64 (Nfa.code ps) := hv
  have d10 := d10.trans d9
  clear hv hr
  refine EngI.tail_ex EngI.free_wide rfl rfl rfl rfl (Eng.alloc_ex (cs := #[.slice none 0 0, .slice none 0 0, .int .i64 0]) rfl (by kernel_rfl)) s10 rfl fun v_11 w11 act11 R d11 s11 hv hr => ?_
  obtain ⟨g6_11, ev_11, rg_11, lg6_11, kg6_11, b_11⟩ := R
  have h0_11 : act11.eval (.tmp 0) = pa := (hr 0 rfl).trans h0_10
  have h1_11 : act11.eval (.tmp 1) = av := (hr 1 rfl).trans h1_10
  have h4_11 : act11.eval (.tmp 4) = .bool false := (hr 4 rfl).trans h4_10
  have h5_11 : act11.eval (.tmp 5) = v_4 := (hr 5 rfl).trans h5_10
  have h14_11 : act11.eval (.tmp 14) = .bool q14 := (hr 14 rfl).trans h14_10
  have h15_11 : act11.eval (.tmp 15) = pa := (hr 15 rfl).trans h15_10
  have h16_11 : act11.eval (.tmp 16) = v_4 := (hr 16 rfl).trans h16_10
  have h17_11 : act11.eval (.tmp 17) = .tuple #[.agg #[pv, bv, .int .i64 m], .int .i64 (Nfa.code ps)] := (hr 17 rfl).trans h17_10
  have h18_11 : act11.eval (.tmp 18) = v_4 := (hr 18 rfl).trans h18_10
  have h19_11 : act11.eval (.tmp 19) = .tuple #[.agg #[pv, bv, .int .i64 m], .int .i64 (Nfa.code ps)] := (hr 19 rfl).trans h19_10
  have h20_11 : act11.eval (.tmp 20) = .agg #[pv, bv, .int .i64 m] := (hr 20 rfl).trans h20_10
  have h21_11 : act11.eval (.tmp 21) = .int .i64 (Nfa.code ps) := (hr 21 rfl).trans h21_10
  have h6_11 : act11.eval (.tmp 6) = v_11 := hv
  have d11 := d11.trans d10
  clear hv hr
  have og6_11 : w.heap.size ≤ g6_11 := Nat.le_trans bl7.size rg_11
  have Fpp_11 := Eng.Reads.below Fpp_7 b_11
  have Fra_11 := Eng.Reads.below Fra_7 b_11
  have Fth_11 := Eng.Reads.below Fth_7 b_11
  have Oth_11 := Eng.own_below Oth_7 b_11
  have XE_11 := Pth.Each.below XE_7 b_11
  have XM_11 := Nfa.Made.below hMm_7 b_11
  have bl11 := bl7.trans (b_11.mono bl7.size)
  rw [ev_11] at h6_11
  refine EngI.tail_put EngI.free_wide [pv, bv, .int .i64 m] (n := 0) (new := #[pv, bv, .int .i64 m]) rfl rfl rfl rfl kg6_11 rfl ?_ fun w12 S => ?_
  · have e0 : act11.eval (.tmp 6) = .pointer (some ⟨g6_11, 0, none⟩) := h6_11
    have e1 : act11.eval (.tmp 20) = .agg #[pv, bv, .int .i64 m] := h20_11
    obtain ⟨A0_, n0_, c0_, ev0_⟩ := hsl0_7
    subst ev0_
    obtain ⟨A1_, n1_, c1_, ev1_⟩ := hsl1_7
    subst ev1_
    have z0 := (Eng.cells kg6_11 (0)).trans (rfl)
    have f0 := Eng.unfrozen kg6_11 (0)
    have z1 := (Eng.cells kg6_11 (1)).trans (rfl)
    have f1 := Eng.unfrozen kg6_11 (1)
    have z2 := (Eng.cells kg6_11 (2)).trans (rfl)
    have f2 := Eng.unfrozen kg6_11 (2)
    simp only [execOp]
    rw [e0, e1]
    go_simp
    try rfl
  have kg6_11_12 := S.new
  have lg6_11_12 := Nat.lt_of_lt_of_eq lg6_11 S.size.symm
  have bl12 := S.below bl11 og6_11
  have Fpp_12 := Eng.Reads.below hp bl12
  have Fra_12 := Eng.Reads.below hra bl12
  have Oth_12 := Eng.own_sets Oth_11 S kg6_11 rfl
  have Fth_12 := Eng.Reads.of_own Oth_12
  have XE_12 := Pth.Each.sets XE_11 S kg6_11 rfl
  have XM_12 := Nfa.Made.sets XM_11 S kg6_11 rfl
  clear S
  refine EngI.tail_val EngI.free_wide rfl rfl rfl rfl (Eng.run_assign rfl h21_11) s11 rfl fun act13 d13 s13 hv hr => ?_
  have h0_13 : act13.eval (.tmp 0) = pa := (hr 0 rfl).trans h0_11
  have h1_13 : act13.eval (.tmp 1) = av := (hr 1 rfl).trans h1_11
  have h4_13 : act13.eval (.tmp 4) = .bool false := (hr 4 rfl).trans h4_11
  have h5_13 : act13.eval (.tmp 5) = v_4 := (hr 5 rfl).trans h5_11
  have h6_13 : act13.eval (.tmp 6) = .pointer (some ⟨g6_11, 0, none⟩) := (hr 6 rfl).trans h6_11
  have h14_13 : act13.eval (.tmp 14) = .bool q14 := (hr 14 rfl).trans h14_11
  have h15_13 : act13.eval (.tmp 15) = pa := (hr 15 rfl).trans h15_11
  have h16_13 : act13.eval (.tmp 16) = v_4 := (hr 16 rfl).trans h16_11
  have h17_13 : act13.eval (.tmp 17) = .tuple #[.agg #[pv, bv, .int .i64 m], .int .i64 (Nfa.code ps)] := (hr 17 rfl).trans h17_11
  have h18_13 : act13.eval (.tmp 18) = v_4 := (hr 18 rfl).trans h18_11
  have h19_13 : act13.eval (.tmp 19) = .tuple #[.agg #[pv, bv, .int .i64 m], .int .i64 (Nfa.code ps)] := (hr 19 rfl).trans h19_11
  have h20_13 : act13.eval (.tmp 20) = .agg #[pv, bv, .int .i64 m] := (hr 20 rfl).trans h20_11
  have h21_13 : act13.eval (.tmp 21) = .int .i64 (Nfa.code ps) := (hr 21 rfl).trans h21_11
  have h7_13 : act13.eval (.tmp 7) = .int .i64 (Nfa.code ps) := hv
  have d13 := d13.trans d11
  clear hv hr
  refine EngI.tail_nil ?_
  first | show Code.wp Tryd.prog _ _ _ _ | skip
  refine wp_seq ?_
  refine wp_seq ?_
  obtain ⟨q23, Bq23⟩ : ∃ b : Bool, b = (Pth.heavies ps) := ⟨_, rfl⟩
  obtain ⟨q27, Bq27⟩ : ∃ b : Bool, b = (decide (((la.length : Nat) : Int) > 30)) := ⟨_, rfl⟩
  obtain ⟨q28, Bq28⟩ : ∃ b : Bool, b = (q23 || q27) := ⟨_, rfl⟩
  obtain ⟨q31, Bq31⟩ : ∃ b : Bool, b = (!((Nfa.code ps) == 0)) := ⟨_, rfl⟩
  obtain ⟨q32, Bq32⟩ : ∃ b : Bool, b = (q28 || q31) := ⟨_, rfl⟩
  refine Eng.regionS (Eng.still [fun u_ => u_ = pa, fun u_ => u_ = .bool q23, fun u_ => u_ = .bool q23, fun u_ => u_ = bif (q23 == false) then (av) else undef, fun u_ => u_ = bif (q23 == false) then (.int .i64 ((la.length : Nat) : Int)) else undef, fun u_ => u_ = bif (q23 == false) then (.bool q27) else undef, fun u_ => u_ = .bool q28, fun u_ => u_ = .bool q28, fun u_ => u_ = bif (q28 == false) then (.int .i64 (Nfa.code ps)) else undef, fun u_ => u_ = bif (q28 == false) then (.bool q31) else undef, fun u_ => u_ = .bool q32]) (fun i => ([.plain, .plain, .plain, .plain, .plain, .plain, .plain, .plain, .plain, .plain, .plain] : List Eng.Kind).getD i .plain) 11 0 67 s13 rfl (by kernel_rfl) (Eng.still_stable _) (Or.inr (Eng.still_any _)) ?_ ?_
  · refine Eng.Steps.cons (fun _ => ?_) (Eng.Steps.cons (fun _ => ?_) (Eng.Steps.cons (fun _ => ?_) (Eng.Steps.cons (fun _ => ?_) (Eng.Steps.cons (fun _ => ?_) (Eng.Steps.cons (fun _ => ?_) (Eng.Steps.cons (fun _ => ?_) (Eng.Steps.cons (fun _ => ?_) (Eng.Steps.cons (fun _ => ?_) (Eng.Steps.cons (fun _ => ?_) (Eng.Steps.cons (fun _ => ?_) (Eng.Steps.nil)))))))))))
    · refine Eng.plain rfl rfl fun a w' H => ?_
      exact Eng.val (w1 := w') (v := pa) (Eng.run_move rfl ((H.kept 0 (by kernel_rfl)).trans h0_13)) (Below.refl _ _) rfl
    · refine Eng.plain rfl rfl fun a w' H => ?_
      refine Eng.call Tryd.func38 (by kernel_rfl) (by kernel_rfl) rfl #[pa] ?_ ?_
      · have e0 : a.eval (.tmp 22) = pa := (H.dep 0 22 (by kernel_rfl) rfl); simp only [List.map_toArray, List.map_cons, List.map_nil, e0]
      refine (Pth.heavies_calls pa ps us _ hua (Eng.Reads.below Fpp_12 H.below) (fun k hk => Eng.Reads.below (Eng.Reads.below (hin k hk) bl12) H.below)).mono ?_
      rintro e w'' ⟨rfl, hb⟩
      exact ⟨_, rfl, (by show _ = Value.bool q23; rw [Bq23]), hb⟩
    · refine Eng.plain rfl rfl fun a w' H => ?_
      exact Eng.val (w1 := w') (v := .bool q23) (Eng.run_move rfl (H.dep 1 23 (by kernel_rfl) rfl)) (Below.refl _ _) rfl
    · refine Eng.guarded1 (j := 2) (d := 24) (b := q23) rfl rfl (by kernel_rfl) rfl (fun v w h => h) (fun hG w => Eng.off hG) fun hG a w' H => ?_
      exact Eng.val (w1 := w') (v := av) (Eng.run_move rfl ((H.kept 1 (by kernel_rfl)).trans h1_13)) (Below.refl _ _) (Eng.off' hG rfl)
    · refine Eng.guarded1 (j := 2) (d := 24) (b := q23) rfl rfl (by kernel_rfl) rfl (fun v w h => h) (fun hG w => Eng.off hG) fun hG a w' H => ?_
      refine Eng.val (w1 := w') (v := .int .i64 ((la.length : Nat) : Int)) ?_ (Below.refl _ _) (Eng.off' hG rfl)
      exact Eng.run_len_sl rfl Tryd.underlying43 (show a.eval (.tmp 25) = av from (Eng.on (H.dep 3 25 (by kernel_rfl) rfl) hG)) (Eng.Reads.below Fra_12 H.below)
    · refine Eng.guarded1 (j := 2) (d := 24) (b := q23) rfl rfl (by kernel_rfl) rfl (fun v w h => h) (fun hG w => Eng.off hG) fun hG a w' H => ?_
      refine Eng.val (w1 := w') (v := .bool (decide (((la.length : Nat) : Int) > 30))) ?_ (Below.refl _ _) (Eng.off' hG (by rw [Bq27]))
      have e0 : a.eval (.tmp 26) = .int .i64 ((la.length : Nat) : Int) := (Eng.on (H.dep 4 26 (by kernel_rfl) rfl) hG)
      have e1 : a.eval (.const (.int .i64 30)) = .int .i64 30 := (rfl : a.eval (.const (.int .i64 30)) = .int .i64 30)
      simp only [execOp, resolve, List.map_toArray, List.map_cons, List.map_nil, e0, e1]
      go_simp
      all_goals first | rfl | (simp; done) | (rw [Bool.eq_iff_iff]; simp; done) | omega | skip
    · refine Eng.plain rfl rfl fun a w' H => ?_
      exact Eng.val (w1 := w') (v := .bool (q23 || q27)) (Eng.run_or rfl rfl (G := true) (H.dep 2 24 (by kernel_rfl) rfl) (fun hb => (Eng.on (H.dep 5 27 (by kernel_rfl) rfl) (Eng.mk1 hb)))) (Below.refl _ _) (by show _ = Value.bool q28; rw [Bq28])
    · refine Eng.plain rfl rfl fun a w' H => ?_
      exact Eng.val (w1 := w') (v := .bool q28) (Eng.run_move rfl (H.dep 6 28 (by kernel_rfl) rfl)) (Below.refl _ _) rfl
    · refine Eng.guarded1 (j := 7) (d := 29) (b := q28) rfl rfl (by kernel_rfl) rfl (fun v w h => h) (fun hG w => Eng.off hG) fun hG a w' H => ?_
      exact Eng.val (w1 := w') (v := .int .i64 (Nfa.code ps)) (Eng.run_move rfl ((H.kept 7 (by kernel_rfl)).trans h7_13)) (Below.refl _ _) (Eng.off' hG rfl)
    · refine Eng.guarded1 (j := 7) (d := 29) (b := q28) rfl rfl (by kernel_rfl) rfl (fun v w h => h) (fun hG w => Eng.off hG) fun hG a w' H => ?_
      refine Eng.val (w1 := w') (v := .bool (!((Nfa.code ps) == 0))) ?_ (Below.refl _ _) (Eng.off' hG (by rw [Bq31]))
      have e0 : a.eval (.tmp 30) = .int .i64 (Nfa.code ps) := (Eng.on (H.dep 8 30 (by kernel_rfl) rfl) hG)
      have e1 : a.eval (.const (.int .i64 0)) = .int .i64 0 := (rfl : a.eval (.const (.int .i64 0)) = .int .i64 0)
      simp only [execOp, resolve, List.map_toArray, List.map_cons, List.map_nil, e0, e1]
      go_simp
      all_goals first | rfl | (simp; done) | (rw [Bool.eq_iff_iff]; simp; done) | omega | skip
    · refine Eng.plain rfl rfl fun a w' H => ?_
      exact Eng.val (w1 := w') (v := .bool (q28 || q31)) (Eng.run_or rfl rfl (G := true) (H.dep 7 29 (by kernel_rfl) rfl) (fun hb => (Eng.on (H.dep 9 31 (by kernel_rfl) rfl) (Eng.mk1 hb)))) (Below.refl _ _) (by show _ = Value.bool q32; rw [Bq32])
  intro act14 w14 T
  have h0_14 : act14.eval (.tmp 0) = pa := (T.rest 0 (by kernel_rfl)).trans h0_13
  have h1_14 : act14.eval (.tmp 1) = av := (T.rest 1 (by kernel_rfl)).trans h1_13
  have h4_14 : act14.eval (.tmp 4) = .bool false := (T.rest 4 (by kernel_rfl)).trans h4_13
  have h5_14 : act14.eval (.tmp 5) = v_4 := (T.rest 5 (by kernel_rfl)).trans h5_13
  have h6_14 : act14.eval (.tmp 6) = .pointer (some ⟨g6_11, 0, none⟩) := (T.rest 6 (by kernel_rfl)).trans h6_13
  have h7_14 : act14.eval (.tmp 7) = .int .i64 (Nfa.code ps) := (T.rest 7 (by kernel_rfl)).trans h7_13
  have h14_14 : act14.eval (.tmp 14) = .bool q14 := (T.rest 14 (by kernel_rfl)).trans h14_13
  have kg6_11_14 := (T.below.block _ lg6_11_12).trans kg6_11_12
  have lg6_11_14 := Nat.lt_of_lt_of_le lg6_11_12 T.below.size
  have Fpp_14 := Eng.Reads.below Fpp_12 T.below
  have Fra_14 := Eng.Reads.below Fra_12 T.below
  have Fth_14 := Eng.Reads.below Fth_12 T.below
  have Oth_14 := Eng.own_below Oth_12 T.below
  have h32_14 : act14.eval (.tmp 32) = .bool q32 := T.done 10 32 rfl rfl
  have d14 := T.defers.trans d13
  have s14 := T.size.trans s13
  have bl14 := bl12.trans (T.below.mono bl12.size)
  have XE_14 := Pth.Each.below XE_12 T.below
  have XM_14 := Nfa.Made.below XM_12 T.below
  clear T
  refine Eng.tail_nil ?_
  first | show Code.wp Tryd.prog _ _ _ _ | skip
  refine wp_cond_split h32_14 (fun hq => ?_) (fun hq => ?_)
  ·
    have kn15 := hq
    have c32 := Bq32.symm.trans hq
    clear hq
    refine wp_seq ?_
    refine Eng.regionS (Eng.still [fun u_ => u_ = .bool true]) (fun i => ([.plain] : List Eng.Kind).getD i .plain) 1 0 67 s14 rfl (by kernel_rfl) (Eng.still_stable _) (Or.inr (Eng.still_any _)) ?_ ?_
    · refine Eng.Steps.cons (fun _ => ?_) (Eng.Steps.nil)
      · refine Eng.plain rfl rfl fun a w' H => ?_
        exact Eng.val (w1 := w') (v := .bool true) (Eng.run_assign rfl (rfl : a.eval (.const (.bool true)) = .bool true)) (Below.refl _ _) rfl
    intro act16 w16 T
    have h0_16 : act16.eval (.tmp 0) = pa := (T.rest 0 (by kernel_rfl)).trans h0_14
    have h1_16 : act16.eval (.tmp 1) = av := (T.rest 1 (by kernel_rfl)).trans h1_14
    have h5_16 : act16.eval (.tmp 5) = v_4 := (T.rest 5 (by kernel_rfl)).trans h5_14
    have h6_16 : act16.eval (.tmp 6) = .pointer (some ⟨g6_11, 0, none⟩) := (T.rest 6 (by kernel_rfl)).trans h6_14
    have h7_16 : act16.eval (.tmp 7) = .int .i64 (Nfa.code ps) := (T.rest 7 (by kernel_rfl)).trans h7_14
    have h14_16 : act16.eval (.tmp 14) = .bool q14 := (T.rest 14 (by kernel_rfl)).trans h14_14
    have h32_16 : act16.eval (.tmp 32) = .bool q32 := (T.rest 32 (by kernel_rfl)).trans h32_14
    have kg6_11_16 := (T.below.block _ lg6_11_14).trans kg6_11_14
    have lg6_11_16 := Nat.lt_of_lt_of_le lg6_11_14 T.below.size
    have Fpp_16 := Eng.Reads.below Fpp_14 T.below
    have Fra_16 := Eng.Reads.below Fra_14 T.below
    have Fth_16 := Eng.Reads.below Fth_14 T.below
    have Oth_16 := Eng.own_below Oth_14 T.below
    have h4_16 : act16.eval (.tmp 4) = .bool true := T.done 0 4 rfl rfl
    have d16 := T.defers.trans d14
    have s16 := T.size.trans s14
    have bl16 := bl14.trans (T.below.mono bl14.size)
    have XE_16 := Pth.Each.below XE_14 T.below
    have XM_16 := Nfa.Made.below XM_14 T.below
    clear T
    refine Eng.tail_nil ?_
    first | show Code.wp Tryd.prog _ _ _ _ | skip
    refine wp_ret ?_
    repeat (first | refine Eng.in_ret ?_ | refine Eng.then_ret ?_)
    exact Eng.ret1 rfl d16 h4_16 ⟨rfl, bl16⟩
  ·
    have kn17 := hq
    have c32 := Bq32.symm.trans hq
    clear hq
    rw [Bq31, Bq28, Bq27, Bq23] at c32
    simp at c32
    obtain ⟨⟨hheavy, hla⟩, hcode⟩ := c32
    have hla : la.length ≤ 30 := by omega
    have hps := Nfa.light_len hheavy
    obtain ⟨hTab, hmm⟩ := XM_14 hcode
    refine wp_skip ?_
    first | show Code.wp Tryd.prog _ _ _ _ | skip
    refine wp_seq ?_
    refine Eng.regionD (Eng.tell [.still fun u_ => u_ = .agg #[pv, bv, .int .i64 m], .still fun u_ => u_ = .agg #[pv, bv, .int .i64 m], .still fun u_ => u_ = av, .still fun u_ => u_ = .agg ((List.map (Value.int .u64) (Nfa.run ps (Nfa.begs ps ps.length) la)).toArray), .own w14.heap.size 3 1 (Nfa.accept ps (Nfa.begs ps ps.length) (Nfa.run ps (Nfa.begs ps ps.length) la)).length (Nfa.ints (Nfa.accept ps (Nfa.begs ps ps.length) (Nfa.run ps (Nfa.begs ps ps.length) la)))]) (fun i => ([.plain, .plain, .plain, .plain, .plain] : List Eng.Kind).getD i .plain) 5 1 67 (by kernel_rfl) s14 rfl (by kernel_rfl) (Eng.tell_stable _) (Or.inl (Eng.no_stores (by kernel_rfl))) ?_ ?_
    · refine Eng.Steps.cons (fun _ => ?_) (Eng.Steps.cons (fun _ => ?_) (Eng.Steps.cons (fun _ => ?_) (Eng.Steps.cons (fun _ => ?_) (Eng.Steps.cons (fun _ => ?_) (Eng.Steps.cons (fun hlt => ?_) (Eng.Steps.nil))))))
      · refine Eng.plain rfl rfl fun a w' H => ?_
        have kb := (H.below.block _ lg6_11_14).trans kg6_11_14
        have z0 : w'.cell? ⟨g6_11, 0, none⟩ = some (pv) := (Eng.cells kb 0).trans rfl
        have z1 : w'.cell? ⟨g6_11, 1, none⟩ = some (bv) := (Eng.cells kb 1).trans rfl
        have z2 : w'.cell? ⟨g6_11, 2, none⟩ = some (.int .i64 m) := (Eng.cells kb 2).trans rfl
        refine Eng.val (w1 := w') (v := .agg #[pv, bv, .int .i64 m]) ?_ (Below.refl _ _) rfl
        have e0 : a.eval (.tmp 6) = .pointer (some ⟨g6_11, 0, none⟩) := ((H.kept 6 (by kernel_rfl)).trans h6_14)
        simp only [execOp, resolve, List.map_toArray, List.map_cons, List.map_nil, e0]
        go_simp
        all_goals first | rfl | (simp; done) | (rw [Bool.eq_iff_iff]; simp; done) | omega | skip
      · refine Eng.plain rfl rfl fun a w' H => ?_
        have kb := (H.below.block _ lg6_11_14).trans kg6_11_14
        have z0 : w'.cell? ⟨g6_11, 0, none⟩ = some (pv) := (Eng.cells kb 0).trans rfl
        have z1 : w'.cell? ⟨g6_11, 1, none⟩ = some (bv) := (Eng.cells kb 1).trans rfl
        have z2 : w'.cell? ⟨g6_11, 2, none⟩ = some (.int .i64 m) := (Eng.cells kb 2).trans rfl
        refine Eng.val (w1 := w') (v := .agg #[pv, bv, .int .i64 m]) ?_ (Below.refl _ _) rfl
        have e0 : a.eval (.tmp 6) = .pointer (some ⟨g6_11, 0, none⟩) := ((H.kept 6 (by kernel_rfl)).trans h6_14)
        simp only [execOp, resolve, List.map_toArray, List.map_cons, List.map_nil, e0]
        go_simp
        all_goals first | rfl | (simp; done) | (rw [Bool.eq_iff_iff]; simp; done) | omega | skip
      · refine Eng.plain rfl rfl fun a w' H => ?_
        exact Eng.val (w1 := w') (v := av) (Eng.run_move rfl ((H.kept 1 (by kernel_rfl)).trans h1_14)) (Below.refl _ _) rfl
      · refine Eng.plain rfl rfl fun a w' H => ?_
        refine Eng.call Tryd.func40 (by kernel_rfl) (by kernel_rfl) rfl #[.agg #[pv, bv, .int .i64 m], av] ?_ ?_
        · have e0 : a.eval (.tmp 34) = .agg #[pv, bv, .int .i64 m] := (H.dep 1 34 (by kernel_rfl) rfl); have e1 : a.eval (.tmp 35) = av := (H.dep 2 35 (by kernel_rfl) rfl); simp only [List.map_toArray, List.map_cons, List.map_nil, e0, e1]
        refine (Nfa.run_calls pv bv m ps (Nfa.begs ps ps.length) vs av la _ ((Nfa.Tab.below hTab H.below)).len ((Nfa.Tab.below hTab H.below)).rp ((Nfa.Tab.below hTab H.below)).ri ((Nfa.Tab.below hTab H.below)).rb (Eng.Reads.below Fra_14 H.below)).mono ?_
        rintro e w'' ⟨rfl, hb⟩
        exact ⟨_, rfl, rfl, hb⟩
      · refine Eng.plain rfl rfl fun a w' H => ?_
        refine Eng.call Tryd.func44 (by kernel_rfl) (by kernel_rfl) rfl #[.agg #[pv, bv, .int .i64 m], .agg ((List.map (Value.int .u64) (Nfa.run ps (Nfa.begs ps ps.length) la)).toArray)] ?_ ?_
        · have e0 : a.eval (.tmp 33) = .agg #[pv, bv, .int .i64 m] := (H.dep 0 33 (by kernel_rfl) rfl); have e1 : a.eval (.tmp 36) = .agg ((List.map (Value.int .u64) (Nfa.run ps (Nfa.begs ps ps.length) la)).toArray) := (H.dep 3 36 (by kernel_rfl) rfl); simp only [List.map_toArray, List.map_cons, List.map_nil, e0, e1]
        refine (Nfa.accept_calls pv bv m ps (Nfa.begs ps ps.length) vs (Nfa.run ps (Nfa.begs ps ps.length) la) _ ((Nfa.run_len _ _ _)) (by first | decide | (simp; done) | omega) ((Nfa.Tab.below hTab H.below)).len ((Nfa.Tab.below hTab H.below)).rp ((Nfa.Tab.below hTab H.below)).ri ((Nfa.Tab.below hTab H.below)).rb).mono ?_
        rintro e w'' ⟨v, rfl, O, hb⟩
        exact ⟨_, rfl, Eng.own_mono O H.below.size, hb⟩
      · exact absurd hlt (by decide)
    intro act18 w18 T
    have h0_18 : act18.eval (.tmp 0) = pa := (T.rest 0 (by kernel_rfl)).trans h0_14
    have h1_18 : act18.eval (.tmp 1) = av := (T.rest 1 (by kernel_rfl)).trans h1_14
    have h4_18 : act18.eval (.tmp 4) = .bool false := (T.rest 4 (by kernel_rfl)).trans h4_14
    have h5_18 : act18.eval (.tmp 5) = v_4 := (T.rest 5 (by kernel_rfl)).trans h5_14
    have h6_18 : act18.eval (.tmp 6) = .pointer (some ⟨g6_11, 0, none⟩) := (T.rest 6 (by kernel_rfl)).trans h6_14
    have h7_18 : act18.eval (.tmp 7) = .int .i64 (Nfa.code ps) := (T.rest 7 (by kernel_rfl)).trans h7_14
    have h14_18 : act18.eval (.tmp 14) = .bool q14 := (T.rest 14 (by kernel_rfl)).trans h14_14
    have h32_18 : act18.eval (.tmp 32) = .bool q32 := (T.rest 32 (by kernel_rfl)).trans h32_14
    have kg6_11_18 := (T.below.block _ lg6_11_14).trans kg6_11_14
    have lg6_11_18 := Nat.lt_of_lt_of_le lg6_11_14 T.below.size
    have Fpp_18 := Eng.Reads.below Fpp_14 T.below
    have Fra_18 := Eng.Reads.below Fra_14 T.below
    have Fth_18 := Eng.Reads.below Fth_14 T.below
    have Oth_18 := Eng.own_below Oth_14 T.below
    have OO37_18 := T.done 4 37 rfl rfl
    obtain ⟨v37_18, h37_18⟩ : ∃ v, act18.eval (.tmp 37) = v := ⟨_, rfl⟩
    have d18 := T.defers.trans d14
    have s18 := T.size.trans s14
    have bl18 := bl14.trans (T.below.mono bl14.size)
    have XE_18 := Pth.Each.below XE_14 T.below
    have XT_18 := Nfa.Tab.below hTab T.below
    have OP37_18 : w18.ownsRow w14.heap.size 3 1 v37_18 (Nfa.accept ps (Nfa.begs ps ps.length) (Nfa.run ps (Nfa.begs ps ps.length) la)).length (Nfa.ints (Nfa.accept ps (Nfa.begs ps ps.length) (Nfa.run ps (Nfa.begs ps ps.length) la))) := by rw [← h37_18]; exact OO37_18
    clear OO37_18
    have FOa37_18 := Eng.Reads.of_own OP37_18
    clear T
    refine Eng.tail_val rfl rfl rfl (Eng.run_assign rfl h37_18) s18 rfl fun act19 d19 s19 hv hr => ?_
    have h0_19 : act19.eval (.tmp 0) = pa := (hr 0 rfl).trans h0_18
    have h1_19 : act19.eval (.tmp 1) = av := (hr 1 rfl).trans h1_18
    have h4_19 : act19.eval (.tmp 4) = .bool false := (hr 4 rfl).trans h4_18
    have h5_19 : act19.eval (.tmp 5) = v_4 := (hr 5 rfl).trans h5_18
    have h6_19 : act19.eval (.tmp 6) = .pointer (some ⟨g6_11, 0, none⟩) := (hr 6 rfl).trans h6_18
    have h7_19 : act19.eval (.tmp 7) = .int .i64 (Nfa.code ps) := (hr 7 rfl).trans h7_18
    have h14_19 : act19.eval (.tmp 14) = .bool q14 := (hr 14 rfl).trans h14_18
    have h32_19 : act19.eval (.tmp 32) = .bool q32 := (hr 32 rfl).trans h32_18
    have h37_19 : act19.eval (.tmp 37) = v37_18 := (hr 37 rfl).trans h37_18
    have h8_19 : act19.eval (.tmp 8) = v37_18 := hv
    have d19 := d19.trans d18
    clear hv hr
    refine Eng.tail_nil ?_
    first | show Code.wp Tryd.prog _ _ _ _ | skip
    refine wp_seq ?_
    refine wp_seq ?_
    refine Eng.regionS (Eng.still [fun u_ => u_ = v_4, fun u_ => u_ = .int .i64 ((ps.length : Nat) : Int), fun u_ => u_ = .int .i64 0]) (fun i => ([.plain, .plain, .plain] : List Eng.Kind).getD i .plain) 3 0 67 s19 rfl (by kernel_rfl) (Eng.still_stable _) (Or.inr (Eng.still_any _)) ?_ ?_
    · refine Eng.Steps.cons (fun _ => ?_) (Eng.Steps.cons (fun _ => ?_) (Eng.Steps.cons (fun _ => ?_) (Eng.Steps.nil)))
      · refine Eng.plain rfl rfl fun a w' H => ?_
        exact Eng.val (w1 := w') (v := v_4) (Eng.run_move rfl ((H.kept 5 (by kernel_rfl)).trans h5_19)) (Below.refl _ _) rfl
      · refine Eng.plain rfl rfl fun a w' H => ?_
        refine Eng.val (w1 := w') (v := .int .i64 ((ps.length : Nat) : Int)) ?_ (Below.refl _ _) rfl
        exact Eng.run_len_sl rfl Tryd.underlying62 (show a.eval (.tmp 38) = v_4 from (H.dep 0 38 (by kernel_rfl) rfl)) (Eng.Reads.below Fth_18 H.below)
      · refine Eng.plain rfl rfl fun a w' H => ?_
        exact Eng.val (w1 := w') (v := .int .i64 0) (Eng.run_move rfl (rfl : a.eval (.const (.int .i64 0)) = .int .i64 0)) (Below.refl _ _) rfl
    intro act20 w20 T
    have h0_20 : act20.eval (.tmp 0) = pa := (T.rest 0 (by kernel_rfl)).trans h0_19
    have h1_20 : act20.eval (.tmp 1) = av := (T.rest 1 (by kernel_rfl)).trans h1_19
    have h4_20 : act20.eval (.tmp 4) = .bool false := (T.rest 4 (by kernel_rfl)).trans h4_19
    have h5_20 : act20.eval (.tmp 5) = v_4 := (T.rest 5 (by kernel_rfl)).trans h5_19
    have h6_20 : act20.eval (.tmp 6) = .pointer (some ⟨g6_11, 0, none⟩) := (T.rest 6 (by kernel_rfl)).trans h6_19
    have h7_20 : act20.eval (.tmp 7) = .int .i64 (Nfa.code ps) := (T.rest 7 (by kernel_rfl)).trans h7_19
    have h8_20 : act20.eval (.tmp 8) = v37_18 := (T.rest 8 (by kernel_rfl)).trans h8_19
    have h14_20 : act20.eval (.tmp 14) = .bool q14 := (T.rest 14 (by kernel_rfl)).trans h14_19
    have h32_20 : act20.eval (.tmp 32) = .bool q32 := (T.rest 32 (by kernel_rfl)).trans h32_19
    have kg6_11_20 := (T.below.block _ lg6_11_18).trans kg6_11_18
    have lg6_11_20 := Nat.lt_of_lt_of_le lg6_11_18 T.below.size
    have Fpp_20 := Eng.Reads.below Fpp_18 T.below
    have Fra_20 := Eng.Reads.below Fra_18 T.below
    have Fth_20 := Eng.Reads.below Fth_18 T.below
    have Oth_20 := Eng.own_below Oth_18 T.below
    have Fa37_20 := Eng.Reads.below FOa37_18 T.below
    have Oa37_20 := Eng.own_below (Eng.own_mono OP37_18 bl14.size) T.below
    have h38_20 : act20.eval (.tmp 38) = v_4 := T.done 0 38 rfl rfl
    have h39_20 : act20.eval (.tmp 39) = .int .i64 ((ps.length : Nat) : Int) := T.done 1 39 rfl rfl
    have h40_20 : act20.eval (.tmp 40) = .int .i64 0 := T.done 2 40 rfl rfl
    have d20 := T.defers.trans d19
    have s20 := T.size.trans s19
    have bl20 := bl18.trans (T.below.mono bl18.size)
    have XE_20 := Pth.Each.below XE_18 T.below
    have XT_20 := Nfa.Tab.below XT_18 T.below
    clear T
    refine Eng.tail_nil ?_
    first | show Code.wp Tryd.prog _ _ _ _ | skip
    refine wp_block ?_
    refine Eng.loopN (fun n a w' => ∃ (k : Nat), ps.length - k = n ∧ (k ≤ ps.length) ∧ (w'.ownsRow w.heap.size 82 1 v_4 ps.length vl) ∧ (Pth.Each w.heap.size ps vl w') ∧ (w'.ownsRow w.heap.size 3 1 v37_18 (Nfa.accept ps (Nfa.begs ps ps.length) (Nfa.run ps (Nfa.begs ps ps.length) la)).length (Nfa.ints (Nfa.accept ps (Nfa.begs ps ps.length) (Nfa.run ps (Nfa.begs ps ps.length) la)))) ∧ a.defers = [] ∧ a.tmps.size = 67 ∧ Below w.heap.size w w' ∧ a.eval (.tmp 0) = pa ∧ a.eval (.tmp 1) = av ∧ a.eval (.tmp 5) = v_4 ∧ a.eval (.tmp 6) = .pointer (some ⟨g6_11, 0, none⟩) ∧ a.eval (.tmp 7) = .int .i64 (Nfa.code ps) ∧ a.eval (.tmp 8) = v37_18 ∧ a.eval (.tmp 14) = .bool q14 ∧ a.eval (.tmp 32) = .bool q32 ∧ a.eval (.tmp 38) = v_4 ∧ a.eval (.tmp 39) = .int .i64 ((ps.length : Nat) : Int) ∧ a.eval (.tmp 40) = .int .i64 (k : Nat) ∧ w'.heap[g6_11]? = some (.cells (#[pv, bv, .int .i64 m]) 65 (0, 0)) ∧ g6_11 < w'.heap.size) (n0 := ps.length - 0) ?_ ?_
    · exact ⟨0, rfl, by omega, Oth_20, XE_20, Oa37_20, d20, s20, bl20, h0_20, h1_20, h5_20, h6_20, h7_20, h8_20, h14_20, h32_20, h38_20, h39_20, (h40_20.trans (by first | rfl | (congr 1; rw [Eng.i64_id (by omega) (by omega)]; omega) | (simp; done))), kg6_11_20, lg6_11_20⟩
    rintro n act21 w21 ⟨k, rfl, hc0_21, hc1_21, hc2_21, hc3_21, d21, s21, bl21, h0_21, h1_21, h5_21, h6_21, h7_21, h8_21, h14_21, h32_21, h38_21, h39_21, h40_21, kg6_11_21, lg6_11_21⟩
    have Fpp_21 := Eng.Reads.below hp bl21
    have Fra_21 := Eng.Reads.below hra bl21
    have hk1 := hc0_21
    have Fth_21 := Eng.Reads.of_own hc1_21
    have Fa37_21 := Eng.Reads.of_own hc3_21
    refine wp_seq ?_
    obtain ⟨q41, Bq41⟩ : ∃ b : Bool, b = (decide ((k : Nat) < ((ps.length : Nat) : Int))) := ⟨_, rfl⟩
    refine Eng.regionS (Eng.still [fun u_ => u_ = .bool q41]) (fun i => ([.plain] : List Eng.Kind).getD i .plain) 1 0 67 s21 rfl (by kernel_rfl) (Eng.still_stable _) (Or.inr (Eng.still_any _)) ?_ ?_
    · refine Eng.Steps.cons (fun _ => ?_) (Eng.Steps.nil)
      · refine Eng.plain rfl rfl fun a w' H => ?_
        refine Eng.val (w1 := w') (v := .bool (decide ((k : Nat) < ((ps.length : Nat) : Int)))) ?_ (Below.refl _ _) (by show _ = Value.bool q41; rw [Bq41])
        have e0 : a.eval (.tmp 40) = .int .i64 (k : Nat) := ((H.kept 40 (by kernel_rfl)).trans h40_21)
        have e1 : a.eval (.tmp 39) = .int .i64 ((ps.length : Nat) : Int) := ((H.kept 39 (by kernel_rfl)).trans h39_21)
        simp only [execOp, resolve, List.map_toArray, List.map_cons, List.map_nil, e0, e1]
        go_simp
        all_goals first | rfl | (simp; done) | (rw [Bool.eq_iff_iff]; simp; done) | omega | skip
    intro act22 w22 T
    have h0_22 : act22.eval (.tmp 0) = pa := (T.rest 0 (by kernel_rfl)).trans h0_21
    have h1_22 : act22.eval (.tmp 1) = av := (T.rest 1 (by kernel_rfl)).trans h1_21
    have h5_22 : act22.eval (.tmp 5) = v_4 := (T.rest 5 (by kernel_rfl)).trans h5_21
    have h6_22 : act22.eval (.tmp 6) = .pointer (some ⟨g6_11, 0, none⟩) := (T.rest 6 (by kernel_rfl)).trans h6_21
    have h7_22 : act22.eval (.tmp 7) = .int .i64 (Nfa.code ps) := (T.rest 7 (by kernel_rfl)).trans h7_21
    have h8_22 : act22.eval (.tmp 8) = v37_18 := (T.rest 8 (by kernel_rfl)).trans h8_21
    have h14_22 : act22.eval (.tmp 14) = .bool q14 := (T.rest 14 (by kernel_rfl)).trans h14_21
    have h32_22 : act22.eval (.tmp 32) = .bool q32 := (T.rest 32 (by kernel_rfl)).trans h32_21
    have h38_22 : act22.eval (.tmp 38) = v_4 := (T.rest 38 (by kernel_rfl)).trans h38_21
    have h39_22 : act22.eval (.tmp 39) = .int .i64 ((ps.length : Nat) : Int) := (T.rest 39 (by kernel_rfl)).trans h39_21
    have h40_22 : act22.eval (.tmp 40) = .int .i64 (k : Nat) := (T.rest 40 (by kernel_rfl)).trans h40_21
    have kg6_11_22 := (T.below.block _ lg6_11_21).trans kg6_11_21
    have lg6_11_22 := Nat.lt_of_lt_of_le lg6_11_21 T.below.size
    have Fpp_22 := Eng.Reads.below Fpp_21 T.below
    have Fra_22 := Eng.Reads.below Fra_21 T.below
    have Fth_22 := Eng.Reads.below Fth_21 T.below
    have Oth_22 := Eng.own_below hc1_21 T.below
    have Fa37_22 := Eng.Reads.below Fa37_21 T.below
    have Oa37_22 := Eng.own_below hc3_21 T.below
    have h41_22 : act22.eval (.tmp 41) = .bool q41 := T.done 0 41 rfl rfl
    have d22 := T.defers.trans d21
    have s22 := T.size.trans s21
    have bl22 := bl21.trans (T.below.mono bl21.size)
    have XE_22 := Pth.Each.below hc2_21 T.below
    clear T
    refine Eng.tail_nil ?_
    first | show Code.wp Tryd.prog _ _ _ _ | skip
    refine wp_seq ?_
    refine wp_cond_split h41_22 (fun hq => ?_) (fun hq => ?_)
    ·
      have kn23 := hq
      have c41 := Bq41.symm.trans hq
      clear hq
      have c41 := of_decide_eq_true c41
      have hk0 : k < ps.length := by omega
      have Finn24 := Pth.Each.reads XE_22 hvl k hk0
      have hap := Nfa.apart ps la hcode hheavy hla hk0
      refine wp_skip ?_
      first | show Code.wp Tryd.prog _ _ _ _ | skip
      refine wp_seq ?_
      refine wp_block ?_
      refine wp_seq ?_
      refine Eng.regionS (Eng.still [fun u_ => u_ = .int .i64 (k : Nat), fun u_ => u_ = Eng.elemPtr v_4 (k * 1), fun u_ => u_ = (vl.getD k undef), fun u_ => u_ = .int .i64 (k : Nat), fun u_ => u_ = (vl.getD k undef)]) (fun i => ([.plain, .plain, .plain, .plain, .plain] : List Eng.Kind).getD i .plain) 5 0 67 s22 rfl (by kernel_rfl) (Eng.still_stable _) (Or.inr (Eng.still_any _)) ?_ ?_
      · refine Eng.Steps.cons (fun _ => ?_) (Eng.Steps.cons (fun _ => ?_) (Eng.Steps.cons (fun _ => ?_) (Eng.Steps.cons (fun _ => ?_) (Eng.Steps.cons (fun _ => ?_) (Eng.Steps.nil)))))
        · refine Eng.plain rfl rfl fun a w' H => ?_
          exact Eng.val (w1 := w') (v := .int .i64 (k : Nat)) (Eng.run_move rfl ((H.kept 40 (by kernel_rfl)).trans h40_22)) (Below.refl _ _) rfl
        · refine Eng.plain rfl rfl fun a w' H => ?_
          refine Eng.val (w1 := w') (v := Eng.elemPtr v_4 (k * 1)) ?_ (Below.refl _ _) rfl
          exact Eng.run_index_sl rfl Tryd.underlying62 (by kernel_rfl) (show a.eval (.tmp 38) = v_4 from ((H.kept 38 (by kernel_rfl)).trans h38_22)) ((show a.eval (.tmp 40) = .int .i64 (k : Nat) from ((H.kept 40 (by kernel_rfl)).trans h40_22)).trans (congrArg (Value.int _) (show (k : Nat) = ((k : Nat) : Int) from by omega))) (Eng.Reads.below Fth_22 H.below) (by omega) rfl
        · refine Eng.plain rfl rfl fun a w' H => ?_
          refine Eng.val (w1 := w') (v := (vl.getD k undef)) ?_ (Below.refl _ _) rfl
          exact Eng.run_load_el ((vl.getD k undef)) rfl (show a.eval (.tmp 43) = Eng.elemPtr v_4 (k * 1) from (H.dep 1 43 (by kernel_rfl) rfl)) (Eng.Reads.below Fth_22 H.below) (Nfa.at_one vl hvl (by omega)) (by kernel_rfl)
        · refine Eng.plain rfl rfl fun a w' H => ?_
          exact Eng.val (w1 := w') (v := .int .i64 (k : Nat)) (Eng.run_assign rfl (H.dep 0 42 (by kernel_rfl) rfl)) (Below.refl _ _) rfl
        · refine Eng.plain rfl rfl fun a w' H => ?_
          exact Eng.val (w1 := w') (v := (vl.getD k undef)) (Eng.run_assign rfl (H.dep 2 44 (by kernel_rfl) rfl)) (Below.refl _ _) rfl
      intro act25 w25 T
      have h0_25 : act25.eval (.tmp 0) = pa := (T.rest 0 (by kernel_rfl)).trans h0_22
      have h1_25 : act25.eval (.tmp 1) = av := (T.rest 1 (by kernel_rfl)).trans h1_22
      have h5_25 : act25.eval (.tmp 5) = v_4 := (T.rest 5 (by kernel_rfl)).trans h5_22
      have h6_25 : act25.eval (.tmp 6) = .pointer (some ⟨g6_11, 0, none⟩) := (T.rest 6 (by kernel_rfl)).trans h6_22
      have h7_25 : act25.eval (.tmp 7) = .int .i64 (Nfa.code ps) := (T.rest 7 (by kernel_rfl)).trans h7_22
      have h8_25 : act25.eval (.tmp 8) = v37_18 := (T.rest 8 (by kernel_rfl)).trans h8_22
      have h14_25 : act25.eval (.tmp 14) = .bool q14 := (T.rest 14 (by kernel_rfl)).trans h14_22
      have h32_25 : act25.eval (.tmp 32) = .bool q32 := (T.rest 32 (by kernel_rfl)).trans h32_22
      have h38_25 : act25.eval (.tmp 38) = v_4 := (T.rest 38 (by kernel_rfl)).trans h38_22
      have h39_25 : act25.eval (.tmp 39) = .int .i64 ((ps.length : Nat) : Int) := (T.rest 39 (by kernel_rfl)).trans h39_22
      have h40_25 : act25.eval (.tmp 40) = .int .i64 (k : Nat) := (T.rest 40 (by kernel_rfl)).trans h40_22
      have h41_25 : act25.eval (.tmp 41) = .bool q41 := (T.rest 41 (by kernel_rfl)).trans h41_22
      have kg6_11_25 := (T.below.block _ lg6_11_22).trans kg6_11_22
      have lg6_11_25 := Nat.lt_of_lt_of_le lg6_11_22 T.below.size
      have Fpp_25 := Eng.Reads.below Fpp_22 T.below
      have Fra_25 := Eng.Reads.below Fra_22 T.below
      have Fth_25 := Eng.Reads.below Fth_22 T.below
      have Oth_25 := Eng.own_below Oth_22 T.below
      have Fa37_25 := Eng.Reads.below Fa37_22 T.below
      have Oa37_25 := Eng.own_below Oa37_22 T.below
      have Finn_25 := Eng.Reads.below Finn24 T.below
      have h9_25 : act25.eval (.tmp 9) = .int .i64 (k : Nat) := T.done 3 9 rfl rfl
      have h10_25 : act25.eval (.tmp 10) = (vl.getD k undef) := T.done 4 10 rfl rfl
      have d25 := T.defers.trans d22
      have s25 := T.size.trans s22
      have bl25 := bl22.trans (T.below.mono bl22.size)
      have XE_25 := Pth.Each.below XE_22 T.below
      clear T
      refine Eng.tail_nil ?_
      first | show Code.wp Tryd.prog _ _ _ _ | skip
      refine wp_seq ?_
      refine (wpIn_wide (n := 1)).1 ?_
      refine EngI.regionT (n := 9) rfl ?_
      refine EngI.tail_val EngI.free_wide rfl rfl rfl rfl (Eng.run_move rfl h10_25) s25 rfl fun act26 d26 s26 hv hr => ?_
      have h0_26 : act26.eval (.tmp 0) = pa := (hr 0 rfl).trans h0_25
      have h1_26 : act26.eval (.tmp 1) = av := (hr 1 rfl).trans h1_25
      have h5_26 : act26.eval (.tmp 5) = v_4 := (hr 5 rfl).trans h5_25
      have h6_26 : act26.eval (.tmp 6) = .pointer (some ⟨g6_11, 0, none⟩) := (hr 6 rfl).trans h6_25
      have h7_26 : act26.eval (.tmp 7) = .int .i64 (Nfa.code ps) := (hr 7 rfl).trans h7_25
      have h8_26 : act26.eval (.tmp 8) = v37_18 := (hr 8 rfl).trans h8_25
      have h9_26 : act26.eval (.tmp 9) = .int .i64 (k : Nat) := (hr 9 rfl).trans h9_25
      have h10_26 : act26.eval (.tmp 10) = (vl.getD k undef) := (hr 10 rfl).trans h10_25
      have h14_26 : act26.eval (.tmp 14) = .bool q14 := (hr 14 rfl).trans h14_25
      have h32_26 : act26.eval (.tmp 32) = .bool q32 := (hr 32 rfl).trans h32_25
      have h38_26 : act26.eval (.tmp 38) = v_4 := (hr 38 rfl).trans h38_25
      have h39_26 : act26.eval (.tmp 39) = .int .i64 ((ps.length : Nat) : Int) := (hr 39 rfl).trans h39_25
      have h40_26 : act26.eval (.tmp 40) = .int .i64 (k : Nat) := (hr 40 rfl).trans h40_25
      have h41_26 : act26.eval (.tmp 41) = .bool q41 := (hr 41 rfl).trans h41_25
      have h46_26 : act26.eval (.tmp 46) = (vl.getD k undef) := hv
      have d26 := d26.trans d25
      clear hv hr
      refine EngI.tail_ex EngI.free_wide rfl rfl rfl rfl (Eng.run_buildN1 (z := .slice none 0 0) [(vl.getD k undef)] rfl Tryd.underlying62 (by kernel_rfl) rfl rfl rfl rfl (by intro v hv; have h := List.mem_singleton.1 hv; rw [h]; exact (Eng.Reads.cells1 Finn_25)) (by have e0 : act26.eval (.tmp 46) = (vl.getD k undef) := h46_26; simp [e0])) s26 rfl fun v_27 w27 act27 R d27 s27 hv hr => ?_
      obtain ⟨F_27, b_27⟩ := R
      have h0_27 : act27.eval (.tmp 0) = pa := (hr 0 rfl).trans h0_26
      have h1_27 : act27.eval (.tmp 1) = av := (hr 1 rfl).trans h1_26
      have h5_27 : act27.eval (.tmp 5) = v_4 := (hr 5 rfl).trans h5_26
      have h6_27 : act27.eval (.tmp 6) = .pointer (some ⟨g6_11, 0, none⟩) := (hr 6 rfl).trans h6_26
      have h7_27 : act27.eval (.tmp 7) = .int .i64 (Nfa.code ps) := (hr 7 rfl).trans h7_26
      have h8_27 : act27.eval (.tmp 8) = v37_18 := (hr 8 rfl).trans h8_26
      have h9_27 : act27.eval (.tmp 9) = .int .i64 (k : Nat) := (hr 9 rfl).trans h9_26
      have h10_27 : act27.eval (.tmp 10) = (vl.getD k undef) := (hr 10 rfl).trans h10_26
      have h14_27 : act27.eval (.tmp 14) = .bool q14 := (hr 14 rfl).trans h14_26
      have h32_27 : act27.eval (.tmp 32) = .bool q32 := (hr 32 rfl).trans h32_26
      have h38_27 : act27.eval (.tmp 38) = v_4 := (hr 38 rfl).trans h38_26
      have h39_27 : act27.eval (.tmp 39) = .int .i64 ((ps.length : Nat) : Int) := (hr 39 rfl).trans h39_26
      have h40_27 : act27.eval (.tmp 40) = .int .i64 (k : Nat) := (hr 40 rfl).trans h40_26
      have h41_27 : act27.eval (.tmp 41) = .bool q41 := (hr 41 rfl).trans h41_26
      have h46_27 : act27.eval (.tmp 46) = (vl.getD k undef) := (hr 46 rfl).trans h46_26
      have h47_27 : act27.eval (.tmp 47) = v_27 := hv
      have d27 := d27.trans d26
      clear hv hr
      have kg6_11_27 := (b_27.block _ lg6_11_25).trans kg6_11_25
      have lg6_11_27 := Nat.lt_of_lt_of_le lg6_11_25 b_27.size
      have Fpp_27 := Eng.Reads.below Fpp_25 b_27
      have Fra_27 := Eng.Reads.below Fra_25 b_27
      have Fth_27 := Eng.Reads.below Fth_25 b_27
      have Oth_27 := Eng.own_below Oth_25 b_27
      have Fa37_27 := Eng.Reads.below Fa37_25 b_27
      have Oa37_27 := Eng.own_below Oa37_25 b_27
      have Finn_27 := Eng.Reads.below Finn_25 b_27
      have XE_27 := Pth.Each.below XE_25 b_27
      have bl27 := bl25.trans (b_27.mono bl25.size)
      refine EngI.tail_call EngI.free_wide Tryd.func36 (by kernel_rfl) (by kernel_rfl) rfl rfl rfl rfl #[v_27] (by have e0 : act27.eval (.tmp 47) = v_27 := h47_27; simp only [List.map_toArray, List.map_cons, List.map_nil, e0]) s27 rfl (R := fun v w' => ∃ pv bv vs m, v = .tuple #[.agg #[pv, bv, .int .i64 m], .int .i64 (Nfa.code ([ps.getD k []]))] ∧ (Nfa.Slc pv ∧ Nfa.Slc bv) ∧ Nfa.Made w27.heap.size pv bv ([ps.getD k []]) vs m w' ∧ Below w27.heap.size w27 w') ((Nfa.make_calls v_27 ([ps.getD k []]) ([vl.getD k undef]) _ rfl F_27 (Nfa.one_row Finn_27) (Nfa.one_le (hsz k hk0)) (by simp) (Nfa.one_st (hst k hk0)) (Tabs.below hT bl27)).mono ?_) fun v_28 w28 act28 R d28 s28 hv hr => ?_
      · rintro e w1 ⟨pv, bv, vs, m, rfl, h1, h2, h3⟩; exact ⟨_, rfl, pv, bv, vs, m, rfl, h1, h2, h3⟩
      have h0_28 : act28.eval (.tmp 0) = pa := (hr 0 rfl).trans h0_27
      have h1_28 : act28.eval (.tmp 1) = av := (hr 1 rfl).trans h1_27
      have h5_28 : act28.eval (.tmp 5) = v_4 := (hr 5 rfl).trans h5_27
      have h6_28 : act28.eval (.tmp 6) = .pointer (some ⟨g6_11, 0, none⟩) := (hr 6 rfl).trans h6_27
      have h7_28 : act28.eval (.tmp 7) = .int .i64 (Nfa.code ps) := (hr 7 rfl).trans h7_27
      have h8_28 : act28.eval (.tmp 8) = v37_18 := (hr 8 rfl).trans h8_27
      have h9_28 : act28.eval (.tmp 9) = .int .i64 (k : Nat) := (hr 9 rfl).trans h9_27
      have h10_28 : act28.eval (.tmp 10) = (vl.getD k undef) := (hr 10 rfl).trans h10_27
      have h14_28 : act28.eval (.tmp 14) = .bool q14 := (hr 14 rfl).trans h14_27
      have h32_28 : act28.eval (.tmp 32) = .bool q32 := (hr 32 rfl).trans h32_27
      have h38_28 : act28.eval (.tmp 38) = v_4 := (hr 38 rfl).trans h38_27
      have h39_28 : act28.eval (.tmp 39) = .int .i64 ((ps.length : Nat) : Int) := (hr 39 rfl).trans h39_27
      have h40_28 : act28.eval (.tmp 40) = .int .i64 (k : Nat) := (hr 40 rfl).trans h40_27
      have h41_28 : act28.eval (.tmp 41) = .bool q41 := (hr 41 rfl).trans h41_27
      have h46_28 : act28.eval (.tmp 46) = (vl.getD k undef) := (hr 46 rfl).trans h46_27
      have h47_28 : act28.eval (.tmp 47) = v_27 := (hr 47 rfl).trans h47_27
      have h48_28 : act28.eval (.tmp 48) = v_28 := hv
      have d28 := d28.trans d27
      clear hv hr
      obtain ⟨opv, obv, ovs, om, hv1_28, ⟨hsl0_28, hsl1_28⟩, hM_28, hb28⟩ := R
      have hMm_28 := Nfa.Made.mono hM_28 bl27.size
      clear hM_28
      have kg6_11_28 := (hb28.block _ lg6_11_27).trans kg6_11_27
      have lg6_11_28 := Nat.lt_of_lt_of_le lg6_11_27 hb28.size
      have Fpp_28 := Eng.Reads.below Fpp_27 hb28
      have Fra_28 := Eng.Reads.below Fra_27 hb28
      have Fth_28 := Eng.Reads.below Fth_27 hb28
      have Oth_28 := Eng.own_below Oth_27 hb28
      have Fa37_28 := Eng.Reads.below Fa37_27 hb28
      have Oa37_28 := Eng.own_below Oa37_27 hb28
      have Finn_28 := Eng.Reads.below Finn_27 hb28
      have Fb47_28 := Eng.Reads.below F_27 hb28
      have XE_28 := Pth.Each.below XE_27 hb28
      have bl28 := bl27.trans (hb28.mono bl27.size)
      rw [hv1_28] at h48_28
      have hone := Nfa.code_one hcode hk0
      obtain ⟨hTo, hmo⟩ := hMm_28 hone
      rw [hone] at h48_28
      refine EngI.tail_val EngI.free_wide rfl rfl rfl rfl (Eng.run_move rfl h48_28) s28 rfl fun act29 d29 s29 hv hr => ?_
      have h0_29 : act29.eval (.tmp 0) = pa := (hr 0 rfl).trans h0_28
      have h1_29 : act29.eval (.tmp 1) = av := (hr 1 rfl).trans h1_28
      have h5_29 : act29.eval (.tmp 5) = v_4 := (hr 5 rfl).trans h5_28
      have h6_29 : act29.eval (.tmp 6) = .pointer (some ⟨g6_11, 0, none⟩) := (hr 6 rfl).trans h6_28
      have h7_29 : act29.eval (.tmp 7) = .int .i64 (Nfa.code ps) := (hr 7 rfl).trans h7_28
      have h8_29 : act29.eval (.tmp 8) = v37_18 := (hr 8 rfl).trans h8_28
      have h9_29 : act29.eval (.tmp 9) = .int .i64 (k : Nat) := (hr 9 rfl).trans h9_28
      have h10_29 : act29.eval (.tmp 10) = (vl.getD k undef) := (hr 10 rfl).trans h10_28
      have h14_29 : act29.eval (.tmp 14) = .bool q14 := (hr 14 rfl).trans h14_28
      have h32_29 : act29.eval (.tmp 32) = .bool q32 := (hr 32 rfl).trans h32_28
      have h38_29 : act29.eval (.tmp 38) = v_4 := (hr 38 rfl).trans h38_28
      have h39_29 : act29.eval (.tmp 39) = .int .i64 ((ps.length : Nat) : Int) := (hr 39 rfl).trans h39_28
      have h40_29 : act29.eval (.tmp 40) = .int .i64 (k : Nat) := (hr 40 rfl).trans h40_28
      have h41_29 : act29.eval (.tmp 41) = .bool q41 := (hr 41 rfl).trans h41_28
      have h46_29 : act29.eval (.tmp 46) = (vl.getD k undef) := (hr 46 rfl).trans h46_28
      have h47_29 : act29.eval (.tmp 47) = v_27 := (hr 47 rfl).trans h47_28
      have h48_29 : act29.eval (.tmp 48) = .tuple #[.agg #[opv, obv, .int .i64 om], .int .i64 0] := (hr 48 rfl).trans h48_28
      have h45_29 : act29.eval (.tmp 45) = .tuple #[.agg #[opv, obv, .int .i64 om], .int .i64 0] := hv
      have d29 := d29.trans d28
      clear hv hr
      refine EngI.tail_val (w1 := w28) (v := .agg #[opv, obv, .int .i64 om]) EngI.free_wide rfl rfl rfl rfl ?_ s29 rfl ?_
      · have e0 : act29.eval (.tmp 45) = .tuple #[.agg #[opv, obv, .int .i64 om], .int .i64 0] := h45_29
        simp only [execOp, resolve, List.map_toArray, List.map_cons, List.map_nil, e0]
        go_simp
        all_goals first | rfl | (simp; done) | (rw [Bool.eq_iff_iff]; simp; done) | omega | skip
      intro act30 d30 s30 hv hr
      have h0_30 : act30.eval (.tmp 0) = pa := (hr 0 rfl).trans h0_29
      have h1_30 : act30.eval (.tmp 1) = av := (hr 1 rfl).trans h1_29
      have h5_30 : act30.eval (.tmp 5) = v_4 := (hr 5 rfl).trans h5_29
      have h6_30 : act30.eval (.tmp 6) = .pointer (some ⟨g6_11, 0, none⟩) := (hr 6 rfl).trans h6_29
      have h7_30 : act30.eval (.tmp 7) = .int .i64 (Nfa.code ps) := (hr 7 rfl).trans h7_29
      have h8_30 : act30.eval (.tmp 8) = v37_18 := (hr 8 rfl).trans h8_29
      have h9_30 : act30.eval (.tmp 9) = .int .i64 (k : Nat) := (hr 9 rfl).trans h9_29
      have h10_30 : act30.eval (.tmp 10) = (vl.getD k undef) := (hr 10 rfl).trans h10_29
      have h14_30 : act30.eval (.tmp 14) = .bool q14 := (hr 14 rfl).trans h14_29
      have h32_30 : act30.eval (.tmp 32) = .bool q32 := (hr 32 rfl).trans h32_29
      have h38_30 : act30.eval (.tmp 38) = v_4 := (hr 38 rfl).trans h38_29
      have h39_30 : act30.eval (.tmp 39) = .int .i64 ((ps.length : Nat) : Int) := (hr 39 rfl).trans h39_29
      have h40_30 : act30.eval (.tmp 40) = .int .i64 (k : Nat) := (hr 40 rfl).trans h40_29
      have h41_30 : act30.eval (.tmp 41) = .bool q41 := (hr 41 rfl).trans h41_29
      have h45_30 : act30.eval (.tmp 45) = .tuple #[.agg #[opv, obv, .int .i64 om], .int .i64 0] := (hr 45 rfl).trans h45_29
      have h46_30 : act30.eval (.tmp 46) = (vl.getD k undef) := (hr 46 rfl).trans h46_29
      have h47_30 : act30.eval (.tmp 47) = v_27 := (hr 47 rfl).trans h47_29
      have h48_30 : act30.eval (.tmp 48) = .tuple #[.agg #[opv, obv, .int .i64 om], .int .i64 0] := (hr 48 rfl).trans h48_29
      have h49_30 : act30.eval (.tmp 49) = .agg #[opv, obv, .int .i64 om] := hv
      have d30 := d30.trans d29
      clear hv hr
      refine EngI.tail_val (w1 := w28) (v := .int .i64 (0 : Int)) EngI.free_wide rfl rfl rfl rfl ?_ s30 rfl ?_
      · have e0 : act30.eval (.tmp 45) = .tuple #[.agg #[opv, obv, .int .i64 om], .int .i64 0] := h45_30
        simp only [execOp, resolve, List.map_toArray, List.map_cons, List.map_nil, e0]
        go_simp
        all_goals first | rfl | (simp; done) | (rw [Bool.eq_iff_iff]; simp; done) | omega | skip
      intro act31 d31 s31 hv hr
      have h0_31 : act31.eval (.tmp 0) = pa := (hr 0 rfl).trans h0_30
      have h1_31 : act31.eval (.tmp 1) = av := (hr 1 rfl).trans h1_30
      have h5_31 : act31.eval (.tmp 5) = v_4 := (hr 5 rfl).trans h5_30
      have h6_31 : act31.eval (.tmp 6) = .pointer (some ⟨g6_11, 0, none⟩) := (hr 6 rfl).trans h6_30
      have h7_31 : act31.eval (.tmp 7) = .int .i64 (Nfa.code ps) := (hr 7 rfl).trans h7_30
      have h8_31 : act31.eval (.tmp 8) = v37_18 := (hr 8 rfl).trans h8_30
      have h9_31 : act31.eval (.tmp 9) = .int .i64 (k : Nat) := (hr 9 rfl).trans h9_30
      have h10_31 : act31.eval (.tmp 10) = (vl.getD k undef) := (hr 10 rfl).trans h10_30
      have h14_31 : act31.eval (.tmp 14) = .bool q14 := (hr 14 rfl).trans h14_30
      have h32_31 : act31.eval (.tmp 32) = .bool q32 := (hr 32 rfl).trans h32_30
      have h38_31 : act31.eval (.tmp 38) = v_4 := (hr 38 rfl).trans h38_30
      have h39_31 : act31.eval (.tmp 39) = .int .i64 ((ps.length : Nat) : Int) := (hr 39 rfl).trans h39_30
      have h40_31 : act31.eval (.tmp 40) = .int .i64 (k : Nat) := (hr 40 rfl).trans h40_30
      have h41_31 : act31.eval (.tmp 41) = .bool q41 := (hr 41 rfl).trans h41_30
      have h45_31 : act31.eval (.tmp 45) = .tuple #[.agg #[opv, obv, .int .i64 om], .int .i64 0] := (hr 45 rfl).trans h45_30
      have h46_31 : act31.eval (.tmp 46) = (vl.getD k undef) := (hr 46 rfl).trans h46_30
      have h47_31 : act31.eval (.tmp 47) = v_27 := (hr 47 rfl).trans h47_30
      have h48_31 : act31.eval (.tmp 48) = .tuple #[.agg #[opv, obv, .int .i64 om], .int .i64 0] := (hr 48 rfl).trans h48_30
      have h49_31 : act31.eval (.tmp 49) = .agg #[opv, obv, .int .i64 om] := (hr 49 rfl).trans h49_30
      have h50_31 : act31.eval (.tmp 50) = .int .i64 (0 : Int) := hv
      have d31 := d31.trans d30
      clear hv hr
      refine EngI.tail_ex EngI.free_wide rfl rfl rfl rfl (Eng.alloc_ex (cs := #[.slice none 0 0, .slice none 0 0, .int .i64 0]) rfl (by kernel_rfl)) s31 rfl fun v_32 w32 act32 R d32 s32 hv hr => ?_
      obtain ⟨g11_32, ev_32, rg_32, lg11_32, kg11_32, b_32⟩ := R
      have h0_32 : act32.eval (.tmp 0) = pa := (hr 0 rfl).trans h0_31
      have h1_32 : act32.eval (.tmp 1) = av := (hr 1 rfl).trans h1_31
      have h5_32 : act32.eval (.tmp 5) = v_4 := (hr 5 rfl).trans h5_31
      have h6_32 : act32.eval (.tmp 6) = .pointer (some ⟨g6_11, 0, none⟩) := (hr 6 rfl).trans h6_31
      have h7_32 : act32.eval (.tmp 7) = .int .i64 (Nfa.code ps) := (hr 7 rfl).trans h7_31
      have h8_32 : act32.eval (.tmp 8) = v37_18 := (hr 8 rfl).trans h8_31
      have h9_32 : act32.eval (.tmp 9) = .int .i64 (k : Nat) := (hr 9 rfl).trans h9_31
      have h10_32 : act32.eval (.tmp 10) = (vl.getD k undef) := (hr 10 rfl).trans h10_31
      have h14_32 : act32.eval (.tmp 14) = .bool q14 := (hr 14 rfl).trans h14_31
      have h32_32 : act32.eval (.tmp 32) = .bool q32 := (hr 32 rfl).trans h32_31
      have h38_32 : act32.eval (.tmp 38) = v_4 := (hr 38 rfl).trans h38_31
      have h39_32 : act32.eval (.tmp 39) = .int .i64 ((ps.length : Nat) : Int) := (hr 39 rfl).trans h39_31
      have h40_32 : act32.eval (.tmp 40) = .int .i64 (k : Nat) := (hr 40 rfl).trans h40_31
      have h41_32 : act32.eval (.tmp 41) = .bool q41 := (hr 41 rfl).trans h41_31
      have h45_32 : act32.eval (.tmp 45) = .tuple #[.agg #[opv, obv, .int .i64 om], .int .i64 0] := (hr 45 rfl).trans h45_31
      have h46_32 : act32.eval (.tmp 46) = (vl.getD k undef) := (hr 46 rfl).trans h46_31
      have h47_32 : act32.eval (.tmp 47) = v_27 := (hr 47 rfl).trans h47_31
      have h48_32 : act32.eval (.tmp 48) = .tuple #[.agg #[opv, obv, .int .i64 om], .int .i64 0] := (hr 48 rfl).trans h48_31
      have h49_32 : act32.eval (.tmp 49) = .agg #[opv, obv, .int .i64 om] := (hr 49 rfl).trans h49_31
      have h50_32 : act32.eval (.tmp 50) = .int .i64 (0 : Int) := (hr 50 rfl).trans h50_31
      have h11_32 : act32.eval (.tmp 11) = v_32 := hv
      have d32 := d32.trans d31
      clear hv hr
      have ne_g11_32_g6_11 : g6_11 ≠ g11_32 := fun e => Nat.lt_irrefl _ (Nat.lt_of_lt_of_le (e ▸ lg6_11_28) rg_32)
      have og11_32 : w.heap.size ≤ g11_32 := Nat.le_trans bl28.size rg_32
      have kg6_11_32 := (b_32.block _ lg6_11_28).trans kg6_11_28
      have lg6_11_32 := Nat.lt_of_lt_of_le lg6_11_28 b_32.size
      have Fpp_32 := Eng.Reads.below Fpp_28 b_32
      have Fra_32 := Eng.Reads.below Fra_28 b_32
      have Fth_32 := Eng.Reads.below Fth_28 b_32
      have Oth_32 := Eng.own_below Oth_28 b_32
      have Fa37_32 := Eng.Reads.below Fa37_28 b_32
      have Oa37_32 := Eng.own_below Oa37_28 b_32
      have Finn_32 := Eng.Reads.below Finn_28 b_32
      have Fb47_32 := Eng.Reads.below Fb47_28 b_32
      have XE_32 := Pth.Each.below XE_28 b_32
      have XO_32 := Nfa.Tab.below hTo b_32
      have bl32 := bl28.trans (b_32.mono bl28.size)
      rw [ev_32] at h11_32
      refine EngI.tail_put EngI.free_wide [opv, obv, .int .i64 om] (n := 0) (new := #[opv, obv, .int .i64 om]) rfl rfl rfl rfl kg11_32 rfl ?_ fun w33 S => ?_
      · have e0 : act32.eval (.tmp 11) = .pointer (some ⟨g11_32, 0, none⟩) := h11_32
        have e1 : act32.eval (.tmp 49) = .agg #[opv, obv, .int .i64 om] := h49_32
        obtain ⟨A0_, n0_, c0_, ev0_⟩ := hsl0_28
        subst ev0_
        obtain ⟨A1_, n1_, c1_, ev1_⟩ := hsl1_28
        subst ev1_
        have z0 := (Eng.cells kg11_32 (0)).trans (rfl)
        have f0 := Eng.unfrozen kg11_32 (0)
        have z1 := (Eng.cells kg11_32 (1)).trans (rfl)
        have f1 := Eng.unfrozen kg11_32 (1)
        have z2 := (Eng.cells kg11_32 (2)).trans (rfl)
        have f2 := Eng.unfrozen kg11_32 (2)
        simp only [execOp]
        rw [e0, e1]
        go_simp
        try rfl
      have kg6_11_33 := (S.far _ ne_g11_32_g6_11).trans kg6_11_32
      have lg6_11_33 := Nat.lt_of_lt_of_eq lg6_11_32 S.size.symm
      have kg11_32_33 := S.new
      have lg11_32_33 := Nat.lt_of_lt_of_eq lg11_32 S.size.symm
      have bl33 := S.below bl32 og11_32
      have Fpp_33 := Eng.Reads.below hp bl33
      have Fra_33 := Eng.Reads.below hra bl33
      have Oth_33 := Eng.own_sets Oth_32 S kg11_32 rfl
      have Fth_33 := Eng.Reads.of_own Oth_33
      have Oa37_33 := Eng.own_sets Oa37_32 S kg11_32 rfl
      have Fa37_33 := Eng.Reads.of_own Oa37_33
      have XE_33 := Pth.Each.sets XE_32 S kg11_32 rfl
      have XO_33 := Nfa.Tab.sets XO_32 S kg11_32 rfl
      clear S
      refine EngI.tail_val EngI.free_wide rfl rfl rfl rfl (Eng.run_assign rfl h50_32) s32 rfl fun act34 d34 s34 hv hr => ?_
      have h0_34 : act34.eval (.tmp 0) = pa := (hr 0 rfl).trans h0_32
      have h1_34 : act34.eval (.tmp 1) = av := (hr 1 rfl).trans h1_32
      have h5_34 : act34.eval (.tmp 5) = v_4 := (hr 5 rfl).trans h5_32
      have h6_34 : act34.eval (.tmp 6) = .pointer (some ⟨g6_11, 0, none⟩) := (hr 6 rfl).trans h6_32
      have h7_34 : act34.eval (.tmp 7) = .int .i64 (Nfa.code ps) := (hr 7 rfl).trans h7_32
      have h8_34 : act34.eval (.tmp 8) = v37_18 := (hr 8 rfl).trans h8_32
      have h9_34 : act34.eval (.tmp 9) = .int .i64 (k : Nat) := (hr 9 rfl).trans h9_32
      have h10_34 : act34.eval (.tmp 10) = (vl.getD k undef) := (hr 10 rfl).trans h10_32
      have h11_34 : act34.eval (.tmp 11) = .pointer (some ⟨g11_32, 0, none⟩) := (hr 11 rfl).trans h11_32
      have h14_34 : act34.eval (.tmp 14) = .bool q14 := (hr 14 rfl).trans h14_32
      have h32_34 : act34.eval (.tmp 32) = .bool q32 := (hr 32 rfl).trans h32_32
      have h38_34 : act34.eval (.tmp 38) = v_4 := (hr 38 rfl).trans h38_32
      have h39_34 : act34.eval (.tmp 39) = .int .i64 ((ps.length : Nat) : Int) := (hr 39 rfl).trans h39_32
      have h40_34 : act34.eval (.tmp 40) = .int .i64 (k : Nat) := (hr 40 rfl).trans h40_32
      have h41_34 : act34.eval (.tmp 41) = .bool q41 := (hr 41 rfl).trans h41_32
      have h45_34 : act34.eval (.tmp 45) = .tuple #[.agg #[opv, obv, .int .i64 om], .int .i64 0] := (hr 45 rfl).trans h45_32
      have h46_34 : act34.eval (.tmp 46) = (vl.getD k undef) := (hr 46 rfl).trans h46_32
      have h47_34 : act34.eval (.tmp 47) = v_27 := (hr 47 rfl).trans h47_32
      have h48_34 : act34.eval (.tmp 48) = .tuple #[.agg #[opv, obv, .int .i64 om], .int .i64 0] := (hr 48 rfl).trans h48_32
      have h49_34 : act34.eval (.tmp 49) = .agg #[opv, obv, .int .i64 om] := (hr 49 rfl).trans h49_32
      have h50_34 : act34.eval (.tmp 50) = .int .i64 (0 : Int) := (hr 50 rfl).trans h50_32
      have h12_34 : act34.eval (.tmp 12) = .int .i64 (0 : Int) := hv
      have d34 := d34.trans d32
      clear hv hr
      refine EngI.tail_nil ?_
      first | show Code.wp Tryd.prog _ _ _ _ | skip
      refine wp_seq ?_
      obtain ⟨q60, Bq60⟩ : ∃ b : Bool, b = ((((Nfa.accept ([ps.getD k []]) (Nfa.begs [ps.getD k []] [ps.getD k []].length) (Nfa.run ([ps.getD k []]) (Nfa.begs [ps.getD k []] [ps.getD k []].length) la)).length : Nat) : Int) == 1) := ⟨_, rfl⟩
      obtain ⟨q63, Bq63⟩ : ∃ b : Bool, b = ((Nfa.accept ps (Nfa.begs ps ps.length) (Nfa.run ps (Nfa.begs ps ps.length) la)).contains (k : Nat)) := ⟨_, rfl⟩
      obtain ⟨q64, Bq64⟩ : ∃ b : Bool, b = (!(q60 == q63)) := ⟨_, rfl⟩
      obtain ⟨q65, Bq65⟩ : ∃ b : Bool, b = (false || q64) := ⟨_, rfl⟩
      refine Eng.regionD (Eng.tell [.still fun u_ => u_ = .int .i64 (0 : Int), .still fun u_ => u_ = .bool false, .still fun u_ => u_ = .bool false, .still fun u_ => u_ = .agg #[opv, obv, .int .i64 om], .still fun u_ => u_ = .agg #[opv, obv, .int .i64 om], .still fun u_ => u_ = av, .still fun u_ => u_ = .agg ((List.map (Value.int .u64) (Nfa.run ([ps.getD k []]) (Nfa.begs [ps.getD k []] [ps.getD k []].length) la)).toArray), .own w33.heap.size 3 1 (Nfa.accept ([ps.getD k []]) (Nfa.begs [ps.getD k []] [ps.getD k []].length) (Nfa.run ([ps.getD k []]) (Nfa.begs [ps.getD k []] [ps.getD k []].length) la)).length (Nfa.ints (Nfa.accept ([ps.getD k []]) (Nfa.begs [ps.getD k []] [ps.getD k []].length) (Nfa.run ([ps.getD k []]) (Nfa.begs [ps.getD k []] [ps.getD k []].length) la))), .still fun u_ => u_ = .int .i64 (((Nfa.accept ([ps.getD k []]) (Nfa.begs [ps.getD k []] [ps.getD k []].length) (Nfa.run ([ps.getD k []]) (Nfa.begs [ps.getD k []] [ps.getD k []].length) la)).length : Nat) : Int), .still fun u_ => u_ = .bool q60, .still fun u_ => u_ = v37_18, .still fun u_ => u_ = .int .i64 (k : Nat), .still fun u_ => u_ = .bool q63, .still fun u_ => u_ = .bool q64, .still fun u_ => u_ = .bool q65]) (fun i => ([.plain, .plain, .plain, .plain, .plain, .plain, .plain, .plain, .plain, .plain, .plain, .plain, .plain, .plain, .plain] : List Eng.Kind).getD i .plain) 15 0 67 (by kernel_rfl) s34 rfl (by kernel_rfl) (Eng.tell_stable _) (Or.inl (Eng.no_stores (by kernel_rfl))) ?_ ?_
      · refine Eng.Steps.cons (fun _ => ?_) (Eng.Steps.cons (fun _ => ?_) (Eng.Steps.cons (fun _ => ?_) (Eng.Steps.cons (fun _ => ?_) (Eng.Steps.cons (fun _ => ?_) (Eng.Steps.cons (fun _ => ?_) (Eng.Steps.cons (fun _ => ?_) (Eng.Steps.cons (fun _ => ?_) (Eng.Steps.cons (fun _ => ?_) (Eng.Steps.cons (fun _ => ?_) (Eng.Steps.cons (fun _ => ?_) (Eng.Steps.cons (fun _ => ?_) (Eng.Steps.cons (fun _ => ?_) (Eng.Steps.cons (fun _ => ?_) (Eng.Steps.cons (fun _ => ?_) (Eng.Steps.nil)))))))))))))))
        · refine Eng.plain rfl rfl fun a w' H => ?_
          exact Eng.val (w1 := w') (v := .int .i64 (0 : Int)) (Eng.run_move rfl ((H.kept 12 (by kernel_rfl)).trans h12_34)) (Below.refl _ _) rfl
        · refine Eng.plain rfl rfl fun a w' H => ?_
          refine Eng.val (w1 := w') (v := .bool (!((0 : Int) == 0))) ?_ (Below.refl _ _) (by show _ = Value.bool false; rw [show (!((0 : Int) == 0)) = false from rfl])
          have e0 : a.eval (.tmp 51) = .int .i64 (0 : Int) := (H.dep 0 51 (by kernel_rfl) rfl)
          have e1 : a.eval (.const (.int .i64 0)) = .int .i64 0 := (rfl : a.eval (.const (.int .i64 0)) = .int .i64 0)
          simp only [execOp, resolve, List.map_toArray, List.map_cons, List.map_nil, e0, e1]
          go_simp
          all_goals first | rfl | (simp; done) | (rw [Bool.eq_iff_iff]; simp; done) | omega | skip
        · refine Eng.plain rfl rfl fun a w' H => ?_
          exact Eng.val (w1 := w') (v := .bool false) (Eng.run_move rfl (H.dep 1 52 (by kernel_rfl) rfl)) (Below.refl _ _) rfl
        · refine Eng.guardedT (j := 2) (d := 53) rfl rfl (by kernel_rfl) rfl (fun v w h => h) fun a w' H => ?_
          have kb := (H.below.block _ lg11_32_33).trans kg11_32_33
          have z0 : w'.cell? ⟨g11_32, 0, none⟩ = some (opv) := (Eng.cells kb 0).trans rfl
          have z1 : w'.cell? ⟨g11_32, 1, none⟩ = some (obv) := (Eng.cells kb 1).trans rfl
          have z2 : w'.cell? ⟨g11_32, 2, none⟩ = some (.int .i64 om) := (Eng.cells kb 2).trans rfl
          refine Eng.val (w1 := w') (v := .agg #[opv, obv, .int .i64 om]) ?_ (Below.refl _ _) rfl
          have e0 : a.eval (.tmp 11) = .pointer (some ⟨g11_32, 0, none⟩) := ((H.kept 11 (by kernel_rfl)).trans h11_34)
          simp only [execOp, resolve, List.map_toArray, List.map_cons, List.map_nil, e0]
          go_simp
          all_goals first | rfl | (simp; done) | (rw [Bool.eq_iff_iff]; simp; done) | omega | skip
        · refine Eng.guardedT (j := 2) (d := 53) rfl rfl (by kernel_rfl) rfl (fun v w h => h) fun a w' H => ?_
          have kb := (H.below.block _ lg11_32_33).trans kg11_32_33
          have z0 : w'.cell? ⟨g11_32, 0, none⟩ = some (opv) := (Eng.cells kb 0).trans rfl
          have z1 : w'.cell? ⟨g11_32, 1, none⟩ = some (obv) := (Eng.cells kb 1).trans rfl
          have z2 : w'.cell? ⟨g11_32, 2, none⟩ = some (.int .i64 om) := (Eng.cells kb 2).trans rfl
          refine Eng.val (w1 := w') (v := .agg #[opv, obv, .int .i64 om]) ?_ (Below.refl _ _) rfl
          have e0 : a.eval (.tmp 11) = .pointer (some ⟨g11_32, 0, none⟩) := ((H.kept 11 (by kernel_rfl)).trans h11_34)
          simp only [execOp, resolve, List.map_toArray, List.map_cons, List.map_nil, e0]
          go_simp
          all_goals first | rfl | (simp; done) | (rw [Bool.eq_iff_iff]; simp; done) | omega | skip
        · refine Eng.guardedT (j := 2) (d := 53) rfl rfl (by kernel_rfl) rfl (fun v w h => h) fun a w' H => ?_
          exact Eng.val (w1 := w') (v := av) (Eng.run_move rfl ((H.kept 1 (by kernel_rfl)).trans h1_34)) (Below.refl _ _) rfl
        · refine Eng.guardedT (j := 2) (d := 53) rfl rfl (by kernel_rfl) rfl (fun v w h => h) fun a w' H => ?_
          refine Eng.call Tryd.func40 (by kernel_rfl) (by kernel_rfl) rfl #[.agg #[opv, obv, .int .i64 om], av] ?_ ?_
          · have e0 : a.eval (.tmp 55) = .agg #[opv, obv, .int .i64 om] := (H.dep 4 55 (by kernel_rfl) rfl); have e1 : a.eval (.tmp 56) = av := (H.dep 5 56 (by kernel_rfl) rfl); simp only [List.map_toArray, List.map_cons, List.map_nil, e0, e1]
          refine (Nfa.run_calls opv obv om ([ps.getD k []]) (Nfa.begs [ps.getD k []] [ps.getD k []].length) ovs av la _ ((Nfa.Tab.below XO_33 H.below)).len ((Nfa.Tab.below XO_33 H.below)).rp ((Nfa.Tab.below XO_33 H.below)).ri ((Nfa.Tab.below XO_33 H.below)).rb (Eng.Reads.below Fra_33 H.below)).mono ?_
          rintro e w'' ⟨rfl, hb⟩
          exact ⟨_, rfl, rfl, hb⟩
        · refine Eng.guardedT (j := 2) (d := 53) rfl rfl (by kernel_rfl) rfl (fun v w h => h) fun a w' H => ?_
          refine Eng.call Tryd.func44 (by kernel_rfl) (by kernel_rfl) rfl #[.agg #[opv, obv, .int .i64 om], .agg ((List.map (Value.int .u64) (Nfa.run ([ps.getD k []]) (Nfa.begs [ps.getD k []] [ps.getD k []].length) la)).toArray)] ?_ ?_
          · have e0 : a.eval (.tmp 54) = .agg #[opv, obv, .int .i64 om] := (H.dep 3 54 (by kernel_rfl) rfl); have e1 : a.eval (.tmp 57) = .agg ((List.map (Value.int .u64) (Nfa.run ([ps.getD k []]) (Nfa.begs [ps.getD k []] [ps.getD k []].length) la)).toArray) := (H.dep 6 57 (by kernel_rfl) rfl); simp only [List.map_toArray, List.map_cons, List.map_nil, e0, e1]
          refine (Nfa.accept_calls opv obv om ([ps.getD k []]) (Nfa.begs [ps.getD k []] [ps.getD k []].length) ovs (Nfa.run ([ps.getD k []]) (Nfa.begs [ps.getD k []] [ps.getD k []].length) la) _ ((Nfa.run_len _ _ _)) (by first | decide | (simp; done) | omega) ((Nfa.Tab.below XO_33 H.below)).len ((Nfa.Tab.below XO_33 H.below)).rp ((Nfa.Tab.below XO_33 H.below)).ri ((Nfa.Tab.below XO_33 H.below)).rb).mono ?_
          rintro e w'' ⟨v, rfl, O, hb⟩
          exact ⟨_, rfl, Eng.own_mono O H.below.size, hb⟩
        · refine Eng.guardedT (j := 2) (d := 53) rfl rfl (by kernel_rfl) rfl (fun v w h => h) fun a w' H => ?_
          refine Eng.val (w1 := w') (v := .int .i64 (((Nfa.accept ([ps.getD k []]) (Nfa.begs [ps.getD k []] [ps.getD k []].length) (Nfa.run ([ps.getD k []]) (Nfa.begs [ps.getD k []] [ps.getD k []].length) la)).length : Nat) : Int)) ?_ (Below.refl _ _) rfl
          exact Eng.run_len_sl rfl Tryd.underlying63 (show a.eval (.tmp 58) = (a.eval (.tmp 58)) from (rfl : a.eval (.tmp 58) = a.eval (.tmp 58))) (Eng.Reads.of_own (H.dep 7 58 (by kernel_rfl) rfl))
        · refine Eng.guardedT (j := 2) (d := 53) rfl rfl (by kernel_rfl) rfl (fun v w h => h) fun a w' H => ?_
          refine Eng.val (w1 := w') (v := .bool ((((Nfa.accept ([ps.getD k []]) (Nfa.begs [ps.getD k []] [ps.getD k []].length) (Nfa.run ([ps.getD k []]) (Nfa.begs [ps.getD k []] [ps.getD k []].length) la)).length : Nat) : Int) == 1)) ?_ (Below.refl _ _) (by show _ = Value.bool q60; rw [Bq60])
          have e0 : a.eval (.tmp 59) = .int .i64 (((Nfa.accept ([ps.getD k []]) (Nfa.begs [ps.getD k []] [ps.getD k []].length) (Nfa.run ([ps.getD k []]) (Nfa.begs [ps.getD k []] [ps.getD k []].length) la)).length : Nat) : Int) := (H.dep 8 59 (by kernel_rfl) rfl)
          have e1 : a.eval (.const (.int .i64 1)) = .int .i64 1 := (rfl : a.eval (.const (.int .i64 1)) = .int .i64 1)
          simp only [execOp, resolve, List.map_toArray, List.map_cons, List.map_nil, e0, e1]
          go_simp
          all_goals first | rfl | (simp; done) | (rw [Bool.eq_iff_iff]; simp; done) | omega | skip
        · refine Eng.guardedT (j := 2) (d := 53) rfl rfl (by kernel_rfl) rfl (fun v w h => h) fun a w' H => ?_
          exact Eng.val (w1 := w') (v := v37_18) (Eng.run_move rfl ((H.kept 8 (by kernel_rfl)).trans h8_34)) (Below.refl _ _) rfl
        · refine Eng.guardedT (j := 2) (d := 53) rfl rfl (by kernel_rfl) rfl (fun v w h => h) fun a w' H => ?_
          exact Eng.val (w1 := w') (v := .int .i64 (k : Nat)) (Eng.run_move rfl ((H.kept 9 (by kernel_rfl)).trans h9_34)) (Below.refl _ _) rfl
        · refine Eng.guardedT (j := 2) (d := 53) rfl rfl (by kernel_rfl) rfl (fun v w h => h) fun a w' H => ?_
          refine Eng.call Tryd.func45 (by kernel_rfl) (by kernel_rfl) rfl #[v37_18, .int .i64 (k : Nat)] ?_ ?_
          · have e0 : a.eval (.tmp 61) = v37_18 := (H.dep 10 61 (by kernel_rfl) rfl); have e1 : a.eval (.tmp 62) = .int .i64 (k : Nat) := (H.dep 11 62 (by kernel_rfl) rfl); simp only [List.map_toArray, List.map_cons, List.map_nil, e0, e1]
          refine (Nfa.contains_calls v37_18 (Nfa.accept ps (Nfa.begs ps ps.length) (Nfa.run ps (Nfa.begs ps ps.length) la)) (k : Nat) _ (Eng.Reads.below Fa37_33 H.below)).mono ?_
          rintro e w'' ⟨rfl, hb⟩
          exact ⟨_, rfl, (by show _ = Value.bool q63; rw [Bq63]), hb⟩
        · refine Eng.guardedT (j := 2) (d := 53) rfl rfl (by kernel_rfl) rfl (fun v w h => h) fun a w' H => ?_
          refine Eng.val (w1 := w') (v := .bool (!(q60 == q63))) ?_ (Below.refl _ _) (by show _ = Value.bool q64; rw [Bq64])
          have e0 : a.eval (.tmp 60) = .bool q60 := (H.dep 9 60 (by kernel_rfl) rfl)
          have e1 : a.eval (.tmp 63) = .bool q63 := (H.dep 12 63 (by kernel_rfl) rfl)
          simp only [execOp, resolve, List.map_toArray, List.map_cons, List.map_nil, e0, e1]
          go_simp
          all_goals first | rfl | (simp; done) | (rw [Bool.eq_iff_iff]; simp; done) | omega | skip
        · refine Eng.plain rfl rfl fun a w' H => ?_
          exact Eng.val (w1 := w') (v := .bool (false || q64)) (Eng.run_or rfl rfl (G := true) (H.dep 2 53 (by kernel_rfl) rfl) (fun hb => (H.dep 13 64 (by kernel_rfl) rfl))) (Below.refl _ _) (by show _ = Value.bool q65; rw [Bq65])
      intro act35 w35 T
      have h0_35 : act35.eval (.tmp 0) = pa := (T.rest 0 (by kernel_rfl)).trans h0_34
      have h1_35 : act35.eval (.tmp 1) = av := (T.rest 1 (by kernel_rfl)).trans h1_34
      have h5_35 : act35.eval (.tmp 5) = v_4 := (T.rest 5 (by kernel_rfl)).trans h5_34
      have h6_35 : act35.eval (.tmp 6) = .pointer (some ⟨g6_11, 0, none⟩) := (T.rest 6 (by kernel_rfl)).trans h6_34
      have h7_35 : act35.eval (.tmp 7) = .int .i64 (Nfa.code ps) := (T.rest 7 (by kernel_rfl)).trans h7_34
      have h8_35 : act35.eval (.tmp 8) = v37_18 := (T.rest 8 (by kernel_rfl)).trans h8_34
      have h9_35 : act35.eval (.tmp 9) = .int .i64 (k : Nat) := (T.rest 9 (by kernel_rfl)).trans h9_34
      have h10_35 : act35.eval (.tmp 10) = (vl.getD k undef) := (T.rest 10 (by kernel_rfl)).trans h10_34
      have h11_35 : act35.eval (.tmp 11) = .pointer (some ⟨g11_32, 0, none⟩) := (T.rest 11 (by kernel_rfl)).trans h11_34
      have h12_35 : act35.eval (.tmp 12) = .int .i64 (0 : Int) := (T.rest 12 (by kernel_rfl)).trans h12_34
      have h14_35 : act35.eval (.tmp 14) = .bool q14 := (T.rest 14 (by kernel_rfl)).trans h14_34
      have h32_35 : act35.eval (.tmp 32) = .bool q32 := (T.rest 32 (by kernel_rfl)).trans h32_34
      have h38_35 : act35.eval (.tmp 38) = v_4 := (T.rest 38 (by kernel_rfl)).trans h38_34
      have h39_35 : act35.eval (.tmp 39) = .int .i64 ((ps.length : Nat) : Int) := (T.rest 39 (by kernel_rfl)).trans h39_34
      have h40_35 : act35.eval (.tmp 40) = .int .i64 (k : Nat) := (T.rest 40 (by kernel_rfl)).trans h40_34
      have h41_35 : act35.eval (.tmp 41) = .bool q41 := (T.rest 41 (by kernel_rfl)).trans h41_34
      have kg6_11_35 := (T.below.block _ lg6_11_33).trans kg6_11_33
      have lg6_11_35 := Nat.lt_of_lt_of_le lg6_11_33 T.below.size
      have kg11_32_35 := (T.below.block _ lg11_32_33).trans kg11_32_33
      have lg11_32_35 := Nat.lt_of_lt_of_le lg11_32_33 T.below.size
      have Fpp_35 := Eng.Reads.below Fpp_33 T.below
      have Fra_35 := Eng.Reads.below Fra_33 T.below
      have Fth_35 := Eng.Reads.below Fth_33 T.below
      have Oth_35 := Eng.own_below Oth_33 T.below
      have Fa37_35 := Eng.Reads.below Fa37_33 T.below
      have Oa37_35 := Eng.own_below Oa37_33 T.below
      have h65_35 : act35.eval (.tmp 65) = .bool q65 := T.done 14 65 rfl rfl
      have d35 := T.defers.trans d34
      have s35 := T.size.trans s34
      have bl35 := bl33.trans (T.below.mono bl33.size)
      have XE_35 := Pth.Each.below XE_33 T.below
      have XO_35 := Nfa.Tab.below XO_33 T.below
      clear T
      refine Eng.tail_nil ?_
      first | show Code.wp Tryd.prog _ _ _ _ | skip
      have n65 : q65 = false := by
        try simp only [Bq65, Bq64, Bq63, Bq60, Bq41, Bq32, Bq31, Bq28, Bq27, Bq23, Bq14, Bq13]
        rw [hap]
        simp
      refine wp_cond_false (h65_35.trans (by rw [n65])) ?_
      refine wp_skip ?_
      first | show Code.wp Tryd.prog _ _ _ _ | skip
      refine Eng.regionS (Eng.still [fun u_ => u_ = .int .i64 (IntKind.i64.wrap ((k : Nat) + 1)), fun u_ => u_ = .int .i64 (IntKind.i64.wrap ((k : Nat) + 1))]) (fun i => ([.plain, .plain] : List Eng.Kind).getD i .plain) 2 0 67 s35 rfl (by kernel_rfl) (Eng.still_stable _) (Or.inr (Eng.still_any _)) ?_ ?_
      · refine Eng.Steps.cons (fun _ => ?_) (Eng.Steps.cons (fun _ => ?_) (Eng.Steps.nil))
        · refine Eng.plain rfl rfl fun a w' H => ?_
          refine Eng.val (w1 := w') (v := .int .i64 (IntKind.i64.wrap ((k : Nat) + 1))) ?_ (Below.refl _ _) rfl
          have e0 : a.eval (.tmp 40) = .int .i64 (k : Nat) := ((H.kept 40 (by kernel_rfl)).trans h40_35)
          have e1 : a.eval (.const (.int .i64 1)) = .int .i64 1 := (rfl : a.eval (.const (.int .i64 1)) = .int .i64 1)
          simp only [execOp, resolve, List.map_toArray, List.map_cons, List.map_nil, e0, e1]
          go_simp
          all_goals first | rfl | (simp; done) | (rw [Bool.eq_iff_iff]; simp; done) | omega | skip
        · refine Eng.plain rfl rfl fun a w' H => ?_
          exact Eng.val (w1 := w') (v := .int .i64 (IntKind.i64.wrap ((k : Nat) + 1))) (Eng.run_move rfl (H.dep 0 66 (by kernel_rfl) rfl)) (Below.refl _ _) rfl
      intro act36 w36 T
      have h0_36 : act36.eval (.tmp 0) = pa := (T.rest 0 (by kernel_rfl)).trans h0_35
      have h1_36 : act36.eval (.tmp 1) = av := (T.rest 1 (by kernel_rfl)).trans h1_35
      have h5_36 : act36.eval (.tmp 5) = v_4 := (T.rest 5 (by kernel_rfl)).trans h5_35
      have h6_36 : act36.eval (.tmp 6) = .pointer (some ⟨g6_11, 0, none⟩) := (T.rest 6 (by kernel_rfl)).trans h6_35
      have h7_36 : act36.eval (.tmp 7) = .int .i64 (Nfa.code ps) := (T.rest 7 (by kernel_rfl)).trans h7_35
      have h8_36 : act36.eval (.tmp 8) = v37_18 := (T.rest 8 (by kernel_rfl)).trans h8_35
      have h9_36 : act36.eval (.tmp 9) = .int .i64 (k : Nat) := (T.rest 9 (by kernel_rfl)).trans h9_35
      have h10_36 : act36.eval (.tmp 10) = (vl.getD k undef) := (T.rest 10 (by kernel_rfl)).trans h10_35
      have h11_36 : act36.eval (.tmp 11) = .pointer (some ⟨g11_32, 0, none⟩) := (T.rest 11 (by kernel_rfl)).trans h11_35
      have h12_36 : act36.eval (.tmp 12) = .int .i64 (0 : Int) := (T.rest 12 (by kernel_rfl)).trans h12_35
      have h14_36 : act36.eval (.tmp 14) = .bool q14 := (T.rest 14 (by kernel_rfl)).trans h14_35
      have h32_36 : act36.eval (.tmp 32) = .bool q32 := (T.rest 32 (by kernel_rfl)).trans h32_35
      have h38_36 : act36.eval (.tmp 38) = v_4 := (T.rest 38 (by kernel_rfl)).trans h38_35
      have h39_36 : act36.eval (.tmp 39) = .int .i64 ((ps.length : Nat) : Int) := (T.rest 39 (by kernel_rfl)).trans h39_35
      have h41_36 : act36.eval (.tmp 41) = .bool q41 := (T.rest 41 (by kernel_rfl)).trans h41_35
      have h65_36 : act36.eval (.tmp 65) = .bool q65 := (T.rest 65 (by kernel_rfl)).trans h65_35
      have kg6_11_36 := (T.below.block _ lg6_11_35).trans kg6_11_35
      have lg6_11_36 := Nat.lt_of_lt_of_le lg6_11_35 T.below.size
      have kg11_32_36 := (T.below.block _ lg11_32_35).trans kg11_32_35
      have lg11_32_36 := Nat.lt_of_lt_of_le lg11_32_35 T.below.size
      have Fpp_36 := Eng.Reads.below Fpp_35 T.below
      have Fra_36 := Eng.Reads.below Fra_35 T.below
      have Fth_36 := Eng.Reads.below Fth_35 T.below
      have Oth_36 := Eng.own_below Oth_35 T.below
      have Fa37_36 := Eng.Reads.below Fa37_35 T.below
      have Oa37_36 := Eng.own_below Oa37_35 T.below
      have h40_36 : act36.eval (.tmp 40) = .int .i64 (IntKind.i64.wrap ((k : Nat) + 1)) := T.done 1 40 rfl rfl
      have d36 := T.defers.trans d35
      have s36 := T.size.trans s35
      have bl36 := bl35.trans (T.below.mono bl35.size)
      have XE_36 := Pth.Each.below XE_35 T.below
      have XO_36 := Nfa.Tab.below XO_35 T.below
      clear T
      refine Eng.tail_nil ?_
      exact ⟨_, by omega, k + 1, rfl, by omega, Oth_36, XE_36, Oa37_36, d36, s36, bl36, h0_36, h1_36, h5_36, h6_36, h7_36, h8_36, h14_36, h32_36, h38_36, h39_36, (h40_36.trans (by first | rfl | (congr 1; rw [Eng.i64_id (by omega) (by omega)]; omega) | (simp; done))), kg6_11_36, lg6_11_36⟩
    ·
      have kn37 := hq
      have c41 := Bq41.symm.trans hq
      clear hq
      have c41 := of_decide_eq_false c41
      refine wp_exit ?_
      first | show Code.wp Tryd.prog _ _ _ _ | skip
      first | show Code.wp Tryd.prog _ _ _ _ | skip
      refine wp_seq ?_
      refine Eng.regionS (Eng.still [fun u_ => u_ = .bool true]) (fun i => ([.plain] : List Eng.Kind).getD i .plain) 1 0 67 s22 rfl (by kernel_rfl) (Eng.still_stable _) (Or.inr (Eng.still_any _)) ?_ ?_
      · refine Eng.Steps.cons (fun _ => ?_) (Eng.Steps.nil)
        · refine Eng.plain rfl rfl fun a w' H => ?_
          exact Eng.val (w1 := w') (v := .bool true) (Eng.run_assign rfl (rfl : a.eval (.const (.bool true)) = .bool true)) (Below.refl _ _) rfl
      intro act38 w38 T
      have h0_38 : act38.eval (.tmp 0) = pa := (T.rest 0 (by kernel_rfl)).trans h0_22
      have h1_38 : act38.eval (.tmp 1) = av := (T.rest 1 (by kernel_rfl)).trans h1_22
      have h5_38 : act38.eval (.tmp 5) = v_4 := (T.rest 5 (by kernel_rfl)).trans h5_22
      have h6_38 : act38.eval (.tmp 6) = .pointer (some ⟨g6_11, 0, none⟩) := (T.rest 6 (by kernel_rfl)).trans h6_22
      have h7_38 : act38.eval (.tmp 7) = .int .i64 (Nfa.code ps) := (T.rest 7 (by kernel_rfl)).trans h7_22
      have h8_38 : act38.eval (.tmp 8) = v37_18 := (T.rest 8 (by kernel_rfl)).trans h8_22
      have h14_38 : act38.eval (.tmp 14) = .bool q14 := (T.rest 14 (by kernel_rfl)).trans h14_22
      have h32_38 : act38.eval (.tmp 32) = .bool q32 := (T.rest 32 (by kernel_rfl)).trans h32_22
      have h38_38 : act38.eval (.tmp 38) = v_4 := (T.rest 38 (by kernel_rfl)).trans h38_22
      have h39_38 : act38.eval (.tmp 39) = .int .i64 ((ps.length : Nat) : Int) := (T.rest 39 (by kernel_rfl)).trans h39_22
      have h40_38 : act38.eval (.tmp 40) = .int .i64 (k : Nat) := (T.rest 40 (by kernel_rfl)).trans h40_22
      have h41_38 : act38.eval (.tmp 41) = .bool q41 := (T.rest 41 (by kernel_rfl)).trans h41_22
      have kg6_11_38 := (T.below.block _ lg6_11_22).trans kg6_11_22
      have lg6_11_38 := Nat.lt_of_lt_of_le lg6_11_22 T.below.size
      have Fpp_38 := Eng.Reads.below Fpp_22 T.below
      have Fra_38 := Eng.Reads.below Fra_22 T.below
      have Fth_38 := Eng.Reads.below Fth_22 T.below
      have Oth_38 := Eng.own_below Oth_22 T.below
      have Fa37_38 := Eng.Reads.below Fa37_22 T.below
      have Oa37_38 := Eng.own_below Oa37_22 T.below
      have h4_38 : act38.eval (.tmp 4) = .bool true := T.done 0 4 rfl rfl
      have d38 := T.defers.trans d22
      have s38 := T.size.trans s22
      have bl38 := bl22.trans (T.below.mono bl22.size)
      have XE_38 := Pth.Each.below XE_22 T.below
      clear T
      refine Eng.tail_nil ?_
      first | show Code.wp Tryd.prog _ _ _ _ | skip
      refine wp_ret ?_
      repeat (first | refine Eng.in_ret ?_ | refine Eng.then_ret ?_)
      exact Eng.ret1 rfl d38 h4_38 ⟨rfl, bl38⟩
end Go.Proofs.YthgafcaoibfchaaDoor.X
