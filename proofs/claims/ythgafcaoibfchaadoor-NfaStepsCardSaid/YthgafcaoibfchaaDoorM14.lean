/- Words and walks that the row of NfaSteps needs: printed by programs, and plain laws. -/
import Derived.Test.YthgafcaoibfchaaDoorM11
import Derived.Test.YthgafcaoibfchaaDoorM12
import Derived.Test.YthgafcaoibfchaaDoorM13
namespace Go.Proofs.YthgafcaoibfchaaDoor.X
open Go.RowKit Go.Shelf Go.Proofs Go.Proofs.YthgafcaoibfchaaDoorW.PrintWords Go.Proofs.YthgafcaoibfchaaDoorW.PrintLast Go.Proofs.YthgafcaoibfchaaDoorW.PrintMore
set_option linter.unusedVariables false
set_option linter.unusedSimpArgs false
attribute [local go_sem] max2_int min2_int max_two min_two
set_option maxHeartbeats 4000000 in
set_option maxRecDepth 100000 in
theorem Nfa.steps_walk (pa av cv : Value) (ps : List (List Pth.Part)) (us : List Value) (la lb : List ByteArray) (w : World) (hua : us.length = ps.length) (hp : Eng.Reads w pa ps.length 1 us) (hin : ∀ k, k < ps.length → Eng.Reads w (us.getD k undef) (ps.getD k []).length 2 (Pth.cellsP (ps.getD k []))) (hsz : ∀ k, k < ps.length → (ps.getD k []).length ≤ 5864062014634) (hpl : ps.length ≤ 5864062014634) (hst : ∀ k, k < ps.length → ∀ p ∈ ps.getD k [], p.2.size ≤ 9223372036854775807) (hT : Tabs.Holds w) (hra : Eng.Reads w av la.length 1 (Nfa.strs la)) (hrb : Eng.Reads w cv lb.length 1 (Nfa.strs lb)) : Calls Tryd.prog 13 #[pa, av, cv] w fun e w' => e = .returned (.bool true) ∧ Below w.heap.size w w' := by
  have hm := Eng.Reads.len_le hra
  have hm2 := Eng.Reads.len_le hrb
  refine Eng.enter Tryd.func13 rfl fun act0 d0 s0 v0 => ?_
  have s0 : act0.tmps.size = 65 := s0
  have h0_0 : act0.eval (.tmp 0) = pa := v0 0 (by simp)
  have h1_0 : act0.eval (.tmp 1) = av := v0 1 (by simp)
  have h2_0 : act0.eval (.tmp 2) = cv := v0 2 (by simp)
  clear v0
  have bl0 : Below w.heap.size w w := Below.refl _ _
  refine wp_seq ?_
  refine Eng.regionS (Eng.still [fun u_ => u_ = .bool false]) (fun i => ([.plain] : List Eng.Kind).getD i .plain) 1 0 65 s0 rfl (by kernel_rfl) (Eng.still_stable _) (Or.inr (Eng.still_any _)) ?_ ?_
  · refine Eng.Steps.cons (fun _ => ?_) (Eng.Steps.nil)
    · refine Eng.plain rfl rfl fun a w' H => ?_
      exact Eng.val (w1 := w') (v := .bool false) (Eng.run_assign rfl (rfl : a.eval (.const (.bool false)) = .bool false)) (Below.refl _ _) rfl
  intro act1 w1 T
  have h0_1 : act1.eval (.tmp 0) = pa := (T.rest 0 (by kernel_rfl)).trans h0_0
  have h1_1 : act1.eval (.tmp 1) = av := (T.rest 1 (by kernel_rfl)).trans h1_0
  have h2_1 : act1.eval (.tmp 2) = cv := (T.rest 2 (by kernel_rfl)).trans h2_0
  have Fpp_1 := Eng.Reads.below hp T.below
  have Fra_1 := Eng.Reads.below hra T.below
  have Frb_1 := Eng.Reads.below hrb T.below
  have h6_1 : act1.eval (.tmp 6) = .bool false := T.done 0 6 rfl rfl
  have d1 := T.defers.trans d0
  have s1 := T.size.trans s0
  have bl1 := bl0.trans (T.below.mono bl0.size)
  clear T
  refine Eng.tail_nil ?_
  first | show Code.wp Tryd.prog _ _ _ _ | skip
  refine wp_seq ?_
  refine wp_seq ?_
  obtain ⟨q12, Bq12⟩ : ∃ b : Bool, b = (true) := ⟨_, rfl⟩
  obtain ⟨q13, Bq13⟩ : ∃ b : Bool, b = (!q12) := ⟨_, rfl⟩
  refine Eng.regionS (Eng.still [fun u_ => u_ = .bool q12, fun u_ => u_ = .bool q13]) (fun i => ([.plain, .plain] : List Eng.Kind).getD i .plain) 2 0 65 s1 rfl (by kernel_rfl) (Eng.still_stable _) (Or.inr (Eng.still_any _)) ?_ ?_
  · refine Eng.Steps.cons (fun _ => ?_) (Eng.Steps.cons (fun _ => ?_) (Eng.Steps.nil))
    · refine Eng.plain rfl rfl fun a w' H => ?_
      refine Eng.call Tryd.func35 (by kernel_rfl) (by kernel_rfl) rfl #[] ?_ ?_
      · simp
      refine (Nfa.alive_calls _ (Tabs.below (Tabs.below hT bl1) H.below)).mono ?_
      rintro e w'' ⟨rfl, hb⟩
      exact ⟨_, rfl, (by show _ = Value.bool q12; rw [Bq12]), hb⟩
    · refine Eng.plain rfl rfl fun a w' H => ?_
      exact Eng.val (w1 := w') (v := .bool (!q12)) (Eng.run_not rfl (H.dep 0 12 (by kernel_rfl) rfl)) (Below.refl _ _) (by show _ = Value.bool q13; rw [Bq13])
  intro act2 w2 T
  have h0_2 : act2.eval (.tmp 0) = pa := (T.rest 0 (by kernel_rfl)).trans h0_1
  have h1_2 : act2.eval (.tmp 1) = av := (T.rest 1 (by kernel_rfl)).trans h1_1
  have h2_2 : act2.eval (.tmp 2) = cv := (T.rest 2 (by kernel_rfl)).trans h2_1
  have h6_2 : act2.eval (.tmp 6) = .bool false := (T.rest 6 (by kernel_rfl)).trans h6_1
  have Fpp_2 := Eng.Reads.below Fpp_1 T.below
  have Fra_2 := Eng.Reads.below Fra_1 T.below
  have Frb_2 := Eng.Reads.below Frb_1 T.below
  have h13_2 : act2.eval (.tmp 13) = .bool q13 := T.done 1 13 rfl rfl
  have d2 := T.defers.trans d1
  have s2 := T.size.trans s1
  have bl2 := bl1.trans (T.below.mono bl1.size)
  clear T
  refine Eng.tail_nil ?_
  first | show Code.wp Tryd.prog _ _ _ _ | skip
  have n13 : q13 = false := by
    try simp only [Bq13, Bq12]
    first | done | rfl
  refine wp_cond_false (h13_2.trans (by rw [n13])) ?_
  refine wp_skip ?_
  first | show Code.wp Tryd.prog _ _ _ _ | skip
  refine wp_seq ?_
  refine (wpIn_wide (n := 1)).1 ?_
  refine EngI.regionT (n := 9) rfl ?_
  refine EngI.tail_val EngI.free_wide rfl rfl rfl rfl (Eng.run_move rfl h0_2) s2 rfl fun act3 d3 s3 hv hr => ?_
  have h0_3 : act3.eval (.tmp 0) = pa := (hr 0 rfl).trans h0_2
  have h1_3 : act3.eval (.tmp 1) = av := (hr 1 rfl).trans h1_2
  have h2_3 : act3.eval (.tmp 2) = cv := (hr 2 rfl).trans h2_2
  have h6_3 : act3.eval (.tmp 6) = .bool false := (hr 6 rfl).trans h6_2
  have h13_3 : act3.eval (.tmp 13) = .bool q13 := (hr 13 rfl).trans h13_2
  have h15_3 : act3.eval (.tmp 15) = pa := hv
  have d3 := d3.trans d2
  clear hv hr
  refine EngI.tail_call EngI.free_wide Tryd.func37 (by kernel_rfl) (by kernel_rfl) rfl rfl rfl rfl #[pa] (by have e0 : act3.eval (.tmp 15) = pa := h15_3; simp only [List.map_toArray, List.map_cons, List.map_nil, e0]) s3 rfl (R := fun v w' => ∃ vl, vl.length = ps.length ∧ w'.ownsRow w2.heap.size 82 1 v ps.length vl ∧ Pth.Each w2.heap.size ps vl w' ∧ Below w2.heap.size w2 w') ((Pth.theirses_calls pa ps us _ hua Fpp_2 (fun k hk => Eng.Reads.below (hin k hk) bl2) hsz hpl).mono ?_) fun v_4 w4 act4 R d4 s4 hv hr => ?_
  · rintro e w1 ⟨v, vl, rfl, h1, h2, h3, h4⟩; exact ⟨v, rfl, vl, h1, h2, h3, h4⟩
  have h0_4 : act4.eval (.tmp 0) = pa := (hr 0 rfl).trans h0_3
  have h1_4 : act4.eval (.tmp 1) = av := (hr 1 rfl).trans h1_3
  have h2_4 : act4.eval (.tmp 2) = cv := (hr 2 rfl).trans h2_3
  have h6_4 : act4.eval (.tmp 6) = .bool false := (hr 6 rfl).trans h6_3
  have h13_4 : act4.eval (.tmp 13) = .bool q13 := (hr 13 rfl).trans h13_3
  have h15_4 : act4.eval (.tmp 15) = pa := (hr 15 rfl).trans h15_3
  have h16_4 : act4.eval (.tmp 16) = v_4 := hv
  have d4 := d4.trans d3
  clear hv hr
  obtain ⟨vl, hvl, Oth4, XE4, hb4⟩ := R
  have Oth := Eng.own_mono Oth4 bl2.size
  have XE := Pth.Each.mono XE4 bl2.size
  have Fth := Eng.Reads.of_own Oth
  have Fpp_4 := Eng.Reads.below Fpp_2 hb4
  have Fra_4 := Eng.Reads.below Fra_2 hb4
  have Frb_4 := Eng.Reads.below Frb_2 hb4
  have bl4 := bl2.trans (hb4.mono bl2.size)
  refine EngI.tail_call EngI.free_wide Tryd.func36 (by kernel_rfl) (by kernel_rfl) rfl rfl rfl rfl #[v_4] (by have e0 : act4.eval (.tmp 16) = v_4 := h16_4; simp only [List.map_toArray, List.map_cons, List.map_nil, e0]) s4 rfl (R := fun v w' => ∃ pv bv vs m, v = .tuple #[.agg #[pv, bv, .int .i64 m], .int .i64 (Nfa.code ps)] ∧ (Nfa.Slc pv ∧ Nfa.Slc bv) ∧ Nfa.Made w4.heap.size pv bv ps vs m w' ∧ Below w4.heap.size w4 w') ((Nfa.make_calls v_4 ps vl _ hvl Fth (Pth.Each.reads XE hvl) hsz hpl hst (Tabs.below hT bl4)).mono ?_) fun v_5 w5 act5 R d5 s5 hv hr => ?_
  · rintro e w1 ⟨pv, bv, vs, m, rfl, h1, h2, h3⟩; exact ⟨_, rfl, pv, bv, vs, m, rfl, h1, h2, h3⟩
  have h0_5 : act5.eval (.tmp 0) = pa := (hr 0 rfl).trans h0_4
  have h1_5 : act5.eval (.tmp 1) = av := (hr 1 rfl).trans h1_4
  have h2_5 : act5.eval (.tmp 2) = cv := (hr 2 rfl).trans h2_4
  have h6_5 : act5.eval (.tmp 6) = .bool false := (hr 6 rfl).trans h6_4
  have h13_5 : act5.eval (.tmp 13) = .bool q13 := (hr 13 rfl).trans h13_4
  have h15_5 : act5.eval (.tmp 15) = pa := (hr 15 rfl).trans h15_4
  have h16_5 : act5.eval (.tmp 16) = v_4 := (hr 16 rfl).trans h16_4
  have h17_5 : act5.eval (.tmp 17) = v_5 := hv
  have d5 := d5.trans d4
  clear hv hr
  obtain ⟨pv, bv, vs, m, hv1_5, ⟨hsl0_5, hsl1_5⟩, hM_5, hb5⟩ := R
  have hMm_5 := Nfa.Made.mono hM_5 bl4.size
  clear hM_5
  have Fpp_5 := Eng.Reads.below Fpp_4 hb5
  have Fra_5 := Eng.Reads.below Fra_4 hb5
  have Frb_5 := Eng.Reads.below Frb_4 hb5
  have Fth_5 := Eng.Reads.below Fth hb5
  have Oth_5 := Eng.own_below Oth hb5
  have XE_5 := Pth.Each.below XE hb5
  have bl5 := bl4.trans (hb5.mono bl4.size)
  rw [hv1_5] at h17_5
  refine EngI.tail_val EngI.free_wide rfl rfl rfl rfl (Eng.run_move rfl h17_5) s5 rfl fun act6 d6 s6 hv hr => ?_
  have h0_6 : act6.eval (.tmp 0) = pa := (hr 0 rfl).trans h0_5
  have h1_6 : act6.eval (.tmp 1) = av := (hr 1 rfl).trans h1_5
  have h2_6 : act6.eval (.tmp 2) = cv := (hr 2 rfl).trans h2_5
  have h6_6 : act6.eval (.tmp 6) = .bool false := (hr 6 rfl).trans h6_5
  have h13_6 : act6.eval (.tmp 13) = .bool q13 := (hr 13 rfl).trans h13_5
  have h15_6 : act6.eval (.tmp 15) = pa := (hr 15 rfl).trans h15_5
  have h16_6 : act6.eval (.tmp 16) = v_4 := (hr 16 rfl).trans h16_5
  have h17_6 : act6.eval (.tmp 17) = .tuple #[.agg #[pv, bv, .int .i64 m], .int .i64 (Nfa.code ps)] := (hr 17 rfl).trans h17_5
  have h14_6 : act6.eval (.tmp 14) = .tuple #[.agg #[pv, bv, .int .i64 m], .int .i64 (Nfa.code ps)] := hv
  have d6 := d6.trans d5
  clear hv hr
  refine EngI.tail_val (w1 := w5) (v := .agg #[pv, bv, .int .i64 m]) EngI.free_wide rfl rfl rfl rfl ?_ s6 rfl ?_
  · have e0 : act6.eval (.tmp 14) = .tuple #[.agg #[pv, bv, .int .i64 m], .int .i64 (Nfa.code ps)] := h14_6
    simp only [execOp, resolve, List.map_toArray, List.map_cons, List.map_nil, e0]
    go_simp
    all_goals first | rfl | (simp; done) | (rw [Bool.eq_iff_iff]; simp; done) | omega | skip
  intro act7 d7 s7 hv hr
  have h0_7 : act7.eval (.tmp 0) = pa := (hr 0 rfl).trans h0_6
  have h1_7 : act7.eval (.tmp 1) = av := (hr 1 rfl).trans h1_6
  have h2_7 : act7.eval (.tmp 2) = cv := (hr 2 rfl).trans h2_6
  have h6_7 : act7.eval (.tmp 6) = .bool false := (hr 6 rfl).trans h6_6
  have h13_7 : act7.eval (.tmp 13) = .bool q13 := (hr 13 rfl).trans h13_6
  have h14_7 : act7.eval (.tmp 14) = .tuple #[.agg #[pv, bv, .int .i64 m], .int .i64 (Nfa.code ps)] := (hr 14 rfl).trans h14_6
  have h15_7 : act7.eval (.tmp 15) = pa := (hr 15 rfl).trans h15_6
  have h16_7 : act7.eval (.tmp 16) = v_4 := (hr 16 rfl).trans h16_6
  have h17_7 : act7.eval (.tmp 17) = .tuple #[.agg #[pv, bv, .int .i64 m], .int .i64 (Nfa.code ps)] := (hr 17 rfl).trans h17_6
  have h18_7 : act7.eval (.tmp 18) = .agg #[pv, bv, .int .i64 m] := hv
  have d7 := d7.trans d6
  clear hv hr
  refine EngI.tail_val (w1 := w5) (v := .int .i64 (Nfa.code ps)) EngI.free_wide rfl rfl rfl rfl ?_ s7 rfl ?_
  · have e0 : act7.eval (.tmp 14) = .tuple #[.agg #[pv, bv, .int .i64 m], .int .i64 (Nfa.code ps)] := h14_7
    simp only [execOp, resolve, List.map_toArray, List.map_cons, List.map_nil, e0]
    go_simp
    all_goals first | rfl | (simp; done) | (rw [Bool.eq_iff_iff]; simp; done) | omega | skip
  intro act8 d8 s8 hv hr
  have h0_8 : act8.eval (.tmp 0) = pa := (hr 0 rfl).trans h0_7
  have h1_8 : act8.eval (.tmp 1) = av := (hr 1 rfl).trans h1_7
  have h2_8 : act8.eval (.tmp 2) = cv := (hr 2 rfl).trans h2_7
  have h6_8 : act8.eval (.tmp 6) = .bool false := (hr 6 rfl).trans h6_7
  have h13_8 : act8.eval (.tmp 13) = .bool q13 := (hr 13 rfl).trans h13_7
  have h14_8 : act8.eval (.tmp 14) = .tuple #[.agg #[pv, bv, .int .i64 m], .int .i64 (Nfa.code ps)] := (hr 14 rfl).trans h14_7
  have h15_8 : act8.eval (.tmp 15) = pa := (hr 15 rfl).trans h15_7
  have h16_8 : act8.eval (.tmp 16) = v_4 := (hr 16 rfl).trans h16_7
  have h17_8 : act8.eval (.tmp 17) = .tuple #[.agg #[pv, bv, .int .i64 m], .int .i64 (Nfa.code ps)] := (hr 17 rfl).trans h17_7
  have h18_8 : act8.eval (.tmp 18) = .agg #[pv, bv, .int .i64 m] := (hr 18 rfl).trans h18_7
  have h19_8 : act8.eval (.tmp 19) = .int .i64 (Nfa.code ps) := hv
  have d8 := d8.trans d7
  clear hv hr
  refine EngI.tail_ex EngI.free_wide rfl rfl rfl rfl (Eng.alloc_ex (cs := #[.slice none 0 0, .slice none 0 0, .int .i64 0]) rfl (by kernel_rfl)) s8 rfl fun v_9 w9 act9 R d9 s9 hv hr => ?_
  obtain ⟨g7_9, ev_9, rg_9, lg7_9, kg7_9, b_9⟩ := R
  have h0_9 : act9.eval (.tmp 0) = pa := (hr 0 rfl).trans h0_8
  have h1_9 : act9.eval (.tmp 1) = av := (hr 1 rfl).trans h1_8
  have h2_9 : act9.eval (.tmp 2) = cv := (hr 2 rfl).trans h2_8
  have h6_9 : act9.eval (.tmp 6) = .bool false := (hr 6 rfl).trans h6_8
  have h13_9 : act9.eval (.tmp 13) = .bool q13 := (hr 13 rfl).trans h13_8
  have h14_9 : act9.eval (.tmp 14) = .tuple #[.agg #[pv, bv, .int .i64 m], .int .i64 (Nfa.code ps)] := (hr 14 rfl).trans h14_8
  have h15_9 : act9.eval (.tmp 15) = pa := (hr 15 rfl).trans h15_8
  have h16_9 : act9.eval (.tmp 16) = v_4 := (hr 16 rfl).trans h16_8
  have h17_9 : act9.eval (.tmp 17) = .tuple #[.agg #[pv, bv, .int .i64 m], .int .i64 (Nfa.code ps)] := (hr 17 rfl).trans h17_8
  have h18_9 : act9.eval (.tmp 18) = .agg #[pv, bv, .int .i64 m] := (hr 18 rfl).trans h18_8
  have h19_9 : act9.eval (.tmp 19) = .int .i64 (Nfa.code ps) := (hr 19 rfl).trans h19_8
  have h7_9 : act9.eval (.tmp 7) = v_9 := hv
  have d9 := d9.trans d8
  clear hv hr
  have og7_9 : w.heap.size ≤ g7_9 := Nat.le_trans bl5.size rg_9
  have Fpp_9 := Eng.Reads.below Fpp_5 b_9
  have Fra_9 := Eng.Reads.below Fra_5 b_9
  have Frb_9 := Eng.Reads.below Frb_5 b_9
  have Fth_9 := Eng.Reads.below Fth_5 b_9
  have Oth_9 := Eng.own_below Oth_5 b_9
  have XM_9 := Nfa.Made.below hMm_5 b_9
  have bl9 := bl5.trans (b_9.mono bl5.size)
  rw [ev_9] at h7_9
  refine EngI.tail_put EngI.free_wide [pv, bv, .int .i64 m] (n := 0) (new := #[pv, bv, .int .i64 m]) rfl rfl rfl rfl kg7_9 rfl ?_ fun w10 S => ?_
  · have e0 : act9.eval (.tmp 7) = .pointer (some ⟨g7_9, 0, none⟩) := h7_9
    have e1 : act9.eval (.tmp 18) = .agg #[pv, bv, .int .i64 m] := h18_9
    obtain ⟨A0_, n0_, c0_, ev0_⟩ := hsl0_5
    subst ev0_
    obtain ⟨A1_, n1_, c1_, ev1_⟩ := hsl1_5
    subst ev1_
    have z0 := (Eng.cells kg7_9 (0)).trans (rfl)
    have f0 := Eng.unfrozen kg7_9 (0)
    have z1 := (Eng.cells kg7_9 (1)).trans (rfl)
    have f1 := Eng.unfrozen kg7_9 (1)
    have z2 := (Eng.cells kg7_9 (2)).trans (rfl)
    have f2 := Eng.unfrozen kg7_9 (2)
    simp only [execOp]
    rw [e0, e1]
    go_simp
    try rfl
  have kg7_9_10 := S.new
  have lg7_9_10 := Nat.lt_of_lt_of_eq lg7_9 S.size.symm
  have bl10 := S.below bl9 og7_9
  have Fpp_10 := Eng.Reads.below hp bl10
  have Fra_10 := Eng.Reads.below hra bl10
  have Frb_10 := Eng.Reads.below hrb bl10
  have Oth_10 := Eng.own_sets Oth_9 S kg7_9 rfl
  have Fth_10 := Eng.Reads.of_own Oth_10
  have XM_10 := Nfa.Made.sets XM_9 S kg7_9 rfl
  clear S
  refine EngI.tail_val EngI.free_wide rfl rfl rfl rfl (Eng.run_assign rfl h19_9) s9 rfl fun act11 d11 s11 hv hr => ?_
  have h0_11 : act11.eval (.tmp 0) = pa := (hr 0 rfl).trans h0_9
  have h1_11 : act11.eval (.tmp 1) = av := (hr 1 rfl).trans h1_9
  have h2_11 : act11.eval (.tmp 2) = cv := (hr 2 rfl).trans h2_9
  have h6_11 : act11.eval (.tmp 6) = .bool false := (hr 6 rfl).trans h6_9
  have h7_11 : act11.eval (.tmp 7) = .pointer (some ⟨g7_9, 0, none⟩) := (hr 7 rfl).trans h7_9
  have h13_11 : act11.eval (.tmp 13) = .bool q13 := (hr 13 rfl).trans h13_9
  have h14_11 : act11.eval (.tmp 14) = .tuple #[.agg #[pv, bv, .int .i64 m], .int .i64 (Nfa.code ps)] := (hr 14 rfl).trans h14_9
  have h15_11 : act11.eval (.tmp 15) = pa := (hr 15 rfl).trans h15_9
  have h16_11 : act11.eval (.tmp 16) = v_4 := (hr 16 rfl).trans h16_9
  have h17_11 : act11.eval (.tmp 17) = .tuple #[.agg #[pv, bv, .int .i64 m], .int .i64 (Nfa.code ps)] := (hr 17 rfl).trans h17_9
  have h18_11 : act11.eval (.tmp 18) = .agg #[pv, bv, .int .i64 m] := (hr 18 rfl).trans h18_9
  have h19_11 : act11.eval (.tmp 19) = .int .i64 (Nfa.code ps) := (hr 19 rfl).trans h19_9
  have h8_11 : act11.eval (.tmp 8) = .int .i64 (Nfa.code ps) := hv
  have d11 := d11.trans d9
  clear hv hr
  refine EngI.tail_nil ?_
  first | show Code.wp Tryd.prog _ _ _ _ | skip
  refine wp_seq ?_
  refine wp_seq ?_
  obtain ⟨q21, Bq21⟩ : ∃ b : Bool, b = (Pth.heavies ps) := ⟨_, rfl⟩
  obtain ⟨q25, Bq25⟩ : ∃ b : Bool, b = (decide (((la.length : Nat) : Int) > 30)) := ⟨_, rfl⟩
  obtain ⟨q26, Bq26⟩ : ∃ b : Bool, b = (q21 || q25) := ⟨_, rfl⟩
  obtain ⟨q30, Bq30⟩ : ∃ b : Bool, b = (decide (((lb.length : Nat) : Int) > 30)) := ⟨_, rfl⟩
  obtain ⟨q31, Bq31⟩ : ∃ b : Bool, b = (q26 || q30) := ⟨_, rfl⟩
  obtain ⟨q34, Bq34⟩ : ∃ b : Bool, b = (!((Nfa.code ps) == 0)) := ⟨_, rfl⟩
  obtain ⟨q35, Bq35⟩ : ∃ b : Bool, b = (q31 || q34) := ⟨_, rfl⟩
  refine Eng.regionS (Eng.still [fun u_ => u_ = pa, fun u_ => u_ = .bool q21, fun u_ => u_ = .bool q21, fun u_ => u_ = bif (q21 == false) then (av) else undef, fun u_ => u_ = bif (q21 == false) then (.int .i64 ((la.length : Nat) : Int)) else undef, fun u_ => u_ = bif (q21 == false) then (.bool q25) else undef, fun u_ => u_ = .bool q26, fun u_ => u_ = .bool q26, fun u_ => u_ = bif (q26 == false) then (cv) else undef, fun u_ => u_ = bif (q26 == false) then (.int .i64 ((lb.length : Nat) : Int)) else undef, fun u_ => u_ = bif (q26 == false) then (.bool q30) else undef, fun u_ => u_ = .bool q31, fun u_ => u_ = .bool q31, fun u_ => u_ = bif (q31 == false) then (.int .i64 (Nfa.code ps)) else undef, fun u_ => u_ = bif (q31 == false) then (.bool q34) else undef, fun u_ => u_ = .bool q35]) (fun i => ([.plain, .plain, .plain, .plain, .plain, .plain, .plain, .plain, .plain, .plain, .plain, .plain, .plain, .plain, .plain, .plain] : List Eng.Kind).getD i .plain) 16 0 65 s11 rfl (by kernel_rfl) (Eng.still_stable _) (Or.inr (Eng.still_any _)) ?_ ?_
  · refine Eng.Steps.cons (fun _ => ?_) (Eng.Steps.cons (fun _ => ?_) (Eng.Steps.cons (fun _ => ?_) (Eng.Steps.cons (fun _ => ?_) (Eng.Steps.cons (fun _ => ?_) (Eng.Steps.cons (fun _ => ?_) (Eng.Steps.cons (fun _ => ?_) (Eng.Steps.cons (fun _ => ?_) (Eng.Steps.cons (fun _ => ?_) (Eng.Steps.cons (fun _ => ?_) (Eng.Steps.cons (fun _ => ?_) (Eng.Steps.cons (fun _ => ?_) (Eng.Steps.cons (fun _ => ?_) (Eng.Steps.cons (fun _ => ?_) (Eng.Steps.cons (fun _ => ?_) (Eng.Steps.cons (fun _ => ?_) (Eng.Steps.nil))))))))))))))))
    · refine Eng.plain rfl rfl fun a w' H => ?_
      exact Eng.val (w1 := w') (v := pa) (Eng.run_move rfl ((H.kept 0 (by kernel_rfl)).trans h0_11)) (Below.refl _ _) rfl
    · refine Eng.plain rfl rfl fun a w' H => ?_
      refine Eng.call Tryd.func38 (by kernel_rfl) (by kernel_rfl) rfl #[pa] ?_ ?_
      · have e0 : a.eval (.tmp 20) = pa := (H.dep 0 20 (by kernel_rfl) rfl); simp only [List.map_toArray, List.map_cons, List.map_nil, e0]
      refine (Pth.heavies_calls pa ps us _ hua (Eng.Reads.below Fpp_10 H.below) (fun k hk => Eng.Reads.below (Eng.Reads.below (hin k hk) bl10) H.below)).mono ?_
      rintro e w'' ⟨rfl, hb⟩
      exact ⟨_, rfl, (by show _ = Value.bool q21; rw [Bq21]), hb⟩
    · refine Eng.plain rfl rfl fun a w' H => ?_
      exact Eng.val (w1 := w') (v := .bool q21) (Eng.run_move rfl (H.dep 1 21 (by kernel_rfl) rfl)) (Below.refl _ _) rfl
    · refine Eng.guarded1 (j := 2) (d := 22) (b := q21) rfl rfl (by kernel_rfl) rfl (fun v w h => h) (fun hG w => Eng.off hG) fun hG a w' H => ?_
      exact Eng.val (w1 := w') (v := av) (Eng.run_move rfl ((H.kept 1 (by kernel_rfl)).trans h1_11)) (Below.refl _ _) (Eng.off' hG rfl)
    · refine Eng.guarded1 (j := 2) (d := 22) (b := q21) rfl rfl (by kernel_rfl) rfl (fun v w h => h) (fun hG w => Eng.off hG) fun hG a w' H => ?_
      refine Eng.val (w1 := w') (v := .int .i64 ((la.length : Nat) : Int)) ?_ (Below.refl _ _) (Eng.off' hG rfl)
      exact Eng.run_len_sl rfl Tryd.underlying43 (show a.eval (.tmp 23) = av from (Eng.on (H.dep 3 23 (by kernel_rfl) rfl) hG)) (Eng.Reads.below Fra_10 H.below)
    · refine Eng.guarded1 (j := 2) (d := 22) (b := q21) rfl rfl (by kernel_rfl) rfl (fun v w h => h) (fun hG w => Eng.off hG) fun hG a w' H => ?_
      refine Eng.val (w1 := w') (v := .bool (decide (((la.length : Nat) : Int) > 30))) ?_ (Below.refl _ _) (Eng.off' hG (by rw [Bq25]))
      have e0 : a.eval (.tmp 24) = .int .i64 ((la.length : Nat) : Int) := (Eng.on (H.dep 4 24 (by kernel_rfl) rfl) hG)
      have e1 : a.eval (.const (.int .i64 30)) = .int .i64 30 := (rfl : a.eval (.const (.int .i64 30)) = .int .i64 30)
      simp only [execOp, resolve, List.map_toArray, List.map_cons, List.map_nil, e0, e1]
      go_simp
      all_goals first | rfl | (simp; done) | (rw [Bool.eq_iff_iff]; simp; done) | omega | skip
    · refine Eng.plain rfl rfl fun a w' H => ?_
      exact Eng.val (w1 := w') (v := .bool (q21 || q25)) (Eng.run_or rfl rfl (G := true) (H.dep 2 22 (by kernel_rfl) rfl) (fun hb => (Eng.on (H.dep 5 25 (by kernel_rfl) rfl) (Eng.mk1 hb)))) (Below.refl _ _) (by show _ = Value.bool q26; rw [Bq26])
    · refine Eng.plain rfl rfl fun a w' H => ?_
      exact Eng.val (w1 := w') (v := .bool q26) (Eng.run_move rfl (H.dep 6 26 (by kernel_rfl) rfl)) (Below.refl _ _) rfl
    · refine Eng.guarded1 (j := 7) (d := 27) (b := q26) rfl rfl (by kernel_rfl) rfl (fun v w h => h) (fun hG w => Eng.off hG) fun hG a w' H => ?_
      exact Eng.val (w1 := w') (v := cv) (Eng.run_move rfl ((H.kept 2 (by kernel_rfl)).trans h2_11)) (Below.refl _ _) (Eng.off' hG rfl)
    · refine Eng.guarded1 (j := 7) (d := 27) (b := q26) rfl rfl (by kernel_rfl) rfl (fun v w h => h) (fun hG w => Eng.off hG) fun hG a w' H => ?_
      refine Eng.val (w1 := w') (v := .int .i64 ((lb.length : Nat) : Int)) ?_ (Below.refl _ _) (Eng.off' hG rfl)
      exact Eng.run_len_sl rfl Tryd.underlying43 (show a.eval (.tmp 28) = cv from (Eng.on (H.dep 8 28 (by kernel_rfl) rfl) hG)) (Eng.Reads.below Frb_10 H.below)
    · refine Eng.guarded1 (j := 7) (d := 27) (b := q26) rfl rfl (by kernel_rfl) rfl (fun v w h => h) (fun hG w => Eng.off hG) fun hG a w' H => ?_
      refine Eng.val (w1 := w') (v := .bool (decide (((lb.length : Nat) : Int) > 30))) ?_ (Below.refl _ _) (Eng.off' hG (by rw [Bq30]))
      have e0 : a.eval (.tmp 29) = .int .i64 ((lb.length : Nat) : Int) := (Eng.on (H.dep 9 29 (by kernel_rfl) rfl) hG)
      have e1 : a.eval (.const (.int .i64 30)) = .int .i64 30 := (rfl : a.eval (.const (.int .i64 30)) = .int .i64 30)
      simp only [execOp, resolve, List.map_toArray, List.map_cons, List.map_nil, e0, e1]
      go_simp
      all_goals first | rfl | (simp; done) | (rw [Bool.eq_iff_iff]; simp; done) | omega | skip
    · refine Eng.plain rfl rfl fun a w' H => ?_
      exact Eng.val (w1 := w') (v := .bool (q26 || q30)) (Eng.run_or rfl rfl (G := true) (H.dep 7 27 (by kernel_rfl) rfl) (fun hb => (Eng.on (H.dep 10 30 (by kernel_rfl) rfl) (Eng.mk1 hb)))) (Below.refl _ _) (by show _ = Value.bool q31; rw [Bq31])
    · refine Eng.plain rfl rfl fun a w' H => ?_
      exact Eng.val (w1 := w') (v := .bool q31) (Eng.run_move rfl (H.dep 11 31 (by kernel_rfl) rfl)) (Below.refl _ _) rfl
    · refine Eng.guarded1 (j := 12) (d := 32) (b := q31) rfl rfl (by kernel_rfl) rfl (fun v w h => h) (fun hG w => Eng.off hG) fun hG a w' H => ?_
      exact Eng.val (w1 := w') (v := .int .i64 (Nfa.code ps)) (Eng.run_move rfl ((H.kept 8 (by kernel_rfl)).trans h8_11)) (Below.refl _ _) (Eng.off' hG rfl)
    · refine Eng.guarded1 (j := 12) (d := 32) (b := q31) rfl rfl (by kernel_rfl) rfl (fun v w h => h) (fun hG w => Eng.off hG) fun hG a w' H => ?_
      refine Eng.val (w1 := w') (v := .bool (!((Nfa.code ps) == 0))) ?_ (Below.refl _ _) (Eng.off' hG (by rw [Bq34]))
      have e0 : a.eval (.tmp 33) = .int .i64 (Nfa.code ps) := (Eng.on (H.dep 13 33 (by kernel_rfl) rfl) hG)
      have e1 : a.eval (.const (.int .i64 0)) = .int .i64 0 := (rfl : a.eval (.const (.int .i64 0)) = .int .i64 0)
      simp only [execOp, resolve, List.map_toArray, List.map_cons, List.map_nil, e0, e1]
      go_simp
      all_goals first | rfl | (simp; done) | (rw [Bool.eq_iff_iff]; simp; done) | omega | skip
    · refine Eng.plain rfl rfl fun a w' H => ?_
      exact Eng.val (w1 := w') (v := .bool (q31 || q34)) (Eng.run_or rfl rfl (G := true) (H.dep 12 32 (by kernel_rfl) rfl) (fun hb => (Eng.on (H.dep 14 34 (by kernel_rfl) rfl) (Eng.mk1 hb)))) (Below.refl _ _) (by show _ = Value.bool q35; rw [Bq35])
  intro act12 w12 T
  have h0_12 : act12.eval (.tmp 0) = pa := (T.rest 0 (by kernel_rfl)).trans h0_11
  have h1_12 : act12.eval (.tmp 1) = av := (T.rest 1 (by kernel_rfl)).trans h1_11
  have h2_12 : act12.eval (.tmp 2) = cv := (T.rest 2 (by kernel_rfl)).trans h2_11
  have h6_12 : act12.eval (.tmp 6) = .bool false := (T.rest 6 (by kernel_rfl)).trans h6_11
  have h7_12 : act12.eval (.tmp 7) = .pointer (some ⟨g7_9, 0, none⟩) := (T.rest 7 (by kernel_rfl)).trans h7_11
  have h8_12 : act12.eval (.tmp 8) = .int .i64 (Nfa.code ps) := (T.rest 8 (by kernel_rfl)).trans h8_11
  have h13_12 : act12.eval (.tmp 13) = .bool q13 := (T.rest 13 (by kernel_rfl)).trans h13_11
  have kg7_9_12 := (T.below.block _ lg7_9_10).trans kg7_9_10
  have lg7_9_12 := Nat.lt_of_lt_of_le lg7_9_10 T.below.size
  have Fpp_12 := Eng.Reads.below Fpp_10 T.below
  have Fra_12 := Eng.Reads.below Fra_10 T.below
  have Frb_12 := Eng.Reads.below Frb_10 T.below
  have Fth_12 := Eng.Reads.below Fth_10 T.below
  have Oth_12 := Eng.own_below Oth_10 T.below
  have h35_12 : act12.eval (.tmp 35) = .bool q35 := T.done 15 35 rfl rfl
  have d12 := T.defers.trans d11
  have s12 := T.size.trans s11
  have bl12 := bl10.trans (T.below.mono bl10.size)
  have XM_12 := Nfa.Made.below XM_10 T.below
  clear T
  refine Eng.tail_nil ?_
  first | show Code.wp Tryd.prog _ _ _ _ | skip
  refine wp_cond_split h35_12 (fun hq => ?_) (fun hq => ?_)
  ·
    have kn13 := hq
    have c35 := Bq35.symm.trans hq
    clear hq
    refine wp_seq ?_
    refine Eng.regionS (Eng.still [fun u_ => u_ = .bool true]) (fun i => ([.plain] : List Eng.Kind).getD i .plain) 1 0 65 s12 rfl (by kernel_rfl) (Eng.still_stable _) (Or.inr (Eng.still_any _)) ?_ ?_
    · refine Eng.Steps.cons (fun _ => ?_) (Eng.Steps.nil)
      · refine Eng.plain rfl rfl fun a w' H => ?_
        exact Eng.val (w1 := w') (v := .bool true) (Eng.run_assign rfl (rfl : a.eval (.const (.bool true)) = .bool true)) (Below.refl _ _) rfl
    intro act14 w14 T
    have h0_14 : act14.eval (.tmp 0) = pa := (T.rest 0 (by kernel_rfl)).trans h0_12
    have h1_14 : act14.eval (.tmp 1) = av := (T.rest 1 (by kernel_rfl)).trans h1_12
    have h2_14 : act14.eval (.tmp 2) = cv := (T.rest 2 (by kernel_rfl)).trans h2_12
    have h7_14 : act14.eval (.tmp 7) = .pointer (some ⟨g7_9, 0, none⟩) := (T.rest 7 (by kernel_rfl)).trans h7_12
    have h8_14 : act14.eval (.tmp 8) = .int .i64 (Nfa.code ps) := (T.rest 8 (by kernel_rfl)).trans h8_12
    have h13_14 : act14.eval (.tmp 13) = .bool q13 := (T.rest 13 (by kernel_rfl)).trans h13_12
    have h35_14 : act14.eval (.tmp 35) = .bool q35 := (T.rest 35 (by kernel_rfl)).trans h35_12
    have kg7_9_14 := (T.below.block _ lg7_9_12).trans kg7_9_12
    have lg7_9_14 := Nat.lt_of_lt_of_le lg7_9_12 T.below.size
    have Fpp_14 := Eng.Reads.below Fpp_12 T.below
    have Fra_14 := Eng.Reads.below Fra_12 T.below
    have Frb_14 := Eng.Reads.below Frb_12 T.below
    have Fth_14 := Eng.Reads.below Fth_12 T.below
    have Oth_14 := Eng.own_below Oth_12 T.below
    have h6_14 : act14.eval (.tmp 6) = .bool true := T.done 0 6 rfl rfl
    have d14 := T.defers.trans d12
    have s14 := T.size.trans s12
    have bl14 := bl12.trans (T.below.mono bl12.size)
    have XM_14 := Nfa.Made.below XM_12 T.below
    clear T
    refine Eng.tail_nil ?_
    first | show Code.wp Tryd.prog _ _ _ _ | skip
    refine wp_ret ?_
    repeat (first | refine Eng.in_ret ?_ | refine Eng.then_ret ?_)
    exact Eng.ret1 rfl d14 h6_14 ⟨rfl, bl14⟩
  ·
    have kn15 := hq
    have c35 := Bq35.symm.trans hq
    clear hq
    rw [Bq34, Bq31, Bq30, Bq26, Bq25, Bq21] at c35
    simp at c35
    obtain ⟨⟨⟨hheavy, hla⟩, hlb⟩, hcode⟩ := c35
    obtain ⟨hTab, hmm⟩ := XM_12 hcode
    refine wp_skip ?_
    first | show Code.wp Tryd.prog _ _ _ _ | skip
    refine wp_seq ?_
    refine Eng.regionS (Eng.still [fun u_ => u_ = .agg #[pv, bv, .int .i64 m], fun u_ => u_ = av, fun u_ => u_ = .agg ((List.map (Value.int .u64) (Nfa.run ps (Nfa.begs ps ps.length) la)).toArray), fun u_ => True, fun u_ => True]) (fun i => ([.plain, .plain, .plain, .alloc 74 ((List.map (Value.int .u64) (List.replicate 8 0)).toArray), .store 3 ((List.map (Value.int .u64) (Nfa.run ps (Nfa.begs ps ps.length) la)).toArray)] : List Eng.Kind).getD i .plain) 5 0 65 s12 rfl (by kernel_rfl) (Eng.still_stable _) (Or.inr (Eng.still_any _)) ?_ ?_
    · refine Eng.Steps.cons (fun _ => ?_) (Eng.Steps.cons (fun _ => ?_) (Eng.Steps.cons (fun _ => ?_) (Eng.Steps.cons (fun _ => ?_) (Eng.Steps.cons (fun _ => ?_) (Eng.Steps.nil)))))
      · refine Eng.plain rfl rfl fun a w' H => ?_
        have kb := (H.below.block _ lg7_9_12).trans kg7_9_12
        have z0 : w'.cell? ⟨g7_9, 0, none⟩ = some (pv) := (Eng.cells kb 0).trans rfl
        have z1 : w'.cell? ⟨g7_9, 1, none⟩ = some (bv) := (Eng.cells kb 1).trans rfl
        have z2 : w'.cell? ⟨g7_9, 2, none⟩ = some (.int .i64 m) := (Eng.cells kb 2).trans rfl
        refine Eng.val (w1 := w') (v := .agg #[pv, bv, .int .i64 m]) ?_ (Below.refl _ _) rfl
        have e0 : a.eval (.tmp 7) = .pointer (some ⟨g7_9, 0, none⟩) := ((H.kept 7 (by kernel_rfl)).trans h7_12)
        simp only [execOp, resolve, List.map_toArray, List.map_cons, List.map_nil, e0]
        go_simp
        all_goals first | rfl | (simp; done) | (rw [Bool.eq_iff_iff]; simp; done) | omega | skip
      · refine Eng.plain rfl rfl fun a w' H => ?_
        exact Eng.val (w1 := w') (v := av) (Eng.run_move rfl ((H.kept 1 (by kernel_rfl)).trans h1_12)) (Below.refl _ _) rfl
      · refine Eng.plain rfl rfl fun a w' H => ?_
        refine Eng.call Tryd.func40 (by kernel_rfl) (by kernel_rfl) rfl #[.agg #[pv, bv, .int .i64 m], av] ?_ ?_
        · have e0 : a.eval (.tmp 36) = .agg #[pv, bv, .int .i64 m] := (H.dep 0 36 (by kernel_rfl) rfl); have e1 : a.eval (.tmp 37) = av := (H.dep 1 37 (by kernel_rfl) rfl); simp only [List.map_toArray, List.map_cons, List.map_nil, e0, e1]
        refine (Nfa.run_calls pv bv m ps (Nfa.begs ps ps.length) vs av la _ ((Nfa.Tab.below hTab H.below)).len ((Nfa.Tab.below hTab H.below)).rp ((Nfa.Tab.below hTab H.below)).ri ((Nfa.Tab.below hTab H.below)).rb (Eng.Reads.below Fra_12 H.below)).mono ?_
        rintro e w'' ⟨rfl, hb⟩
        exact ⟨_, rfl, rfl, hb⟩
      · refine Eng.made rfl (by simp) rfl (fun a w' hd ho => ?_) (fun _ _ => trivial)
        exact Eng.run_alloc rfl (by kernel_rfl)
      · refine Eng.stored_arr rfl rfl rfl (j := 3) (d := 9) (by kernel_rfl) rfl rfl (Eng.store_uniq (by kernel_rfl)) ((Nfa.cells_size (by simp)).trans (Nfa.cells_size ((Nfa.run_len _ _ _))).symm) rfl (by rw [Nfa.cells_size ((Nfa.run_len _ _ _))]; kernel_rfl) (by simp [Value.oneCell']) fun a w' hd ho => ?_
        exact (hd 2 38 (by kernel_rfl) rfl)
    intro act16 w16 T
    have h0_16 : act16.eval (.tmp 0) = pa := (T.rest 0 (by kernel_rfl)).trans h0_12
    have h1_16 : act16.eval (.tmp 1) = av := (T.rest 1 (by kernel_rfl)).trans h1_12
    have h2_16 : act16.eval (.tmp 2) = cv := (T.rest 2 (by kernel_rfl)).trans h2_12
    have h6_16 : act16.eval (.tmp 6) = .bool false := (T.rest 6 (by kernel_rfl)).trans h6_12
    have h7_16 : act16.eval (.tmp 7) = .pointer (some ⟨g7_9, 0, none⟩) := (T.rest 7 (by kernel_rfl)).trans h7_12
    have h8_16 : act16.eval (.tmp 8) = .int .i64 (Nfa.code ps) := (T.rest 8 (by kernel_rfl)).trans h8_12
    have h13_16 : act16.eval (.tmp 13) = .bool q13 := (T.rest 13 (by kernel_rfl)).trans h13_12
    have h35_16 : act16.eval (.tmp 35) = .bool q35 := (T.rest 35 (by kernel_rfl)).trans h35_12
    have kg7_9_16 := (T.below.block _ lg7_9_12).trans kg7_9_12
    have lg7_9_16 := Nat.lt_of_lt_of_le lg7_9_12 T.below.size
    have Fpp_16 := Eng.Reads.below Fpp_12 T.below
    have Fra_16 := Eng.Reads.below Fra_12 T.below
    have Frb_16 := Eng.Reads.below Frb_12 T.below
    have Fth_16 := Eng.Reads.below Fth_12 T.below
    have Oth_16 := Eng.own_below Oth_12 T.below
    obtain ⟨g9_16, h9_16, rg9_16, lg9_16_16, kg9_16_16⟩ := T.st 3 9 4 _ _ _ rfl rfl rfl rfl rfl
    have og9_16 : w.heap.size ≤ g9_16 := Nat.le_trans bl12.size rg9_16
    have ne_g9_16_g7_9 : g7_9 ≠ g9_16 := fun e => Nat.lt_irrefl _ (Nat.lt_of_lt_of_le (e ▸ lg7_9_12) rg9_16)
    have d16 := T.defers.trans d12
    have s16 := T.size.trans s12
    have bl16 := bl12.trans (T.below.mono bl12.size)
    have XT_16 := Nfa.Tab.below hTab T.below
    clear T
    refine Eng.tail_nil ?_
    first | show Code.wp Tryd.prog _ _ _ _ | skip
    refine wp_seq ?_
    refine wp_seq ?_
    refine Eng.regionS (Eng.still [fun u_ => u_ = cv, fun u_ => u_ = .int .i64 ((lb.length : Nat) : Int), fun u_ => u_ = .int .i64 0]) (fun i => ([.plain, .plain, .plain] : List Eng.Kind).getD i .plain) 3 0 65 s16 rfl (by kernel_rfl) (Eng.still_stable _) (Or.inr (Eng.still_any _)) ?_ ?_
    · refine Eng.Steps.cons (fun _ => ?_) (Eng.Steps.cons (fun _ => ?_) (Eng.Steps.cons (fun _ => ?_) (Eng.Steps.nil)))
      · refine Eng.plain rfl rfl fun a w' H => ?_
        exact Eng.val (w1 := w') (v := cv) (Eng.run_move rfl ((H.kept 2 (by kernel_rfl)).trans h2_16)) (Below.refl _ _) rfl
      · refine Eng.plain rfl rfl fun a w' H => ?_
        refine Eng.val (w1 := w') (v := .int .i64 ((lb.length : Nat) : Int)) ?_ (Below.refl _ _) rfl
        exact Eng.run_len_sl rfl Tryd.underlying43 (show a.eval (.tmp 39) = cv from (H.dep 0 39 (by kernel_rfl) rfl)) (Eng.Reads.below Frb_16 H.below)
      · refine Eng.plain rfl rfl fun a w' H => ?_
        exact Eng.val (w1 := w') (v := .int .i64 0) (Eng.run_move rfl (rfl : a.eval (.const (.int .i64 0)) = .int .i64 0)) (Below.refl _ _) rfl
    intro act17 w17 T
    have h0_17 : act17.eval (.tmp 0) = pa := (T.rest 0 (by kernel_rfl)).trans h0_16
    have h1_17 : act17.eval (.tmp 1) = av := (T.rest 1 (by kernel_rfl)).trans h1_16
    have h2_17 : act17.eval (.tmp 2) = cv := (T.rest 2 (by kernel_rfl)).trans h2_16
    have h6_17 : act17.eval (.tmp 6) = .bool false := (T.rest 6 (by kernel_rfl)).trans h6_16
    have h7_17 : act17.eval (.tmp 7) = .pointer (some ⟨g7_9, 0, none⟩) := (T.rest 7 (by kernel_rfl)).trans h7_16
    have h8_17 : act17.eval (.tmp 8) = .int .i64 (Nfa.code ps) := (T.rest 8 (by kernel_rfl)).trans h8_16
    have h9_17 : act17.eval (.tmp 9) = .pointer (some ⟨g9_16, 0, none⟩) := (T.rest 9 (by kernel_rfl)).trans h9_16
    have h13_17 : act17.eval (.tmp 13) = .bool q13 := (T.rest 13 (by kernel_rfl)).trans h13_16
    have h35_17 : act17.eval (.tmp 35) = .bool q35 := (T.rest 35 (by kernel_rfl)).trans h35_16
    have kg7_9_17 := (T.below.block _ lg7_9_16).trans kg7_9_16
    have lg7_9_17 := Nat.lt_of_lt_of_le lg7_9_16 T.below.size
    have kg9_16_17 := (T.below.block _ lg9_16_16).trans kg9_16_16
    have lg9_16_17 := Nat.lt_of_lt_of_le lg9_16_16 T.below.size
    have Fpp_17 := Eng.Reads.below Fpp_16 T.below
    have Fra_17 := Eng.Reads.below Fra_16 T.below
    have Frb_17 := Eng.Reads.below Frb_16 T.below
    have Fth_17 := Eng.Reads.below Fth_16 T.below
    have Oth_17 := Eng.own_below Oth_16 T.below
    have h39_17 : act17.eval (.tmp 39) = cv := T.done 0 39 rfl rfl
    have h40_17 : act17.eval (.tmp 40) = .int .i64 ((lb.length : Nat) : Int) := T.done 1 40 rfl rfl
    have h41_17 : act17.eval (.tmp 41) = .int .i64 0 := T.done 2 41 rfl rfl
    have d17 := T.defers.trans d16
    have s17 := T.size.trans s16
    have bl17 := bl16.trans (T.below.mono bl16.size)
    have XT_17 := Nfa.Tab.below XT_16 T.below
    clear T
    refine Eng.tail_nil ?_
    first | show Code.wp Tryd.prog _ _ _ _ | skip
    refine wp_block ?_
    refine Eng.loopN (fun n a w' => ∃ (k : Nat), lb.length - k = n ∧ (k ≤ lb.length) ∧ (Nfa.Tab w.heap.size pv bv ps vs (Nfa.begs ps ps.length) w') ∧ a.defers = [] ∧ a.tmps.size = 65 ∧ Below w.heap.size w w' ∧ a.eval (.tmp 0) = pa ∧ a.eval (.tmp 1) = av ∧ a.eval (.tmp 2) = cv ∧ a.eval (.tmp 6) = .bool false ∧ a.eval (.tmp 7) = .pointer (some ⟨g7_9, 0, none⟩) ∧ a.eval (.tmp 8) = .int .i64 (Nfa.code ps) ∧ a.eval (.tmp 9) = .pointer (some ⟨g9_16, 0, none⟩) ∧ a.eval (.tmp 13) = .bool q13 ∧ a.eval (.tmp 35) = .bool q35 ∧ a.eval (.tmp 39) = cv ∧ a.eval (.tmp 40) = .int .i64 ((lb.length : Nat) : Int) ∧ a.eval (.tmp 41) = .int .i64 (k : Nat) ∧ w'.heap[g7_9]? = some (.cells (#[pv, bv, .int .i64 m]) 65 (0, 0)) ∧ g7_9 < w'.heap.size ∧ w'.heap[g9_16]? = some (.cells ((List.map (Value.int .u64) (Nfa.more ps (Nfa.begs ps ps.length) (Nfa.run ps (Nfa.begs ps ps.length) la) (List.take k lb))).toArray) 74 (0, 0)) ∧ g9_16 < w'.heap.size) (n0 := lb.length - 0) ?_ ?_
    · exact ⟨0, rfl, by omega, XT_17, d17, s17, bl17, h0_17, h1_17, h2_17, h6_17, h7_17, h8_17, h9_17, h13_17, h35_17, h39_17, h40_17, (h41_17.trans (by first | rfl | (congr 1; rw [Eng.i64_id (by omega) (by omega)]; omega) | (simp; done))), kg7_9_17, lg7_9_17, (kg9_16_17.trans (by first | rfl | (rw [Nfa.more_take _ _ _ hk0]; done))), lg9_16_17⟩
    rintro n act18 w18 ⟨k, rfl, hc0_18, hc1_18, d18, s18, bl18, h0_18, h1_18, h2_18, h6_18, h7_18, h8_18, h9_18, h13_18, h35_18, h39_18, h40_18, h41_18, kg7_9_18, lg7_9_18, kg9_16_18, lg9_16_18⟩
    have Fpp_18 := Eng.Reads.below hp bl18
    have Fra_18 := Eng.Reads.below hra bl18
    have Frb_18 := Eng.Reads.below hrb bl18
    have hk1 := hc0_18
    refine wp_seq ?_
    obtain ⟨q42, Bq42⟩ : ∃ b : Bool, b = (decide ((k : Nat) < ((lb.length : Nat) : Int))) := ⟨_, rfl⟩
    refine Eng.regionS (Eng.still [fun u_ => u_ = .bool q42]) (fun i => ([.plain] : List Eng.Kind).getD i .plain) 1 0 65 s18 rfl (by kernel_rfl) (Eng.still_stable _) (Or.inr (Eng.still_any _)) ?_ ?_
    · refine Eng.Steps.cons (fun _ => ?_) (Eng.Steps.nil)
      · refine Eng.plain rfl rfl fun a w' H => ?_
        refine Eng.val (w1 := w') (v := .bool (decide ((k : Nat) < ((lb.length : Nat) : Int)))) ?_ (Below.refl _ _) (by show _ = Value.bool q42; rw [Bq42])
        have e0 : a.eval (.tmp 41) = .int .i64 (k : Nat) := ((H.kept 41 (by kernel_rfl)).trans h41_18)
        have e1 : a.eval (.tmp 40) = .int .i64 ((lb.length : Nat) : Int) := ((H.kept 40 (by kernel_rfl)).trans h40_18)
        simp only [execOp, resolve, List.map_toArray, List.map_cons, List.map_nil, e0, e1]
        go_simp
        all_goals first | rfl | (simp; done) | (rw [Bool.eq_iff_iff]; simp; done) | omega | skip
    intro act19 w19 T
    have h0_19 : act19.eval (.tmp 0) = pa := (T.rest 0 (by kernel_rfl)).trans h0_18
    have h1_19 : act19.eval (.tmp 1) = av := (T.rest 1 (by kernel_rfl)).trans h1_18
    have h2_19 : act19.eval (.tmp 2) = cv := (T.rest 2 (by kernel_rfl)).trans h2_18
    have h6_19 : act19.eval (.tmp 6) = .bool false := (T.rest 6 (by kernel_rfl)).trans h6_18
    have h7_19 : act19.eval (.tmp 7) = .pointer (some ⟨g7_9, 0, none⟩) := (T.rest 7 (by kernel_rfl)).trans h7_18
    have h8_19 : act19.eval (.tmp 8) = .int .i64 (Nfa.code ps) := (T.rest 8 (by kernel_rfl)).trans h8_18
    have h9_19 : act19.eval (.tmp 9) = .pointer (some ⟨g9_16, 0, none⟩) := (T.rest 9 (by kernel_rfl)).trans h9_18
    have h13_19 : act19.eval (.tmp 13) = .bool q13 := (T.rest 13 (by kernel_rfl)).trans h13_18
    have h35_19 : act19.eval (.tmp 35) = .bool q35 := (T.rest 35 (by kernel_rfl)).trans h35_18
    have h39_19 : act19.eval (.tmp 39) = cv := (T.rest 39 (by kernel_rfl)).trans h39_18
    have h40_19 : act19.eval (.tmp 40) = .int .i64 ((lb.length : Nat) : Int) := (T.rest 40 (by kernel_rfl)).trans h40_18
    have h41_19 : act19.eval (.tmp 41) = .int .i64 (k : Nat) := (T.rest 41 (by kernel_rfl)).trans h41_18
    have kg7_9_19 := (T.below.block _ lg7_9_18).trans kg7_9_18
    have lg7_9_19 := Nat.lt_of_lt_of_le lg7_9_18 T.below.size
    have kg9_16_19 := (T.below.block _ lg9_16_18).trans kg9_16_18
    have lg9_16_19 := Nat.lt_of_lt_of_le lg9_16_18 T.below.size
    have Fpp_19 := Eng.Reads.below Fpp_18 T.below
    have Fra_19 := Eng.Reads.below Fra_18 T.below
    have Frb_19 := Eng.Reads.below Frb_18 T.below
    have h42_19 : act19.eval (.tmp 42) = .bool q42 := T.done 0 42 rfl rfl
    have d19 := T.defers.trans d18
    have s19 := T.size.trans s18
    have bl19 := bl18.trans (T.below.mono bl18.size)
    have XT_19 := Nfa.Tab.below hc1_18 T.below
    clear T
    refine Eng.tail_nil ?_
    first | show Code.wp Tryd.prog _ _ _ _ | skip
    refine wp_seq ?_
    refine wp_cond_split h42_19 (fun hq => ?_) (fun hq => ?_)
    ·
      have kn20 := hq
      have c42 := Bq42.symm.trans hq
      clear hq
      have c42 := of_decide_eq_true c42
      have hk0 : k < lb.length := by omega
      refine wp_skip ?_
      first | show Code.wp Tryd.prog _ _ _ _ | skip
      refine wp_seq ?_
      refine wp_block ?_
      refine wp_seq ?_
      refine Eng.regionS (Eng.still [fun u_ => u_ = Eng.elemPtr cv (k * 1), fun u_ => u_ = .string (lb.getD k default), fun u_ => u_ = .string (lb.getD k default)]) (fun i => ([.plain, .plain, .plain] : List Eng.Kind).getD i .plain) 3 0 65 s19 rfl (by kernel_rfl) (Eng.still_stable _) (Or.inr (Eng.still_any _)) ?_ ?_
      · refine Eng.Steps.cons (fun _ => ?_) (Eng.Steps.cons (fun _ => ?_) (Eng.Steps.cons (fun _ => ?_) (Eng.Steps.nil)))
        · refine Eng.plain rfl rfl fun a w' H => ?_
          refine Eng.val (w1 := w') (v := Eng.elemPtr cv (k * 1)) ?_ (Below.refl _ _) rfl
          exact Eng.run_index_sl rfl Tryd.underlying43 (by kernel_rfl) (show a.eval (.tmp 39) = cv from ((H.kept 39 (by kernel_rfl)).trans h39_19)) ((show a.eval (.tmp 41) = .int .i64 (k : Nat) from ((H.kept 41 (by kernel_rfl)).trans h41_19)).trans (congrArg (Value.int _) (show (k : Nat) = ((k : Nat) : Int) from by omega))) (Eng.Reads.below Frb_19 H.below) (by omega) rfl
        · refine Eng.plain rfl rfl fun a w' H => ?_
          refine Eng.val (w1 := w') (v := .string (lb.getD k default)) ?_ (Below.refl _ _) rfl
          exact Eng.run_load_el (.string (lb.getD k default)) rfl (show a.eval (.tmp 43) = Eng.elemPtr cv (k * 1) from (H.dep 0 43 (by kernel_rfl) rfl)) (Eng.Reads.below Frb_19 H.below) (Nfa.strs_at lb k (by omega)) (by kernel_rfl)
        · refine Eng.plain rfl rfl fun a w' H => ?_
          exact Eng.val (w1 := w') (v := .string (lb.getD k default)) (Eng.run_assign rfl (H.dep 1 44 (by kernel_rfl) rfl)) (Below.refl _ _) rfl
      intro act21 w21 T
      have h0_21 : act21.eval (.tmp 0) = pa := (T.rest 0 (by kernel_rfl)).trans h0_19
      have h1_21 : act21.eval (.tmp 1) = av := (T.rest 1 (by kernel_rfl)).trans h1_19
      have h2_21 : act21.eval (.tmp 2) = cv := (T.rest 2 (by kernel_rfl)).trans h2_19
      have h6_21 : act21.eval (.tmp 6) = .bool false := (T.rest 6 (by kernel_rfl)).trans h6_19
      have h7_21 : act21.eval (.tmp 7) = .pointer (some ⟨g7_9, 0, none⟩) := (T.rest 7 (by kernel_rfl)).trans h7_19
      have h8_21 : act21.eval (.tmp 8) = .int .i64 (Nfa.code ps) := (T.rest 8 (by kernel_rfl)).trans h8_19
      have h9_21 : act21.eval (.tmp 9) = .pointer (some ⟨g9_16, 0, none⟩) := (T.rest 9 (by kernel_rfl)).trans h9_19
      have h13_21 : act21.eval (.tmp 13) = .bool q13 := (T.rest 13 (by kernel_rfl)).trans h13_19
      have h35_21 : act21.eval (.tmp 35) = .bool q35 := (T.rest 35 (by kernel_rfl)).trans h35_19
      have h39_21 : act21.eval (.tmp 39) = cv := (T.rest 39 (by kernel_rfl)).trans h39_19
      have h40_21 : act21.eval (.tmp 40) = .int .i64 ((lb.length : Nat) : Int) := (T.rest 40 (by kernel_rfl)).trans h40_19
      have h41_21 : act21.eval (.tmp 41) = .int .i64 (k : Nat) := (T.rest 41 (by kernel_rfl)).trans h41_19
      have h42_21 : act21.eval (.tmp 42) = .bool q42 := (T.rest 42 (by kernel_rfl)).trans h42_19
      have kg7_9_21 := (T.below.block _ lg7_9_19).trans kg7_9_19
      have lg7_9_21 := Nat.lt_of_lt_of_le lg7_9_19 T.below.size
      have kg9_16_21 := (T.below.block _ lg9_16_19).trans kg9_16_19
      have lg9_16_21 := Nat.lt_of_lt_of_le lg9_16_19 T.below.size
      have Fpp_21 := Eng.Reads.below Fpp_19 T.below
      have Fra_21 := Eng.Reads.below Fra_19 T.below
      have Frb_21 := Eng.Reads.below Frb_19 T.below
      have h11_21 : act21.eval (.tmp 11) = .string (lb.getD k default) := T.done 2 11 rfl rfl
      have d21 := T.defers.trans d19
      have s21 := T.size.trans s19
      have bl21 := bl19.trans (T.below.mono bl19.size)
      have XT_21 := Nfa.Tab.below XT_19 T.below
      clear T
      refine Eng.tail_nil ?_
      first | show Code.wp Tryd.prog _ _ _ _ | skip
      refine Eng.regionS (Eng.still [fun u_ => u_ = .agg #[pv, bv, .int .i64 m], fun u_ => u_ = .agg ((List.map (Value.int .u64) (Nfa.more ps (Nfa.begs ps ps.length) (Nfa.run ps (Nfa.begs ps ps.length) la) (List.take k lb))).toArray), fun u_ => u_ = .string (lb.getD k default), fun u_ => u_ = .agg ((List.map (Value.int .u64) (Nfa.step ps (Nfa.begs ps ps.length) (Nfa.more ps (Nfa.begs ps ps.length) (Nfa.run ps (Nfa.begs ps ps.length) la) (List.take k lb)) (lb.getD k default))).toArray)]) (fun i => ([.plain, .plain, .plain, .plain] : List Eng.Kind).getD i .plain) 4 1 65 s21 rfl (by kernel_rfl) (Eng.still_stable _) (Or.inr (Eng.still_any _)) ?_ ?_
      · refine Eng.Steps.cons (fun _ => ?_) (Eng.Steps.cons (fun _ => ?_) (Eng.Steps.cons (fun _ => ?_) (Eng.Steps.cons (fun _ => ?_) (Eng.Steps.cons (fun hlt => ?_) (Eng.Steps.nil)))))
        · refine Eng.plain rfl rfl fun a w' H => ?_
          have kb := (H.below.block _ lg7_9_21).trans kg7_9_21
          have z0 : w'.cell? ⟨g7_9, 0, none⟩ = some (pv) := (Eng.cells kb 0).trans rfl
          have z1 : w'.cell? ⟨g7_9, 1, none⟩ = some (bv) := (Eng.cells kb 1).trans rfl
          have z2 : w'.cell? ⟨g7_9, 2, none⟩ = some (.int .i64 m) := (Eng.cells kb 2).trans rfl
          refine Eng.val (w1 := w') (v := .agg #[pv, bv, .int .i64 m]) ?_ (Below.refl _ _) rfl
          have e0 : a.eval (.tmp 7) = .pointer (some ⟨g7_9, 0, none⟩) := ((H.kept 7 (by kernel_rfl)).trans h7_21)
          simp only [execOp, resolve, List.map_toArray, List.map_cons, List.map_nil, e0]
          go_simp
          all_goals first | rfl | (simp; done) | (rw [Bool.eq_iff_iff]; simp; done) | omega | skip
        · refine Eng.plain rfl rfl fun a w' H => ?_
          have kb := (H.below.block _ lg9_16_21).trans kg9_16_21
          refine Eng.val (w1 := w') (v := .agg ((List.map (Value.int .u64) (Nfa.more ps (Nfa.begs ps ps.length) (Nfa.run ps (Nfa.begs ps ps.length) la) (List.take k lb))).toArray)) ?_ (Below.refl _ _) rfl
          exact Eng.run_load_all rfl ((H.kept 9 (by kernel_rfl)).trans h9_21) kb Tryd.underlying74 rfl (by rw [Nfa.cells_size (Nfa.more_len (Nfa.run_len _ _ _) _)]; kernel_rfl)
        · refine Eng.plain rfl rfl fun a w' H => ?_
          exact Eng.val (w1 := w') (v := .string (lb.getD k default)) (Eng.run_move rfl ((H.kept 11 (by kernel_rfl)).trans h11_21)) (Below.refl _ _) rfl
        · refine Eng.plain rfl rfl fun a w' H => ?_
          refine Eng.call Tryd.func48 (by kernel_rfl) (by kernel_rfl) rfl #[.agg #[pv, bv, .int .i64 m], .agg ((List.map (Value.int .u64) (Nfa.more ps (Nfa.begs ps ps.length) (Nfa.run ps (Nfa.begs ps ps.length) la) (List.take k lb))).toArray), .string (lb.getD k default)] ?_ ?_
          · have e0 : a.eval (.tmp 45) = .agg #[pv, bv, .int .i64 m] := (H.dep 0 45 (by kernel_rfl) rfl); have e1 : a.eval (.tmp 46) = .agg ((List.map (Value.int .u64) (Nfa.more ps (Nfa.begs ps ps.length) (Nfa.run ps (Nfa.begs ps ps.length) la) (List.take k lb))).toArray) := (H.dep 1 46 (by kernel_rfl) rfl); have e2 : a.eval (.tmp 47) = .string (lb.getD k default) := (H.dep 2 47 (by kernel_rfl) rfl); simp only [List.map_toArray, List.map_cons, List.map_nil, e0, e1, e2]
          refine (Nfa.step_calls pv bv m ps (Nfa.begs ps ps.length) vs (Nfa.more ps (Nfa.begs ps ps.length) (Nfa.run ps (Nfa.begs ps ps.length) la) (List.take k lb)) (lb.getD k default) _ (Nfa.more_len (Nfa.run_len _ _ _) _) ((Nfa.Tab.below XT_21 H.below)).len ((Nfa.Tab.below XT_21 H.below)).rp ((Nfa.Tab.below XT_21 H.below)).ri ((Nfa.Tab.below XT_21 H.below)).rb).mono ?_
          rintro e w'' ⟨rfl, hb⟩
          exact ⟨_, rfl, rfl, hb⟩
        · exact absurd hlt (by decide)
      intro act22 w22 T
      have h0_22 : act22.eval (.tmp 0) = pa := (T.rest 0 (by kernel_rfl)).trans h0_21
      have h1_22 : act22.eval (.tmp 1) = av := (T.rest 1 (by kernel_rfl)).trans h1_21
      have h2_22 : act22.eval (.tmp 2) = cv := (T.rest 2 (by kernel_rfl)).trans h2_21
      have h6_22 : act22.eval (.tmp 6) = .bool false := (T.rest 6 (by kernel_rfl)).trans h6_21
      have h7_22 : act22.eval (.tmp 7) = .pointer (some ⟨g7_9, 0, none⟩) := (T.rest 7 (by kernel_rfl)).trans h7_21
      have h8_22 : act22.eval (.tmp 8) = .int .i64 (Nfa.code ps) := (T.rest 8 (by kernel_rfl)).trans h8_21
      have h9_22 : act22.eval (.tmp 9) = .pointer (some ⟨g9_16, 0, none⟩) := (T.rest 9 (by kernel_rfl)).trans h9_21
      have h11_22 : act22.eval (.tmp 11) = .string (lb.getD k default) := (T.rest 11 (by kernel_rfl)).trans h11_21
      have h13_22 : act22.eval (.tmp 13) = .bool q13 := (T.rest 13 (by kernel_rfl)).trans h13_21
      have h35_22 : act22.eval (.tmp 35) = .bool q35 := (T.rest 35 (by kernel_rfl)).trans h35_21
      have h39_22 : act22.eval (.tmp 39) = cv := (T.rest 39 (by kernel_rfl)).trans h39_21
      have h40_22 : act22.eval (.tmp 40) = .int .i64 ((lb.length : Nat) : Int) := (T.rest 40 (by kernel_rfl)).trans h40_21
      have h41_22 : act22.eval (.tmp 41) = .int .i64 (k : Nat) := (T.rest 41 (by kernel_rfl)).trans h41_21
      have h42_22 : act22.eval (.tmp 42) = .bool q42 := (T.rest 42 (by kernel_rfl)).trans h42_21
      have kg7_9_22 := (T.below.block _ lg7_9_21).trans kg7_9_21
      have lg7_9_22 := Nat.lt_of_lt_of_le lg7_9_21 T.below.size
      have kg9_16_22 := (T.below.block _ lg9_16_21).trans kg9_16_21
      have lg9_16_22 := Nat.lt_of_lt_of_le lg9_16_21 T.below.size
      have Fpp_22 := Eng.Reads.below Fpp_21 T.below
      have Fra_22 := Eng.Reads.below Fra_21 T.below
      have Frb_22 := Eng.Reads.below Frb_21 T.below
      have h48_22 : act22.eval (.tmp 48) = .agg ((List.map (Value.int .u64) (Nfa.step ps (Nfa.begs ps ps.length) (Nfa.more ps (Nfa.begs ps ps.length) (Nfa.run ps (Nfa.begs ps ps.length) la) (List.take k lb)) (lb.getD k default))).toArray) := T.done 3 48 rfl rfl
      have d22 := T.defers.trans d21
      have s22 := T.size.trans s21
      have bl22 := bl21.trans (T.below.mono bl21.size)
      have XT_22 := Nfa.Tab.below XT_21 T.below
      clear T
      refine Eng.tail_arr rfl rfl rfl rfl h9_22 h48_22 kg9_16_22 (by rw [Nfa.cells_size ((Nfa.step_len _ _ _ _))]; kernel_rfl) ((Nfa.cells_size (Nfa.more_len (Nfa.run_len _ _ _) _)).trans (Nfa.cells_size ((Nfa.step_len _ _ _ _))).symm) (by simp [Value.oneCell']) fun w23 S => ?_
      have kg7_9_23 := (S.far _ ne_g9_16_g7_9).trans kg7_9_22
      have lg7_9_23 := Nat.lt_of_lt_of_eq lg7_9_22 S.size.symm
      have kg9_16_23 := S.new
      have lg9_16_23 := Nat.lt_of_lt_of_eq lg9_16_22 S.size.symm
      have bl23 := S.below bl22 og9_16
      have Fpp_23 := Eng.Reads.below hp bl23
      have Fra_23 := Eng.Reads.below hra bl23
      have Frb_23 := Eng.Reads.below hrb bl23
      have XT_23 := Nfa.Tab.sets XT_22 S kg9_16_22 rfl
      clear S
      refine Eng.tail_nil ?_
      first | show Code.wp Tryd.prog _ _ _ _ | skip
      refine Eng.regionS (Eng.still [fun u_ => u_ = .int .i64 (IntKind.i64.wrap ((k : Nat) + 1)), fun u_ => u_ = .int .i64 (IntKind.i64.wrap ((k : Nat) + 1))]) (fun i => ([.plain, .plain] : List Eng.Kind).getD i .plain) 2 0 65 s22 rfl (by kernel_rfl) (Eng.still_stable _) (Or.inr (Eng.still_any _)) ?_ ?_
      · refine Eng.Steps.cons (fun _ => ?_) (Eng.Steps.cons (fun _ => ?_) (Eng.Steps.nil))
        · refine Eng.plain rfl rfl fun a w' H => ?_
          refine Eng.val (w1 := w') (v := .int .i64 (IntKind.i64.wrap ((k : Nat) + 1))) ?_ (Below.refl _ _) rfl
          have e0 : a.eval (.tmp 41) = .int .i64 (k : Nat) := ((H.kept 41 (by kernel_rfl)).trans h41_22)
          have e1 : a.eval (.const (.int .i64 1)) = .int .i64 1 := (rfl : a.eval (.const (.int .i64 1)) = .int .i64 1)
          simp only [execOp, resolve, List.map_toArray, List.map_cons, List.map_nil, e0, e1]
          go_simp
          all_goals first | rfl | (simp; done) | (rw [Bool.eq_iff_iff]; simp; done) | omega | skip
        · refine Eng.plain rfl rfl fun a w' H => ?_
          exact Eng.val (w1 := w') (v := .int .i64 (IntKind.i64.wrap ((k : Nat) + 1))) (Eng.run_move rfl (H.dep 0 49 (by kernel_rfl) rfl)) (Below.refl _ _) rfl
      intro act24 w24 T
      have h0_24 : act24.eval (.tmp 0) = pa := (T.rest 0 (by kernel_rfl)).trans h0_22
      have h1_24 : act24.eval (.tmp 1) = av := (T.rest 1 (by kernel_rfl)).trans h1_22
      have h2_24 : act24.eval (.tmp 2) = cv := (T.rest 2 (by kernel_rfl)).trans h2_22
      have h6_24 : act24.eval (.tmp 6) = .bool false := (T.rest 6 (by kernel_rfl)).trans h6_22
      have h7_24 : act24.eval (.tmp 7) = .pointer (some ⟨g7_9, 0, none⟩) := (T.rest 7 (by kernel_rfl)).trans h7_22
      have h8_24 : act24.eval (.tmp 8) = .int .i64 (Nfa.code ps) := (T.rest 8 (by kernel_rfl)).trans h8_22
      have h9_24 : act24.eval (.tmp 9) = .pointer (some ⟨g9_16, 0, none⟩) := (T.rest 9 (by kernel_rfl)).trans h9_22
      have h11_24 : act24.eval (.tmp 11) = .string (lb.getD k default) := (T.rest 11 (by kernel_rfl)).trans h11_22
      have h13_24 : act24.eval (.tmp 13) = .bool q13 := (T.rest 13 (by kernel_rfl)).trans h13_22
      have h35_24 : act24.eval (.tmp 35) = .bool q35 := (T.rest 35 (by kernel_rfl)).trans h35_22
      have h39_24 : act24.eval (.tmp 39) = cv := (T.rest 39 (by kernel_rfl)).trans h39_22
      have h40_24 : act24.eval (.tmp 40) = .int .i64 ((lb.length : Nat) : Int) := (T.rest 40 (by kernel_rfl)).trans h40_22
      have h42_24 : act24.eval (.tmp 42) = .bool q42 := (T.rest 42 (by kernel_rfl)).trans h42_22
      have kg7_9_24 := (T.below.block _ lg7_9_23).trans kg7_9_23
      have lg7_9_24 := Nat.lt_of_lt_of_le lg7_9_23 T.below.size
      have kg9_16_24 := (T.below.block _ lg9_16_23).trans kg9_16_23
      have lg9_16_24 := Nat.lt_of_lt_of_le lg9_16_23 T.below.size
      have Fpp_24 := Eng.Reads.below Fpp_23 T.below
      have Fra_24 := Eng.Reads.below Fra_23 T.below
      have Frb_24 := Eng.Reads.below Frb_23 T.below
      have h41_24 : act24.eval (.tmp 41) = .int .i64 (IntKind.i64.wrap ((k : Nat) + 1)) := T.done 1 41 rfl rfl
      have d24 := T.defers.trans d22
      have s24 := T.size.trans s22
      have bl24 := bl23.trans (T.below.mono bl23.size)
      have XT_24 := Nfa.Tab.below XT_23 T.below
      clear T
      refine Eng.tail_nil ?_
      exact ⟨_, by omega, k + 1, rfl, by omega, XT_24, d24, s24, bl24, h0_24, h1_24, h2_24, h6_24, h7_24, h8_24, h9_24, h13_24, h35_24, h39_24, h40_24, (h41_24.trans (by first | rfl | (congr 1; rw [Eng.i64_id (by omega) (by omega)]; omega) | (simp; done))), kg7_9_24, lg7_9_24, (kg9_16_24.trans (by first | rfl | (rw [Nfa.more_take _ _ _ hk0]; done))), lg9_16_24⟩
    ·
      have kn25 := hq
      have c42 := Bq42.symm.trans hq
      clear hq
      have c42 := of_decide_eq_false c42
      have hke : k = lb.length := by omega
      have hrun : (Nfa.run ps (Nfa.begs ps ps.length) (List.flatten [la, lb]) == Nfa.more ps (Nfa.begs ps ps.length) (Nfa.run ps (Nfa.begs ps ps.length) la) (List.take k lb)) = true := by rw [hke, List.take_length]; exact Nfa.run_flat _ _ _ _
      refine wp_exit ?_
      first | show Code.wp Tryd.prog _ _ _ _ | skip
      first | show Code.wp Tryd.prog _ _ _ _ | skip
      refine wp_seq ?_
      refine Eng.regionD (Eng.tell [.still fun u_ => u_ = .agg #[pv, bv, .int .i64 m], .still fun u_ => u_ = av, .still fun u_ => u_ = cv, Eng.Tl.reads 2 1 [av, cv], .own w19.heap.size 9 1 (List.flatten [la, lb]).length (Nfa.strs (List.flatten [la, lb])), .still fun u_ => u_ = .agg ((List.map (Value.int .u64) (Nfa.run ps (Nfa.begs ps ps.length) (List.flatten [la, lb]))).toArray), .still fun u_ => u_ = .agg ((List.map (Value.int .u64) (Nfa.more ps (Nfa.begs ps ps.length) (Nfa.run ps (Nfa.begs ps ps.length) la) (List.take k lb))).toArray), .still fun u_ => u_ = .bool true, .still fun u_ => u_ = .bool true, .still fun u_ => u_ = .agg #[pv, bv, .int .i64 m], .still fun u_ => u_ = .agg ((List.map (Value.int .u64) (Nfa.run ps (Nfa.begs ps ps.length) [])).toArray), .still fun u_ => u_ = .agg #[pv, bv, .int .i64 m], .still fun u_ => u_ = .agg ((List.map (Value.int .u64) (Nfa.start ps (Nfa.begs ps ps.length))).toArray), .still fun u_ => u_ = .bool true, .still fun u_ => u_ = .bool true, .still fun u_ => u_ = .bool true]) (fun i => ([.plain, .plain, .plain, .plain, .plain, .plain, .plain, .plain, .plain, .plain, .plain, .plain, .plain, .plain, .plain, .plain] : List Eng.Kind).getD i .plain) 16 0 65 (by kernel_rfl) s19 rfl (by kernel_rfl) (Eng.tell_stable _) (Or.inl (Eng.no_stores (by kernel_rfl))) ?_ ?_
      · refine Eng.Steps.cons (fun _ => ?_) (Eng.Steps.cons (fun _ => ?_) (Eng.Steps.cons (fun _ => ?_) (Eng.Steps.cons (fun _ => ?_) (Eng.Steps.cons (fun _ => ?_) (Eng.Steps.cons (fun _ => ?_) (Eng.Steps.cons (fun _ => ?_) (Eng.Steps.cons (fun _ => ?_) (Eng.Steps.cons (fun _ => ?_) (Eng.Steps.cons (fun _ => ?_) (Eng.Steps.cons (fun _ => ?_) (Eng.Steps.cons (fun _ => ?_) (Eng.Steps.cons (fun _ => ?_) (Eng.Steps.cons (fun _ => ?_) (Eng.Steps.cons (fun _ => ?_) (Eng.Steps.cons (fun _ => ?_) (Eng.Steps.nil))))))))))))))))
        · refine Eng.plain rfl rfl fun a w' H => ?_
          have kb := (H.below.block _ lg7_9_19).trans kg7_9_19
          have z0 : w'.cell? ⟨g7_9, 0, none⟩ = some (pv) := (Eng.cells kb 0).trans rfl
          have z1 : w'.cell? ⟨g7_9, 1, none⟩ = some (bv) := (Eng.cells kb 1).trans rfl
          have z2 : w'.cell? ⟨g7_9, 2, none⟩ = some (.int .i64 m) := (Eng.cells kb 2).trans rfl
          refine Eng.val (w1 := w') (v := .agg #[pv, bv, .int .i64 m]) ?_ (Below.refl _ _) rfl
          have e0 : a.eval (.tmp 7) = .pointer (some ⟨g7_9, 0, none⟩) := ((H.kept 7 (by kernel_rfl)).trans h7_19)
          simp only [execOp, resolve, List.map_toArray, List.map_cons, List.map_nil, e0]
          go_simp
          all_goals first | rfl | (simp; done) | (rw [Bool.eq_iff_iff]; simp; done) | omega | skip
        · refine Eng.plain rfl rfl fun a w' H => ?_
          exact Eng.val (w1 := w') (v := av) (Eng.run_move rfl ((H.kept 1 (by kernel_rfl)).trans h1_19)) (Below.refl _ _) rfl
        · refine Eng.plain rfl rfl fun a w' H => ?_
          exact Eng.val (w1 := w') (v := cv) (Eng.run_move rfl ((H.kept 2 (by kernel_rfl)).trans h2_19)) (Below.refl _ _) rfl
        · refine Eng.plain rfl rfl fun a w' H => ?_
          refine Eng.val_ex (Eng.run_buildN1 (z := .slice none 0 0) [av, cv] rfl Tryd.underlying132 (by kernel_rfl) rfl rfl rfl rfl (by intro v hv; simp only [List.mem_cons, List.not_mem_nil, or_false] at hv; rcases hv with h | h <;> rw [h] <;> first | exact (Eng.Reads.cells1 (Eng.Reads.below Fra_19 H.below)) | exact (Eng.Reads.cells1 (Eng.Reads.below Frb_19 H.below))) (by have e0 : a.eval (.tmp 51) = av := (H.dep 1 51 (by kernel_rfl) rfl); have e1 : a.eval (.tmp 52) = cv := (H.dep 2 52 (by kernel_rfl) rfl); simp [e0, e1])) fun v1 w'' R => ?_
          obtain ⟨F, hb⟩ := R
          exact ⟨hb, F⟩
        · refine Eng.plain rfl rfl fun a w' H => ?_
          refine Eng.call Tryd.func49 (by kernel_rfl) (by kernel_rfl) rfl #[(a.eval (.tmp 53))] ?_ ?_
          · simp only [List.map_toArray, List.map_cons, List.map_nil]
          refine (Nfa.concat_calls (a.eval (.tmp 53)) [la, lb] [av, cv] _ rfl (show Eng.Reads w' (a.eval (.tmp 53)) 2 1 [av, cv] from H.dep 3 53 (by kernel_rfl) rfl) (Nfa.two_strs (Eng.Reads.below Fra_19 H.below) (Eng.Reads.below Frb_19 H.below)) (by simp; omega)).mono ?_
          rintro e w'' ⟨v, rfl, O, hb⟩
          exact ⟨_, rfl, Eng.own_mono O H.below.size, hb⟩
        · refine Eng.plain rfl rfl fun a w' H => ?_
          refine Eng.call Tryd.func40 (by kernel_rfl) (by kernel_rfl) rfl #[.agg #[pv, bv, .int .i64 m], (a.eval (.tmp 54))] ?_ ?_
          · have e0 : a.eval (.tmp 50) = .agg #[pv, bv, .int .i64 m] := (H.dep 0 50 (by kernel_rfl) rfl); simp only [List.map_toArray, List.map_cons, List.map_nil, e0]
          refine (Nfa.run_calls pv bv m ps (Nfa.begs ps ps.length) vs (a.eval (.tmp 54)) (List.flatten [la, lb]) _ ((Nfa.Tab.below XT_19 H.below)).len ((Nfa.Tab.below XT_19 H.below)).rp ((Nfa.Tab.below XT_19 H.below)).ri ((Nfa.Tab.below XT_19 H.below)).rb (Eng.Reads.of_own (H.dep 4 54 (by kernel_rfl) rfl))).mono ?_
          rintro e w'' ⟨rfl, hb⟩
          exact ⟨_, rfl, rfl, hb⟩
        · refine Eng.plain rfl rfl fun a w' H => ?_
          have kb := (H.below.block _ lg9_16_19).trans kg9_16_19
          refine Eng.val (w1 := w') (v := .agg ((List.map (Value.int .u64) (Nfa.more ps (Nfa.begs ps ps.length) (Nfa.run ps (Nfa.begs ps ps.length) la) (List.take k lb))).toArray)) ?_ (Below.refl _ _) rfl
          exact Eng.run_load_all rfl ((H.kept 9 (by kernel_rfl)).trans h9_19) kb Tryd.underlying74 rfl (by rw [Nfa.cells_size (Nfa.more_len (Nfa.run_len _ _ _) _)]; kernel_rfl)
        · refine Eng.plain rfl rfl fun a w' H => ?_
          refine Eng.val (w1 := w') (v := .bool ((Nfa.run ps (Nfa.begs ps ps.length) (List.flatten [la, lb])) == (Nfa.more ps (Nfa.begs ps ps.length) (Nfa.run ps (Nfa.begs ps ps.length) la) (List.take k lb)))) ?_ (Below.refl _ _) (by show _ = Value.bool true; rw [show ((Nfa.run ps (Nfa.begs ps ps.length) (List.flatten [la, lb])) == (Nfa.more ps (Nfa.begs ps ps.length) (Nfa.run ps (Nfa.begs ps ps.length) la) (List.take k lb))) = true from hrun])
          exact Nfa.run_eq8 rfl ((Nfa.run_len _ _ _)) (Nfa.more_len (Nfa.run_len _ _ _) _) (show a.eval (.tmp 55) = .agg ((List.map (Value.int .u64) (Nfa.run ps (Nfa.begs ps ps.length) (List.flatten [la, lb]))).toArray) from (H.dep 5 55 (by kernel_rfl) rfl)) (show a.eval (.tmp 56) = .agg ((List.map (Value.int .u64) (Nfa.more ps (Nfa.begs ps ps.length) (Nfa.run ps (Nfa.begs ps ps.length) la) (List.take k lb))).toArray) from (H.dep 6 56 (by kernel_rfl) rfl))
        · refine Eng.plain rfl rfl fun a w' H => ?_
          exact Eng.val (w1 := w') (v := .bool true) (Eng.run_move rfl (H.dep 7 57 (by kernel_rfl) rfl)) (Below.refl _ _) rfl
        · refine Eng.guardedT (j := 8) (d := 58) rfl rfl (by kernel_rfl) rfl (fun v w h => h) fun a w' H => ?_
          have kb := (H.below.block _ lg7_9_19).trans kg7_9_19
          have z0 : w'.cell? ⟨g7_9, 0, none⟩ = some (pv) := (Eng.cells kb 0).trans rfl
          have z1 : w'.cell? ⟨g7_9, 1, none⟩ = some (bv) := (Eng.cells kb 1).trans rfl
          have z2 : w'.cell? ⟨g7_9, 2, none⟩ = some (.int .i64 m) := (Eng.cells kb 2).trans rfl
          refine Eng.val (w1 := w') (v := .agg #[pv, bv, .int .i64 m]) ?_ (Below.refl _ _) rfl
          have e0 : a.eval (.tmp 7) = .pointer (some ⟨g7_9, 0, none⟩) := ((H.kept 7 (by kernel_rfl)).trans h7_19)
          simp only [execOp, resolve, List.map_toArray, List.map_cons, List.map_nil, e0]
          go_simp
          all_goals first | rfl | (simp; done) | (rw [Bool.eq_iff_iff]; simp; done) | omega | skip
        · refine Eng.guardedT (j := 8) (d := 58) rfl rfl (by kernel_rfl) rfl (fun v w h => h) fun a w' H => ?_
          refine Eng.call Tryd.func40 (by kernel_rfl) (by kernel_rfl) rfl #[.agg #[pv, bv, .int .i64 m], .slice none 0 0] ?_ ?_
          · have e0 : a.eval (.tmp 59) = .agg #[pv, bv, .int .i64 m] := (H.dep 9 59 (by kernel_rfl) rfl); have e1 : a.eval (.const (.slice none 0 0)) = .slice none 0 0 := (rfl : a.eval (.const (.slice none 0 0)) = .slice none 0 0); simp only [List.map_toArray, List.map_cons, List.map_nil, e0, e1]
          refine (Nfa.run_calls pv bv m ps (Nfa.begs ps ps.length) vs (.slice none 0 0) [] _ ((Nfa.Tab.below XT_19 H.below)).len ((Nfa.Tab.below XT_19 H.below)).rp ((Nfa.Tab.below XT_19 H.below)).ri ((Nfa.Tab.below XT_19 H.below)).rb (Eng.Reads.nil _ 1)).mono ?_
          rintro e w'' ⟨rfl, hb⟩
          exact ⟨_, rfl, rfl, hb⟩
        · refine Eng.guardedT (j := 8) (d := 58) rfl rfl (by kernel_rfl) rfl (fun v w h => h) fun a w' H => ?_
          have kb := (H.below.block _ lg7_9_19).trans kg7_9_19
          have z0 : w'.cell? ⟨g7_9, 0, none⟩ = some (pv) := (Eng.cells kb 0).trans rfl
          have z1 : w'.cell? ⟨g7_9, 1, none⟩ = some (bv) := (Eng.cells kb 1).trans rfl
          have z2 : w'.cell? ⟨g7_9, 2, none⟩ = some (.int .i64 m) := (Eng.cells kb 2).trans rfl
          refine Eng.val (w1 := w') (v := .agg #[pv, bv, .int .i64 m]) ?_ (Below.refl _ _) rfl
          have e0 : a.eval (.tmp 7) = .pointer (some ⟨g7_9, 0, none⟩) := ((H.kept 7 (by kernel_rfl)).trans h7_19)
          simp only [execOp, resolve, List.map_toArray, List.map_cons, List.map_nil, e0]
          go_simp
          all_goals first | rfl | (simp; done) | (rw [Bool.eq_iff_iff]; simp; done) | omega | skip
        · refine Eng.guardedT (j := 8) (d := 58) rfl rfl (by kernel_rfl) rfl (fun v w h => h) fun a w' H => ?_
          refine Eng.call Tryd.func50 (by kernel_rfl) (by kernel_rfl) rfl #[.agg #[pv, bv, .int .i64 m]] ?_ ?_
          · have e0 : a.eval (.tmp 61) = .agg #[pv, bv, .int .i64 m] := (H.dep 11 61 (by kernel_rfl) rfl); simp only [List.map_toArray, List.map_cons, List.map_nil, e0]
          refine (Nfa.start_calls pv bv m ps (Nfa.begs ps ps.length) vs _ ((Nfa.Tab.below XT_19 H.below)).len ((Nfa.Tab.below XT_19 H.below)).rp ((Nfa.Tab.below XT_19 H.below)).ri ((Nfa.Tab.below XT_19 H.below)).rb).mono ?_
          rintro e w'' ⟨rfl, hb⟩
          exact ⟨_, rfl, rfl, hb⟩
        · refine Eng.guardedT (j := 8) (d := 58) rfl rfl (by kernel_rfl) rfl (fun v w h => h) fun a w' H => ?_
          refine Eng.val (w1 := w') (v := .bool ((Nfa.run ps (Nfa.begs ps ps.length) []) == (Nfa.start ps (Nfa.begs ps ps.length)))) ?_ (Below.refl _ _) (by show _ = Value.bool true; rw [show ((Nfa.run ps (Nfa.begs ps ps.length) []) == (Nfa.start ps (Nfa.begs ps ps.length))) = true from beq_self_eq_true _])
          exact Nfa.run_eq8 rfl ((Nfa.run_len _ _ _)) ((Nfa.start_len _ _)) (show a.eval (.tmp 60) = .agg ((List.map (Value.int .u64) (Nfa.run ps (Nfa.begs ps ps.length) [])).toArray) from (H.dep 10 60 (by kernel_rfl) rfl)) (show a.eval (.tmp 62) = .agg ((List.map (Value.int .u64) (Nfa.start ps (Nfa.begs ps ps.length))).toArray) from (H.dep 12 62 (by kernel_rfl) rfl))
        · refine Eng.plain rfl rfl fun a w' H => ?_
          exact Eng.val (w1 := w') (v := .bool (true && true)) (Eng.run_and rfl rfl (G := true) (H.dep 8 58 (by kernel_rfl) rfl) (fun hb => (H.dep 13 63 (by kernel_rfl) rfl))) (Below.refl _ _) rfl
        · refine Eng.plain rfl rfl fun a w' H => ?_
          exact Eng.val (w1 := w') (v := .bool true) (Eng.run_assign rfl (H.dep 14 64 (by kernel_rfl) rfl)) (Below.refl _ _) rfl
      intro act26 w26 T
      have h0_26 : act26.eval (.tmp 0) = pa := (T.rest 0 (by kernel_rfl)).trans h0_19
      have h1_26 : act26.eval (.tmp 1) = av := (T.rest 1 (by kernel_rfl)).trans h1_19
      have h2_26 : act26.eval (.tmp 2) = cv := (T.rest 2 (by kernel_rfl)).trans h2_19
      have h7_26 : act26.eval (.tmp 7) = .pointer (some ⟨g7_9, 0, none⟩) := (T.rest 7 (by kernel_rfl)).trans h7_19
      have h8_26 : act26.eval (.tmp 8) = .int .i64 (Nfa.code ps) := (T.rest 8 (by kernel_rfl)).trans h8_19
      have h9_26 : act26.eval (.tmp 9) = .pointer (some ⟨g9_16, 0, none⟩) := (T.rest 9 (by kernel_rfl)).trans h9_19
      have h13_26 : act26.eval (.tmp 13) = .bool q13 := (T.rest 13 (by kernel_rfl)).trans h13_19
      have h35_26 : act26.eval (.tmp 35) = .bool q35 := (T.rest 35 (by kernel_rfl)).trans h35_19
      have h39_26 : act26.eval (.tmp 39) = cv := (T.rest 39 (by kernel_rfl)).trans h39_19
      have h40_26 : act26.eval (.tmp 40) = .int .i64 ((lb.length : Nat) : Int) := (T.rest 40 (by kernel_rfl)).trans h40_19
      have h41_26 : act26.eval (.tmp 41) = .int .i64 (k : Nat) := (T.rest 41 (by kernel_rfl)).trans h41_19
      have h42_26 : act26.eval (.tmp 42) = .bool q42 := (T.rest 42 (by kernel_rfl)).trans h42_19
      have kg7_9_26 := (T.below.block _ lg7_9_19).trans kg7_9_19
      have lg7_9_26 := Nat.lt_of_lt_of_le lg7_9_19 T.below.size
      have kg9_16_26 := (T.below.block _ lg9_16_19).trans kg9_16_19
      have lg9_16_26 := Nat.lt_of_lt_of_le lg9_16_19 T.below.size
      have Fpp_26 := Eng.Reads.below Fpp_19 T.below
      have Fra_26 := Eng.Reads.below Fra_19 T.below
      have Frb_26 := Eng.Reads.below Frb_19 T.below
      have h6_26 : act26.eval (.tmp 6) = .bool true := T.done 15 6 rfl rfl
      have d26 := T.defers.trans d19
      have s26 := T.size.trans s19
      have bl26 := bl19.trans (T.below.mono bl19.size)
      have XT_26 := Nfa.Tab.below XT_19 T.below
      clear T
      refine Eng.tail_nil ?_
      first | show Code.wp Tryd.prog _ _ _ _ | skip
      refine wp_ret ?_
      repeat (first | refine Eng.in_ret ?_ | refine Eng.then_ret ?_)
      exact Eng.ret1 rfl d26 h6_26 ⟨rfl, bl26⟩
end Go.Proofs.YthgafcaoibfchaaDoor.X
