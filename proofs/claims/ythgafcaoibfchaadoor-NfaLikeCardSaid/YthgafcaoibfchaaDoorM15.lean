/- Words and walks that the row of NfaLike needs: printed by programs, and plain laws. -/
import Derived.Test.YthgafcaoibfchaaDoorM11
import Derived.Test.YthgafcaoibfchaaDoorM12
import Derived.Test.YthgafcaoibfchaaDoorM14
namespace Go.Proofs.YthgafcaoibfchaaDoor.X
open Go.RowKit Go.Shelf Go.Proofs Go.Proofs.YthgafcaoibfchaaDoorW.PrintWords Go.Proofs.YthgafcaoibfchaaDoorW.PrintLast Go.Proofs.YthgafcaoibfchaaDoorW.PrintMore
set_option linter.unusedVariables false
set_option linter.unusedSimpArgs false
attribute [local go_sem] max2_int min2_int max_two min_two
set_option maxHeartbeats 4000000 in
set_option maxRecDepth 100000 in
theorem Nfa.like_walk (pa av : Value) (ps : List (List Pth.Part)) (us : List Value) (la : List ByteArray) (w : World) (hua : us.length = ps.length) (hp : Eng.Reads w pa ps.length 1 us) (hin : ∀ k, k < ps.length → Eng.Reads w (us.getD k undef) (ps.getD k []).length 2 (Pth.cellsP (ps.getD k []))) (hsz : ∀ k, k < ps.length → (ps.getD k []).length ≤ 5864062014634) (hpl : ps.length ≤ 5864062014634) (hst : ∀ k, k < ps.length → ∀ p ∈ ps.getD k [], p.2.size ≤ 9223372036854775807) (hT : Tabs.Holds w) (hra : Eng.Reads w av la.length 1 (Nfa.strs la)) : Calls Tryd.prog 12 #[pa, av] w fun e w' => e = .returned (.bool true) ∧ Below w.heap.size w w' := by
  have hm := Eng.Reads.len_le hra
  have hmp := Eng.Reads.len_le hp
  refine Eng.enter Tryd.func12 rfl fun act0 d0 s0 v0 => ?_
  have s0 : act0.tmps.size = 52 := s0
  have h0_0 : act0.eval (.tmp 0) = pa := v0 0 (by simp)
  have h1_0 : act0.eval (.tmp 1) = av := v0 1 (by simp)
  clear v0
  have bl0 : Below w.heap.size w w := Below.refl _ _
  refine wp_seq ?_
  refine Eng.regionS (Eng.still [fun u_ => u_ = .bool false]) (fun i => ([.plain] : List Eng.Kind).getD i .plain) 1 0 52 s0 rfl (by kernel_rfl) (Eng.still_stable _) (Or.inr (Eng.still_any _)) ?_ ?_
  · refine Eng.Steps.cons (fun _ => ?_) (Eng.Steps.nil)
    · refine Eng.plain rfl rfl fun a w' H => ?_
      exact Eng.val (w1 := w') (v := .bool false) (Eng.run_assign rfl (rfl : a.eval (.const (.bool false)) = .bool false)) (Below.refl _ _) rfl
  intro act1 w1 T
  have h0_1 : act1.eval (.tmp 0) = pa := (T.rest 0 (by kernel_rfl)).trans h0_0
  have h1_1 : act1.eval (.tmp 1) = av := (T.rest 1 (by kernel_rfl)).trans h1_0
  have Fpp_1 := Eng.Reads.below hp T.below
  have Fra_1 := Eng.Reads.below hra T.below
  have h4_1 : act1.eval (.tmp 4) = .bool false := T.done 0 4 rfl rfl
  have d1 := T.defers.trans d0
  have s1 := T.size.trans s0
  have bl1 := bl0.trans (T.below.mono bl0.size)
  clear T
  refine Eng.tail_nil ?_
  first | show Code.wp Tryd.prog _ _ _ _ | skip
  refine wp_seq ?_
  refine wp_seq ?_
  obtain ⟨q10, Bq10⟩ : ∃ b : Bool, b = (true) := ⟨_, rfl⟩
  obtain ⟨q11, Bq11⟩ : ∃ b : Bool, b = (!q10) := ⟨_, rfl⟩
  refine Eng.regionS (Eng.still [fun u_ => u_ = .bool q10, fun u_ => u_ = .bool q11]) (fun i => ([.plain, .plain] : List Eng.Kind).getD i .plain) 2 0 52 s1 rfl (by kernel_rfl) (Eng.still_stable _) (Or.inr (Eng.still_any _)) ?_ ?_
  · refine Eng.Steps.cons (fun _ => ?_) (Eng.Steps.cons (fun _ => ?_) (Eng.Steps.nil))
    · refine Eng.plain rfl rfl fun a w' H => ?_
      refine Eng.call Tryd.func35 (by kernel_rfl) (by kernel_rfl) rfl #[] ?_ ?_
      · simp
      refine (Nfa.alive_calls _ (Tabs.below (Tabs.below hT bl1) H.below)).mono ?_
      rintro e w'' ⟨rfl, hb⟩
      exact ⟨_, rfl, (by show _ = Value.bool q10; rw [Bq10]), hb⟩
    · refine Eng.plain rfl rfl fun a w' H => ?_
      exact Eng.val (w1 := w') (v := .bool (!q10)) (Eng.run_not rfl (H.dep 0 10 (by kernel_rfl) rfl)) (Below.refl _ _) (by show _ = Value.bool q11; rw [Bq11])
  intro act2 w2 T
  have h0_2 : act2.eval (.tmp 0) = pa := (T.rest 0 (by kernel_rfl)).trans h0_1
  have h1_2 : act2.eval (.tmp 1) = av := (T.rest 1 (by kernel_rfl)).trans h1_1
  have h4_2 : act2.eval (.tmp 4) = .bool false := (T.rest 4 (by kernel_rfl)).trans h4_1
  have Fpp_2 := Eng.Reads.below Fpp_1 T.below
  have Fra_2 := Eng.Reads.below Fra_1 T.below
  have h11_2 : act2.eval (.tmp 11) = .bool q11 := T.done 1 11 rfl rfl
  have d2 := T.defers.trans d1
  have s2 := T.size.trans s1
  have bl2 := bl1.trans (T.below.mono bl1.size)
  clear T
  refine Eng.tail_nil ?_
  first | show Code.wp Tryd.prog _ _ _ _ | skip
  have n11 : q11 = false := by
    try simp only [Bq11, Bq10]
    first | done | rfl
  refine wp_cond_false (h11_2.trans (by rw [n11])) ?_
  refine wp_skip ?_
  first | show Code.wp Tryd.prog _ _ _ _ | skip
  refine wp_seq ?_
  refine (wpIn_wide (n := 1)).1 ?_
  refine EngI.regionT (n := 9) rfl ?_
  refine EngI.tail_val EngI.free_wide rfl rfl rfl rfl (Eng.run_move rfl h0_2) s2 rfl fun act3 d3 s3 hv hr => ?_
  have h0_3 : act3.eval (.tmp 0) = pa := (hr 0 rfl).trans h0_2
  have h1_3 : act3.eval (.tmp 1) = av := (hr 1 rfl).trans h1_2
  have h4_3 : act3.eval (.tmp 4) = .bool false := (hr 4 rfl).trans h4_2
  have h11_3 : act3.eval (.tmp 11) = .bool q11 := (hr 11 rfl).trans h11_2
  have h13_3 : act3.eval (.tmp 13) = pa := hv
  have d3 := d3.trans d2
  clear hv hr
  refine EngI.tail_call EngI.free_wide Tryd.func37 (by kernel_rfl) (by kernel_rfl) rfl rfl rfl rfl #[pa] (by have e0 : act3.eval (.tmp 13) = pa := h13_3; simp only [List.map_toArray, List.map_cons, List.map_nil, e0]) s3 rfl (R := fun v w' => ∃ vl, vl.length = ps.length ∧ w'.ownsRow w2.heap.size 82 1 v ps.length vl ∧ Pth.Each w2.heap.size ps vl w' ∧ Below w2.heap.size w2 w') ((Pth.theirses_calls pa ps us _ hua Fpp_2 (fun k hk => Eng.Reads.below (hin k hk) bl2) hsz hpl).mono ?_) fun v_4 w4 act4 R d4 s4 hv hr => ?_
  · rintro e w1 ⟨v, vl, rfl, h1, h2, h3, h4⟩; exact ⟨v, rfl, vl, h1, h2, h3, h4⟩
  have h0_4 : act4.eval (.tmp 0) = pa := (hr 0 rfl).trans h0_3
  have h1_4 : act4.eval (.tmp 1) = av := (hr 1 rfl).trans h1_3
  have h4_4 : act4.eval (.tmp 4) = .bool false := (hr 4 rfl).trans h4_3
  have h11_4 : act4.eval (.tmp 11) = .bool q11 := (hr 11 rfl).trans h11_3
  have h13_4 : act4.eval (.tmp 13) = pa := (hr 13 rfl).trans h13_3
  have h14_4 : act4.eval (.tmp 14) = v_4 := hv
  have d4 := d4.trans d3
  clear hv hr
  obtain ⟨vl, hvl, Oth4, XE4, hb4⟩ := R
  have Oth := Eng.own_mono Oth4 bl2.size
  have XE := Pth.Each.mono XE4 bl2.size
  have Fth := Eng.Reads.of_own Oth
  have Fpp_4 := Eng.Reads.below Fpp_2 hb4
  have Fra_4 := Eng.Reads.below Fra_2 hb4
  have bl4 := bl2.trans (hb4.mono bl2.size)
  refine EngI.tail_call EngI.free_wide Tryd.func36 (by kernel_rfl) (by kernel_rfl) rfl rfl rfl rfl #[v_4] (by have e0 : act4.eval (.tmp 14) = v_4 := h14_4; simp only [List.map_toArray, List.map_cons, List.map_nil, e0]) s4 rfl (R := fun v w' => ∃ pv bv vs m, v = .tuple #[.agg #[pv, bv, .int .i64 m], .int .i64 (Nfa.code ps)] ∧ (Nfa.Slc pv ∧ Nfa.Slc bv) ∧ Nfa.Made w4.heap.size pv bv ps vs m w' ∧ Below w4.heap.size w4 w') ((Nfa.make_calls v_4 ps vl _ hvl Fth (Pth.Each.reads XE hvl) hsz hpl hst (Tabs.below hT bl4)).mono ?_) fun v_5 w5 act5 R d5 s5 hv hr => ?_
  · rintro e w1 ⟨pv, bv, vs, m, rfl, h1, h2, h3⟩; exact ⟨_, rfl, pv, bv, vs, m, rfl, h1, h2, h3⟩
  have h0_5 : act5.eval (.tmp 0) = pa := (hr 0 rfl).trans h0_4
  have h1_5 : act5.eval (.tmp 1) = av := (hr 1 rfl).trans h1_4
  have h4_5 : act5.eval (.tmp 4) = .bool false := (hr 4 rfl).trans h4_4
  have h11_5 : act5.eval (.tmp 11) = .bool q11 := (hr 11 rfl).trans h11_4
  have h13_5 : act5.eval (.tmp 13) = pa := (hr 13 rfl).trans h13_4
  have h14_5 : act5.eval (.tmp 14) = v_4 := (hr 14 rfl).trans h14_4
  have h15_5 : act5.eval (.tmp 15) = v_5 := hv
  have d5 := d5.trans d4
  clear hv hr
  obtain ⟨pv, bv, vs, m, hv1_5, ⟨hsl0_5, hsl1_5⟩, hM_5, hb5⟩ := R
  have hMm_5 := Nfa.Made.mono hM_5 bl4.size
  clear hM_5
  have Fpp_5 := Eng.Reads.below Fpp_4 hb5
  have Fra_5 := Eng.Reads.below Fra_4 hb5
  have Fth_5 := Eng.Reads.below Fth hb5
  have Oth_5 := Eng.own_below Oth hb5
  have XE_5 := Pth.Each.below XE hb5
  have bl5 := bl4.trans (hb5.mono bl4.size)
  rw [hv1_5] at h15_5
  refine EngI.tail_val EngI.free_wide rfl rfl rfl rfl (Eng.run_move rfl h15_5) s5 rfl fun act6 d6 s6 hv hr => ?_
  have h0_6 : act6.eval (.tmp 0) = pa := (hr 0 rfl).trans h0_5
  have h1_6 : act6.eval (.tmp 1) = av := (hr 1 rfl).trans h1_5
  have h4_6 : act6.eval (.tmp 4) = .bool false := (hr 4 rfl).trans h4_5
  have h11_6 : act6.eval (.tmp 11) = .bool q11 := (hr 11 rfl).trans h11_5
  have h13_6 : act6.eval (.tmp 13) = pa := (hr 13 rfl).trans h13_5
  have h14_6 : act6.eval (.tmp 14) = v_4 := (hr 14 rfl).trans h14_5
  have h15_6 : act6.eval (.tmp 15) = .tuple #[.agg #[pv, bv, .int .i64 m], .int .i64 (Nfa.code ps)] := (hr 15 rfl).trans h15_5
  have h12_6 : act6.eval (.tmp 12) = .tuple #[.agg #[pv, bv, .int .i64 m], .int .i64 (Nfa.code ps)] := hv
  have d6 := d6.trans d5
  clear hv hr
  refine EngI.tail_val (w1 := w5) (v := .agg #[pv, bv, .int .i64 m]) EngI.free_wide rfl rfl rfl rfl ?_ s6 rfl ?_
  · have e0 : act6.eval (.tmp 12) = .tuple #[.agg #[pv, bv, .int .i64 m], .int .i64 (Nfa.code ps)] := h12_6
    simp only [execOp, resolve, List.map_toArray, List.map_cons, List.map_nil, e0]
    go_simp
    all_goals first | rfl | (simp; done) | (rw [Bool.eq_iff_iff]; simp; done) | omega | skip
  intro act7 d7 s7 hv hr
  have h0_7 : act7.eval (.tmp 0) = pa := (hr 0 rfl).trans h0_6
  have h1_7 : act7.eval (.tmp 1) = av := (hr 1 rfl).trans h1_6
  have h4_7 : act7.eval (.tmp 4) = .bool false := (hr 4 rfl).trans h4_6
  have h11_7 : act7.eval (.tmp 11) = .bool q11 := (hr 11 rfl).trans h11_6
  have h12_7 : act7.eval (.tmp 12) = .tuple #[.agg #[pv, bv, .int .i64 m], .int .i64 (Nfa.code ps)] := (hr 12 rfl).trans h12_6
  have h13_7 : act7.eval (.tmp 13) = pa := (hr 13 rfl).trans h13_6
  have h14_7 : act7.eval (.tmp 14) = v_4 := (hr 14 rfl).trans h14_6
  have h15_7 : act7.eval (.tmp 15) = .tuple #[.agg #[pv, bv, .int .i64 m], .int .i64 (Nfa.code ps)] := (hr 15 rfl).trans h15_6
  have h16_7 : act7.eval (.tmp 16) = .agg #[pv, bv, .int .i64 m] := hv
  have d7 := d7.trans d6
  clear hv hr
  refine EngI.tail_val (w1 := w5) (v := .int .i64 (Nfa.code ps)) EngI.free_wide rfl rfl rfl rfl ?_ s7 rfl ?_
  · have e0 : act7.eval (.tmp 12) = .tuple #[.agg #[pv, bv, .int .i64 m], .int .i64 (Nfa.code ps)] := h12_7
    simp only [execOp, resolve, List.map_toArray, List.map_cons, List.map_nil, e0]
    go_simp
    all_goals first | rfl | (simp; done) | (rw [Bool.eq_iff_iff]; simp; done) | omega | skip
  intro act8 d8 s8 hv hr
  have h0_8 : act8.eval (.tmp 0) = pa := (hr 0 rfl).trans h0_7
  have h1_8 : act8.eval (.tmp 1) = av := (hr 1 rfl).trans h1_7
  have h4_8 : act8.eval (.tmp 4) = .bool false := (hr 4 rfl).trans h4_7
  have h11_8 : act8.eval (.tmp 11) = .bool q11 := (hr 11 rfl).trans h11_7
  have h12_8 : act8.eval (.tmp 12) = .tuple #[.agg #[pv, bv, .int .i64 m], .int .i64 (Nfa.code ps)] := (hr 12 rfl).trans h12_7
  have h13_8 : act8.eval (.tmp 13) = pa := (hr 13 rfl).trans h13_7
  have h14_8 : act8.eval (.tmp 14) = v_4 := (hr 14 rfl).trans h14_7
  have h15_8 : act8.eval (.tmp 15) = .tuple #[.agg #[pv, bv, .int .i64 m], .int .i64 (Nfa.code ps)] := (hr 15 rfl).trans h15_7
  have h16_8 : act8.eval (.tmp 16) = .agg #[pv, bv, .int .i64 m] := (hr 16 rfl).trans h16_7
  have h17_8 : act8.eval (.tmp 17) = .int .i64 (Nfa.code ps) := hv
  have d8 := d8.trans d7
  clear hv hr
  refine EngI.tail_ex EngI.free_wide rfl rfl rfl rfl (Eng.alloc_ex (cs := #[.slice none 0 0, .slice none 0 0, .int .i64 0]) rfl (by kernel_rfl)) s8 rfl fun v_9 w9 act9 R d9 s9 hv hr => ?_
  obtain ⟨g5_9, ev_9, rg_9, lg5_9, kg5_9, b_9⟩ := R
  have h0_9 : act9.eval (.tmp 0) = pa := (hr 0 rfl).trans h0_8
  have h1_9 : act9.eval (.tmp 1) = av := (hr 1 rfl).trans h1_8
  have h4_9 : act9.eval (.tmp 4) = .bool false := (hr 4 rfl).trans h4_8
  have h11_9 : act9.eval (.tmp 11) = .bool q11 := (hr 11 rfl).trans h11_8
  have h12_9 : act9.eval (.tmp 12) = .tuple #[.agg #[pv, bv, .int .i64 m], .int .i64 (Nfa.code ps)] := (hr 12 rfl).trans h12_8
  have h13_9 : act9.eval (.tmp 13) = pa := (hr 13 rfl).trans h13_8
  have h14_9 : act9.eval (.tmp 14) = v_4 := (hr 14 rfl).trans h14_8
  have h15_9 : act9.eval (.tmp 15) = .tuple #[.agg #[pv, bv, .int .i64 m], .int .i64 (Nfa.code ps)] := (hr 15 rfl).trans h15_8
  have h16_9 : act9.eval (.tmp 16) = .agg #[pv, bv, .int .i64 m] := (hr 16 rfl).trans h16_8
  have h17_9 : act9.eval (.tmp 17) = .int .i64 (Nfa.code ps) := (hr 17 rfl).trans h17_8
  have h5_9 : act9.eval (.tmp 5) = v_9 := hv
  have d9 := d9.trans d8
  clear hv hr
  have og5_9 : w.heap.size ≤ g5_9 := Nat.le_trans bl5.size rg_9
  have Fpp_9 := Eng.Reads.below Fpp_5 b_9
  have Fra_9 := Eng.Reads.below Fra_5 b_9
  have Fth_9 := Eng.Reads.below Fth_5 b_9
  have Oth_9 := Eng.own_below Oth_5 b_9
  have XM_9 := Nfa.Made.below hMm_5 b_9
  have bl9 := bl5.trans (b_9.mono bl5.size)
  rw [ev_9] at h5_9
  refine EngI.tail_put EngI.free_wide [pv, bv, .int .i64 m] (n := 0) (new := #[pv, bv, .int .i64 m]) rfl rfl rfl rfl kg5_9 rfl ?_ fun w10 S => ?_
  · have e0 : act9.eval (.tmp 5) = .pointer (some ⟨g5_9, 0, none⟩) := h5_9
    have e1 : act9.eval (.tmp 16) = .agg #[pv, bv, .int .i64 m] := h16_9
    obtain ⟨A0_, n0_, c0_, ev0_⟩ := hsl0_5
    subst ev0_
    obtain ⟨A1_, n1_, c1_, ev1_⟩ := hsl1_5
    subst ev1_
    have z0 := (Eng.cells kg5_9 (0)).trans (rfl)
    have f0 := Eng.unfrozen kg5_9 (0)
    have z1 := (Eng.cells kg5_9 (1)).trans (rfl)
    have f1 := Eng.unfrozen kg5_9 (1)
    have z2 := (Eng.cells kg5_9 (2)).trans (rfl)
    have f2 := Eng.unfrozen kg5_9 (2)
    simp only [execOp]
    rw [e0, e1]
    go_simp
    try rfl
  have kg5_9_10 := S.new
  have lg5_9_10 := Nat.lt_of_lt_of_eq lg5_9 S.size.symm
  have bl10 := S.below bl9 og5_9
  have Fpp_10 := Eng.Reads.below hp bl10
  have Fra_10 := Eng.Reads.below hra bl10
  have Oth_10 := Eng.own_sets Oth_9 S kg5_9 rfl
  have Fth_10 := Eng.Reads.of_own Oth_10
  have XM_10 := Nfa.Made.sets XM_9 S kg5_9 rfl
  clear S
  refine EngI.tail_val EngI.free_wide rfl rfl rfl rfl (Eng.run_assign rfl h17_9) s9 rfl fun act11 d11 s11 hv hr => ?_
  have h0_11 : act11.eval (.tmp 0) = pa := (hr 0 rfl).trans h0_9
  have h1_11 : act11.eval (.tmp 1) = av := (hr 1 rfl).trans h1_9
  have h4_11 : act11.eval (.tmp 4) = .bool false := (hr 4 rfl).trans h4_9
  have h5_11 : act11.eval (.tmp 5) = .pointer (some ⟨g5_9, 0, none⟩) := (hr 5 rfl).trans h5_9
  have h11_11 : act11.eval (.tmp 11) = .bool q11 := (hr 11 rfl).trans h11_9
  have h12_11 : act11.eval (.tmp 12) = .tuple #[.agg #[pv, bv, .int .i64 m], .int .i64 (Nfa.code ps)] := (hr 12 rfl).trans h12_9
  have h13_11 : act11.eval (.tmp 13) = pa := (hr 13 rfl).trans h13_9
  have h14_11 : act11.eval (.tmp 14) = v_4 := (hr 14 rfl).trans h14_9
  have h15_11 : act11.eval (.tmp 15) = .tuple #[.agg #[pv, bv, .int .i64 m], .int .i64 (Nfa.code ps)] := (hr 15 rfl).trans h15_9
  have h16_11 : act11.eval (.tmp 16) = .agg #[pv, bv, .int .i64 m] := (hr 16 rfl).trans h16_9
  have h17_11 : act11.eval (.tmp 17) = .int .i64 (Nfa.code ps) := (hr 17 rfl).trans h17_9
  have h6_11 : act11.eval (.tmp 6) = .int .i64 (Nfa.code ps) := hv
  have d11 := d11.trans d9
  clear hv hr
  refine EngI.tail_nil ?_
  first | show Code.wp Tryd.prog _ _ _ _ | skip
  refine wp_seq ?_
  refine wp_seq ?_
  obtain ⟨q19, Bq19⟩ : ∃ b : Bool, b = (Pth.heavies ps) := ⟨_, rfl⟩
  obtain ⟨q23, Bq23⟩ : ∃ b : Bool, b = (decide (((la.length : Nat) : Int) > 30)) := ⟨_, rfl⟩
  obtain ⟨q24, Bq24⟩ : ∃ b : Bool, b = (q19 || q23) := ⟨_, rfl⟩
  obtain ⟨q27, Bq27⟩ : ∃ b : Bool, b = (!((Nfa.code ps) == 0)) := ⟨_, rfl⟩
  obtain ⟨q28, Bq28⟩ : ∃ b : Bool, b = (q24 || q27) := ⟨_, rfl⟩
  refine Eng.regionS (Eng.still [fun u_ => u_ = pa, fun u_ => u_ = .bool q19, fun u_ => u_ = .bool q19, fun u_ => u_ = bif (q19 == false) then (av) else undef, fun u_ => u_ = bif (q19 == false) then (.int .i64 ((la.length : Nat) : Int)) else undef, fun u_ => u_ = bif (q19 == false) then (.bool q23) else undef, fun u_ => u_ = .bool q24, fun u_ => u_ = .bool q24, fun u_ => u_ = bif (q24 == false) then (.int .i64 (Nfa.code ps)) else undef, fun u_ => u_ = bif (q24 == false) then (.bool q27) else undef, fun u_ => u_ = .bool q28]) (fun i => ([.plain, .plain, .plain, .plain, .plain, .plain, .plain, .plain, .plain, .plain, .plain] : List Eng.Kind).getD i .plain) 11 0 52 s11 rfl (by kernel_rfl) (Eng.still_stable _) (Or.inr (Eng.still_any _)) ?_ ?_
  · refine Eng.Steps.cons (fun _ => ?_) (Eng.Steps.cons (fun _ => ?_) (Eng.Steps.cons (fun _ => ?_) (Eng.Steps.cons (fun _ => ?_) (Eng.Steps.cons (fun _ => ?_) (Eng.Steps.cons (fun _ => ?_) (Eng.Steps.cons (fun _ => ?_) (Eng.Steps.cons (fun _ => ?_) (Eng.Steps.cons (fun _ => ?_) (Eng.Steps.cons (fun _ => ?_) (Eng.Steps.cons (fun _ => ?_) (Eng.Steps.nil)))))))))))
    · refine Eng.plain rfl rfl fun a w' H => ?_
      exact Eng.val (w1 := w') (v := pa) (Eng.run_move rfl ((H.kept 0 (by kernel_rfl)).trans h0_11)) (Below.refl _ _) rfl
    · refine Eng.plain rfl rfl fun a w' H => ?_
      refine Eng.call Tryd.func38 (by kernel_rfl) (by kernel_rfl) rfl #[pa] ?_ ?_
      · have e0 : a.eval (.tmp 18) = pa := (H.dep 0 18 (by kernel_rfl) rfl); simp only [List.map_toArray, List.map_cons, List.map_nil, e0]
      refine (Pth.heavies_calls pa ps us _ hua (Eng.Reads.below Fpp_10 H.below) (fun k hk => Eng.Reads.below (Eng.Reads.below (hin k hk) bl10) H.below)).mono ?_
      rintro e w'' ⟨rfl, hb⟩
      exact ⟨_, rfl, (by show _ = Value.bool q19; rw [Bq19]), hb⟩
    · refine Eng.plain rfl rfl fun a w' H => ?_
      exact Eng.val (w1 := w') (v := .bool q19) (Eng.run_move rfl (H.dep 1 19 (by kernel_rfl) rfl)) (Below.refl _ _) rfl
    · refine Eng.guarded1 (j := 2) (d := 20) (b := q19) rfl rfl (by kernel_rfl) rfl (fun v w h => h) (fun hG w => Eng.off hG) fun hG a w' H => ?_
      exact Eng.val (w1 := w') (v := av) (Eng.run_move rfl ((H.kept 1 (by kernel_rfl)).trans h1_11)) (Below.refl _ _) (Eng.off' hG rfl)
    · refine Eng.guarded1 (j := 2) (d := 20) (b := q19) rfl rfl (by kernel_rfl) rfl (fun v w h => h) (fun hG w => Eng.off hG) fun hG a w' H => ?_
      refine Eng.val (w1 := w') (v := .int .i64 ((la.length : Nat) : Int)) ?_ (Below.refl _ _) (Eng.off' hG rfl)
      exact Eng.run_len_sl rfl Tryd.underlying43 (show a.eval (.tmp 21) = av from (Eng.on (H.dep 3 21 (by kernel_rfl) rfl) hG)) (Eng.Reads.below Fra_10 H.below)
    · refine Eng.guarded1 (j := 2) (d := 20) (b := q19) rfl rfl (by kernel_rfl) rfl (fun v w h => h) (fun hG w => Eng.off hG) fun hG a w' H => ?_
      refine Eng.val (w1 := w') (v := .bool (decide (((la.length : Nat) : Int) > 30))) ?_ (Below.refl _ _) (Eng.off' hG (by rw [Bq23]))
      have e0 : a.eval (.tmp 22) = .int .i64 ((la.length : Nat) : Int) := (Eng.on (H.dep 4 22 (by kernel_rfl) rfl) hG)
      have e1 : a.eval (.const (.int .i64 30)) = .int .i64 30 := (rfl : a.eval (.const (.int .i64 30)) = .int .i64 30)
      simp only [execOp, resolve, List.map_toArray, List.map_cons, List.map_nil, e0, e1]
      go_simp
      all_goals first | rfl | (simp; done) | (rw [Bool.eq_iff_iff]; simp; done) | omega | skip
    · refine Eng.plain rfl rfl fun a w' H => ?_
      exact Eng.val (w1 := w') (v := .bool (q19 || q23)) (Eng.run_or rfl rfl (G := true) (H.dep 2 20 (by kernel_rfl) rfl) (fun hb => (Eng.on (H.dep 5 23 (by kernel_rfl) rfl) (Eng.mk1 hb)))) (Below.refl _ _) (by show _ = Value.bool q24; rw [Bq24])
    · refine Eng.plain rfl rfl fun a w' H => ?_
      exact Eng.val (w1 := w') (v := .bool q24) (Eng.run_move rfl (H.dep 6 24 (by kernel_rfl) rfl)) (Below.refl _ _) rfl
    · refine Eng.guarded1 (j := 7) (d := 25) (b := q24) rfl rfl (by kernel_rfl) rfl (fun v w h => h) (fun hG w => Eng.off hG) fun hG a w' H => ?_
      exact Eng.val (w1 := w') (v := .int .i64 (Nfa.code ps)) (Eng.run_move rfl ((H.kept 6 (by kernel_rfl)).trans h6_11)) (Below.refl _ _) (Eng.off' hG rfl)
    · refine Eng.guarded1 (j := 7) (d := 25) (b := q24) rfl rfl (by kernel_rfl) rfl (fun v w h => h) (fun hG w => Eng.off hG) fun hG a w' H => ?_
      refine Eng.val (w1 := w') (v := .bool (!((Nfa.code ps) == 0))) ?_ (Below.refl _ _) (Eng.off' hG (by rw [Bq27]))
      have e0 : a.eval (.tmp 26) = .int .i64 (Nfa.code ps) := (Eng.on (H.dep 8 26 (by kernel_rfl) rfl) hG)
      have e1 : a.eval (.const (.int .i64 0)) = .int .i64 0 := (rfl : a.eval (.const (.int .i64 0)) = .int .i64 0)
      simp only [execOp, resolve, List.map_toArray, List.map_cons, List.map_nil, e0, e1]
      go_simp
      all_goals first | rfl | (simp; done) | (rw [Bool.eq_iff_iff]; simp; done) | omega | skip
    · refine Eng.plain rfl rfl fun a w' H => ?_
      exact Eng.val (w1 := w') (v := .bool (q24 || q27)) (Eng.run_or rfl rfl (G := true) (H.dep 7 25 (by kernel_rfl) rfl) (fun hb => (Eng.on (H.dep 9 27 (by kernel_rfl) rfl) (Eng.mk1 hb)))) (Below.refl _ _) (by show _ = Value.bool q28; rw [Bq28])
  intro act12 w12 T
  have h0_12 : act12.eval (.tmp 0) = pa := (T.rest 0 (by kernel_rfl)).trans h0_11
  have h1_12 : act12.eval (.tmp 1) = av := (T.rest 1 (by kernel_rfl)).trans h1_11
  have h4_12 : act12.eval (.tmp 4) = .bool false := (T.rest 4 (by kernel_rfl)).trans h4_11
  have h5_12 : act12.eval (.tmp 5) = .pointer (some ⟨g5_9, 0, none⟩) := (T.rest 5 (by kernel_rfl)).trans h5_11
  have h6_12 : act12.eval (.tmp 6) = .int .i64 (Nfa.code ps) := (T.rest 6 (by kernel_rfl)).trans h6_11
  have h11_12 : act12.eval (.tmp 11) = .bool q11 := (T.rest 11 (by kernel_rfl)).trans h11_11
  have kg5_9_12 := (T.below.block _ lg5_9_10).trans kg5_9_10
  have lg5_9_12 := Nat.lt_of_lt_of_le lg5_9_10 T.below.size
  have Fpp_12 := Eng.Reads.below Fpp_10 T.below
  have Fra_12 := Eng.Reads.below Fra_10 T.below
  have Fth_12 := Eng.Reads.below Fth_10 T.below
  have Oth_12 := Eng.own_below Oth_10 T.below
  have h28_12 : act12.eval (.tmp 28) = .bool q28 := T.done 10 28 rfl rfl
  have d12 := T.defers.trans d11
  have s12 := T.size.trans s11
  have bl12 := bl10.trans (T.below.mono bl10.size)
  have XM_12 := Nfa.Made.below XM_10 T.below
  clear T
  refine Eng.tail_nil ?_
  first | show Code.wp Tryd.prog _ _ _ _ | skip
  refine wp_cond_split h28_12 (fun hq => ?_) (fun hq => ?_)
  ·
    have kn13 := hq
    have c28 := Bq28.symm.trans hq
    clear hq
    refine wp_seq ?_
    refine Eng.regionS (Eng.still [fun u_ => u_ = .bool true]) (fun i => ([.plain] : List Eng.Kind).getD i .plain) 1 0 52 s12 rfl (by kernel_rfl) (Eng.still_stable _) (Or.inr (Eng.still_any _)) ?_ ?_
    · refine Eng.Steps.cons (fun _ => ?_) (Eng.Steps.nil)
      · refine Eng.plain rfl rfl fun a w' H => ?_
        exact Eng.val (w1 := w') (v := .bool true) (Eng.run_assign rfl (rfl : a.eval (.const (.bool true)) = .bool true)) (Below.refl _ _) rfl
    intro act14 w14 T
    have h0_14 : act14.eval (.tmp 0) = pa := (T.rest 0 (by kernel_rfl)).trans h0_12
    have h1_14 : act14.eval (.tmp 1) = av := (T.rest 1 (by kernel_rfl)).trans h1_12
    have h5_14 : act14.eval (.tmp 5) = .pointer (some ⟨g5_9, 0, none⟩) := (T.rest 5 (by kernel_rfl)).trans h5_12
    have h6_14 : act14.eval (.tmp 6) = .int .i64 (Nfa.code ps) := (T.rest 6 (by kernel_rfl)).trans h6_12
    have h11_14 : act14.eval (.tmp 11) = .bool q11 := (T.rest 11 (by kernel_rfl)).trans h11_12
    have h28_14 : act14.eval (.tmp 28) = .bool q28 := (T.rest 28 (by kernel_rfl)).trans h28_12
    have kg5_9_14 := (T.below.block _ lg5_9_12).trans kg5_9_12
    have lg5_9_14 := Nat.lt_of_lt_of_le lg5_9_12 T.below.size
    have Fpp_14 := Eng.Reads.below Fpp_12 T.below
    have Fra_14 := Eng.Reads.below Fra_12 T.below
    have Fth_14 := Eng.Reads.below Fth_12 T.below
    have Oth_14 := Eng.own_below Oth_12 T.below
    have h4_14 : act14.eval (.tmp 4) = .bool true := T.done 0 4 rfl rfl
    have d14 := T.defers.trans d12
    have s14 := T.size.trans s12
    have bl14 := bl12.trans (T.below.mono bl12.size)
    have XM_14 := Nfa.Made.below XM_12 T.below
    clear T
    refine Eng.tail_nil ?_
    first | show Code.wp Tryd.prog _ _ _ _ | skip
    refine wp_ret ?_
    repeat (first | refine Eng.in_ret ?_ | refine Eng.then_ret ?_)
    exact Eng.ret1 rfl d14 h4_14 ⟨rfl, bl14⟩
  ·
    have kn15 := hq
    have c28 := Bq28.symm.trans hq
    clear hq
    rw [Bq27, Bq24, Bq23, Bq19] at c28
    simp at c28
    obtain ⟨⟨hheavy, hla⟩, hcode⟩ := c28
    have hla : la.length ≤ 30 := by omega
    have hps := Nfa.light_len hheavy
    obtain ⟨hTab, hmm⟩ := XM_12 hcode
    have hvs := hTab.len
    obtain ⟨M, hM⟩ : ∃ M, M = w12.heap.size := ⟨_, rfl⟩
    have hTN := Nfa.TabN.of hTab
    rw [← hM] at hTN
    refine wp_skip ?_
    first | show Code.wp Tryd.prog _ _ _ _ | skip
    refine wp_seq ?_
    refine Eng.regionS (Eng.still [fun u_ => u_ = .slice none 0 0]) (fun i => ([.plain] : List Eng.Kind).getD i .plain) 1 0 52 s12 rfl (by kernel_rfl) (Eng.still_stable _) (Or.inr (Eng.still_any _)) ?_ ?_
    · refine Eng.Steps.cons (fun _ => ?_) (Eng.Steps.nil)
      · refine Eng.plain rfl rfl fun a w' H => ?_
        exact Eng.val (w1 := w') (v := .slice none 0 0) (Eng.run_assign rfl (rfl : a.eval (.const (.slice none 0 0)) = .slice none 0 0)) (Below.refl _ _) rfl
    intro act16 w16 T
    have h0_16 : act16.eval (.tmp 0) = pa := (T.rest 0 (by kernel_rfl)).trans h0_12
    have h1_16 : act16.eval (.tmp 1) = av := (T.rest 1 (by kernel_rfl)).trans h1_12
    have h4_16 : act16.eval (.tmp 4) = .bool false := (T.rest 4 (by kernel_rfl)).trans h4_12
    have h5_16 : act16.eval (.tmp 5) = .pointer (some ⟨g5_9, 0, none⟩) := (T.rest 5 (by kernel_rfl)).trans h5_12
    have h6_16 : act16.eval (.tmp 6) = .int .i64 (Nfa.code ps) := (T.rest 6 (by kernel_rfl)).trans h6_12
    have h11_16 : act16.eval (.tmp 11) = .bool q11 := (T.rest 11 (by kernel_rfl)).trans h11_12
    have h28_16 : act16.eval (.tmp 28) = .bool q28 := (T.rest 28 (by kernel_rfl)).trans h28_12
    have kg5_9_16 := (T.below.block _ lg5_9_12).trans kg5_9_12
    have lg5_9_16 := Nat.lt_of_lt_of_le lg5_9_12 T.below.size
    have Fpp_16 := Eng.Reads.below Fpp_12 T.below
    have Fra_16 := Eng.Reads.below Fra_12 T.below
    have Fth_16 := Eng.Reads.below Fth_12 T.below
    have Oth_16 := Eng.own_below Oth_12 T.below
    have Fpp2_16 := Eng.Reads.below hTab.rp T.below
    have Opp2_16 := Eng.own_below hTab.pp T.below
    have h7_16 : act16.eval (.tmp 7) = .slice none 0 0 := T.done 0 7 rfl rfl
    have d16 := T.defers.trans d12
    have s16 := T.size.trans s12
    have bl16 := bl12.trans (T.below.mono bl12.size)
    have XT_16 := Nfa.TabN.below hTN T.below
    clear T
    refine Eng.tail_nil ?_
    first | show Code.wp Tryd.prog _ _ _ _ | skip
    refine wp_seq ?_
    refine wp_seq ?_
    refine Eng.regionS (Eng.still [fun u_ => u_ = .pointer (some ⟨g5_9, 0, none⟩), fun u_ => u_ = pv, fun u_ => u_ = .int .i64 ((ps.length : Nat) : Int), fun u_ => u_ = .int .i64 0]) (fun i => ([.plain, .plain, .plain, .plain] : List Eng.Kind).getD i .plain) 4 0 52 s16 rfl (by kernel_rfl) (Eng.still_stable _) (Or.inr (Eng.still_any _)) ?_ ?_
    · refine Eng.Steps.cons (fun _ => ?_) (Eng.Steps.cons (fun _ => ?_) (Eng.Steps.cons (fun _ => ?_) (Eng.Steps.cons (fun _ => ?_) (Eng.Steps.nil))))
      · refine Eng.plain rfl rfl fun a w' H => ?_
        refine Eng.val (w1 := w') (v := .pointer (some ⟨g5_9, 0, none⟩)) ?_ (Below.refl _ _) rfl
        have e0 : a.eval (.tmp 5) = .pointer (some ⟨g5_9, 0, none⟩) := ((H.kept 5 (by kernel_rfl)).trans h5_16)
        simp only [execOp, resolve, List.map_toArray, List.map_cons, List.map_nil, e0]
        go_simp
        all_goals first | rfl | (simp; done) | (rw [Bool.eq_iff_iff]; simp; done) | omega | skip
      · refine Eng.plain rfl rfl fun a w' H => ?_
        have kb := (H.below.block _ lg5_9_16).trans kg5_9_16
        have z0 : w'.cell? ⟨g5_9, 0, none⟩ = some (pv) := (Eng.cells kb 0).trans rfl
        refine Eng.val (w1 := w') (v := pv) ?_ (Below.refl _ _) rfl
        have e0 : a.eval (.tmp 29) = .pointer (some ⟨g5_9, 0, none⟩) := (H.dep 0 29 (by kernel_rfl) rfl)
        simp only [execOp, resolve, List.map_toArray, List.map_cons, List.map_nil, e0]
        go_simp
        all_goals first | rfl | (simp; done) | (rw [Bool.eq_iff_iff]; simp; done) | omega | skip
      · refine Eng.plain rfl rfl fun a w' H => ?_
        refine Eng.val (w1 := w') (v := .int .i64 ((ps.length : Nat) : Int)) ?_ (Below.refl _ _) rfl
        exact Eng.run_len_sl rfl Tryd.underlying62 (show a.eval (.tmp 30) = pv from (H.dep 1 30 (by kernel_rfl) rfl)) (Eng.Reads.below Fpp2_16 H.below)
      · refine Eng.plain rfl rfl fun a w' H => ?_
        exact Eng.val (w1 := w') (v := .int .i64 0) (Eng.run_move rfl (rfl : a.eval (.const (.int .i64 0)) = .int .i64 0)) (Below.refl _ _) rfl
    intro act17 w17 T
    have h0_17 : act17.eval (.tmp 0) = pa := (T.rest 0 (by kernel_rfl)).trans h0_16
    have h1_17 : act17.eval (.tmp 1) = av := (T.rest 1 (by kernel_rfl)).trans h1_16
    have h4_17 : act17.eval (.tmp 4) = .bool false := (T.rest 4 (by kernel_rfl)).trans h4_16
    have h5_17 : act17.eval (.tmp 5) = .pointer (some ⟨g5_9, 0, none⟩) := (T.rest 5 (by kernel_rfl)).trans h5_16
    have h6_17 : act17.eval (.tmp 6) = .int .i64 (Nfa.code ps) := (T.rest 6 (by kernel_rfl)).trans h6_16
    have h7_17 : act17.eval (.tmp 7) = .slice none 0 0 := (T.rest 7 (by kernel_rfl)).trans h7_16
    have h11_17 : act17.eval (.tmp 11) = .bool q11 := (T.rest 11 (by kernel_rfl)).trans h11_16
    have h28_17 : act17.eval (.tmp 28) = .bool q28 := (T.rest 28 (by kernel_rfl)).trans h28_16
    have kg5_9_17 := (T.below.block _ lg5_9_16).trans kg5_9_16
    have lg5_9_17 := Nat.lt_of_lt_of_le lg5_9_16 T.below.size
    have Fpp_17 := Eng.Reads.below Fpp_16 T.below
    have Fra_17 := Eng.Reads.below Fra_16 T.below
    have Fth_17 := Eng.Reads.below Fth_16 T.below
    have Oth_17 := Eng.own_below Oth_16 T.below
    have Fpp2_17 := Eng.Reads.below Fpp2_16 T.below
    have Opp2_17 := Eng.own_below Opp2_16 T.below
    have h30_17 : act17.eval (.tmp 30) = pv := T.done 1 30 rfl rfl
    have h31_17 : act17.eval (.tmp 31) = .int .i64 ((ps.length : Nat) : Int) := T.done 2 31 rfl rfl
    have h32_17 : act17.eval (.tmp 32) = .int .i64 0 := T.done 3 32 rfl rfl
    have d17 := T.defers.trans d16
    have s17 := T.size.trans s16
    have bl17 := bl16.trans (T.below.mono bl16.size)
    have XT_17 := Nfa.TabN.below XT_16 T.below
    clear T
    refine Eng.tail_nil ?_
    first | show Code.wp Tryd.prog _ _ _ _ | skip
    refine wp_block ?_
    refine Eng.loopN (fun n a w' => ∃ (k : Nat) (v7 : Value), ps.length - k = n ∧ (k ≤ ps.length) ∧ (Nfa.TabN M w.heap.size pv bv ps vs (Nfa.begs ps ps.length) w') ∧ (w'.ownsRow w.heap.size 3 1 v7 (Nfa.likeTo ps la k).length (Nfa.ints (Nfa.likeTo ps la k))) ∧ (∀ g, v7.ownBlock = some g → M ≤ g) ∧ a.defers = [] ∧ a.tmps.size = 52 ∧ Below w.heap.size w w' ∧ a.eval (.tmp 0) = pa ∧ a.eval (.tmp 1) = av ∧ a.eval (.tmp 4) = .bool false ∧ a.eval (.tmp 5) = .pointer (some ⟨g5_9, 0, none⟩) ∧ a.eval (.tmp 6) = .int .i64 (Nfa.code ps) ∧ a.eval (.tmp 7) = v7 ∧ a.eval (.tmp 11) = .bool q11 ∧ a.eval (.tmp 28) = .bool q28 ∧ a.eval (.tmp 30) = pv ∧ a.eval (.tmp 31) = .int .i64 ((ps.length : Nat) : Int) ∧ a.eval (.tmp 32) = .int .i64 (k : Nat) ∧ w'.heap[g5_9]? = some (.cells (#[pv, bv, .int .i64 m]) 65 (0, 0)) ∧ g5_9 < w'.heap.size) (n0 := ps.length - 0) ?_ ?_
    · exact ⟨0, .slice none 0 0, rfl, by omega, XT_17, World.ownsRow_nil _ _ _ _, fun g h => by simp [Value.ownBlock] at h, d17, s17, bl17, h0_17, h1_17, h4_17, h5_17, h6_17, (h7_17.trans (by first | rfl | (congr 1; rw [Eng.i64_id (by omega) (by omega)]; omega) | (simp; done))), h11_17, h28_17, h30_17, h31_17, (h32_17.trans (by first | rfl | (congr 1; rw [Eng.i64_id (by omega) (by omega)]; omega) | (simp; done))), kg5_9_17, lg5_9_17⟩
    rintro n act18 w18 ⟨k, v7, rfl, hc0_18, hc1_18, hc2_18, hc3_18, d18, s18, bl18, h0_18, h1_18, h4_18, h5_18, h6_18, h7_18, h11_18, h28_18, h30_18, h31_18, h32_18, kg5_9_18, lg5_9_18⟩
    have Fpp_18 := Eng.Reads.below hp bl18
    have Fra_18 := Eng.Reads.below hra bl18
    have hk1 := hc0_18
    have hN := hc3_18
    have Ft_18 := Eng.Reads.of_own hc2_18
    have Fpp2_18 := Eng.Reads.of_own hc1_18.tab.pp
    refine wp_seq ?_
    obtain ⟨q33, Bq33⟩ : ∃ b : Bool, b = (decide ((k : Nat) < ((ps.length : Nat) : Int))) := ⟨_, rfl⟩
    refine Eng.regionS (Eng.still [fun u_ => u_ = .bool q33]) (fun i => ([.plain] : List Eng.Kind).getD i .plain) 1 0 52 s18 rfl (by kernel_rfl) (Eng.still_stable _) (Or.inr (Eng.still_any _)) ?_ ?_
    · refine Eng.Steps.cons (fun _ => ?_) (Eng.Steps.nil)
      · refine Eng.plain rfl rfl fun a w' H => ?_
        refine Eng.val (w1 := w') (v := .bool (decide ((k : Nat) < ((ps.length : Nat) : Int)))) ?_ (Below.refl _ _) (by show _ = Value.bool q33; rw [Bq33])
        have e0 : a.eval (.tmp 32) = .int .i64 (k : Nat) := ((H.kept 32 (by kernel_rfl)).trans h32_18)
        have e1 : a.eval (.tmp 31) = .int .i64 ((ps.length : Nat) : Int) := ((H.kept 31 (by kernel_rfl)).trans h31_18)
        simp only [execOp, resolve, List.map_toArray, List.map_cons, List.map_nil, e0, e1]
        go_simp
        all_goals first | rfl | (simp; done) | (rw [Bool.eq_iff_iff]; simp; done) | omega | skip
    intro act19 w19 T
    have h0_19 : act19.eval (.tmp 0) = pa := (T.rest 0 (by kernel_rfl)).trans h0_18
    have h1_19 : act19.eval (.tmp 1) = av := (T.rest 1 (by kernel_rfl)).trans h1_18
    have h4_19 : act19.eval (.tmp 4) = .bool false := (T.rest 4 (by kernel_rfl)).trans h4_18
    have h5_19 : act19.eval (.tmp 5) = .pointer (some ⟨g5_9, 0, none⟩) := (T.rest 5 (by kernel_rfl)).trans h5_18
    have h6_19 : act19.eval (.tmp 6) = .int .i64 (Nfa.code ps) := (T.rest 6 (by kernel_rfl)).trans h6_18
    have h7_19 : act19.eval (.tmp 7) = v7 := (T.rest 7 (by kernel_rfl)).trans h7_18
    have h11_19 : act19.eval (.tmp 11) = .bool q11 := (T.rest 11 (by kernel_rfl)).trans h11_18
    have h28_19 : act19.eval (.tmp 28) = .bool q28 := (T.rest 28 (by kernel_rfl)).trans h28_18
    have h30_19 : act19.eval (.tmp 30) = pv := (T.rest 30 (by kernel_rfl)).trans h30_18
    have h31_19 : act19.eval (.tmp 31) = .int .i64 ((ps.length : Nat) : Int) := (T.rest 31 (by kernel_rfl)).trans h31_18
    have h32_19 : act19.eval (.tmp 32) = .int .i64 (k : Nat) := (T.rest 32 (by kernel_rfl)).trans h32_18
    have kg5_9_19 := (T.below.block _ lg5_9_18).trans kg5_9_18
    have lg5_9_19 := Nat.lt_of_lt_of_le lg5_9_18 T.below.size
    have Fpp_19 := Eng.Reads.below Fpp_18 T.below
    have Fra_19 := Eng.Reads.below Fra_18 T.below
    have Ft_19 := Eng.Reads.below Ft_18 T.below
    have Ot_19 := Eng.own_below hc2_18 T.below
    have Fpp2_19 := Eng.Reads.below Fpp2_18 T.below
    have Opp2_19 := Eng.own_below hc1_18.tab.pp T.below
    have h33_19 : act19.eval (.tmp 33) = .bool q33 := T.done 0 33 rfl rfl
    have d19 := T.defers.trans d18
    have s19 := T.size.trans s18
    have bl19 := bl18.trans (T.below.mono bl18.size)
    have XT_19 := Nfa.TabN.below hc1_18 T.below
    clear T
    refine Eng.tail_nil ?_
    first | show Code.wp Tryd.prog _ _ _ _ | skip
    refine wp_seq ?_
    refine wp_cond_split h33_19 (fun hq => ?_) (fun hq => ?_)
    ·
      have kn20 := hq
      have c33 := Bq33.symm.trans hq
      clear hq
      have c33 := of_decide_eq_true c33
      have hk0 : k < ps.length := by omega
      have hk20 := Nfa.right_len ((Nfa.code_zero hcode).1 k hk0)
      have Finn21 := XT_19.tab.ri k hk0
      refine wp_skip ?_
      first | show Code.wp Tryd.prog _ _ _ _ | skip
      refine wp_seq ?_
      refine wp_block ?_
      refine wp_seq ?_
      refine Eng.regionS (Eng.still [fun u_ => u_ = .int .i64 (k : Nat), fun u_ => u_ = Eng.elemPtr pv (k * 1), fun u_ => u_ = (vs.getD k undef), fun u_ => u_ = .int .i64 (k : Nat), fun u_ => u_ = (vs.getD k undef)]) (fun i => ([.plain, .plain, .plain, .plain, .plain] : List Eng.Kind).getD i .plain) 5 0 52 s19 rfl (by kernel_rfl) (Eng.still_stable _) (Or.inr (Eng.still_any _)) ?_ ?_
      · refine Eng.Steps.cons (fun _ => ?_) (Eng.Steps.cons (fun _ => ?_) (Eng.Steps.cons (fun _ => ?_) (Eng.Steps.cons (fun _ => ?_) (Eng.Steps.cons (fun _ => ?_) (Eng.Steps.nil)))))
        · refine Eng.plain rfl rfl fun a w' H => ?_
          exact Eng.val (w1 := w') (v := .int .i64 (k : Nat)) (Eng.run_move rfl ((H.kept 32 (by kernel_rfl)).trans h32_19)) (Below.refl _ _) rfl
        · refine Eng.plain rfl rfl fun a w' H => ?_
          refine Eng.val (w1 := w') (v := Eng.elemPtr pv (k * 1)) ?_ (Below.refl _ _) rfl
          exact Eng.run_index_sl rfl Tryd.underlying62 (by kernel_rfl) (show a.eval (.tmp 30) = pv from ((H.kept 30 (by kernel_rfl)).trans h30_19)) ((show a.eval (.tmp 32) = .int .i64 (k : Nat) from ((H.kept 32 (by kernel_rfl)).trans h32_19)).trans (congrArg (Value.int _) (show (k : Nat) = ((k : Nat) : Int) from by omega))) (Eng.Reads.below Fpp2_19 H.below) (by omega) rfl
        · refine Eng.plain rfl rfl fun a w' H => ?_
          refine Eng.val (w1 := w') (v := (vs.getD k undef)) ?_ (Below.refl _ _) rfl
          exact Eng.run_load_el ((vs.getD k undef)) rfl (show a.eval (.tmp 35) = Eng.elemPtr pv (k * 1) from (H.dep 1 35 (by kernel_rfl) rfl)) (Eng.Reads.below Fpp2_19 H.below) (Nfa.at_one vs hvs (by omega)) (by kernel_rfl)
        · refine Eng.plain rfl rfl fun a w' H => ?_
          exact Eng.val (w1 := w') (v := .int .i64 (k : Nat)) (Eng.run_assign rfl (H.dep 0 34 (by kernel_rfl) rfl)) (Below.refl _ _) rfl
        · refine Eng.plain rfl rfl fun a w' H => ?_
          exact Eng.val (w1 := w') (v := (vs.getD k undef)) (Eng.run_assign rfl (H.dep 2 36 (by kernel_rfl) rfl)) (Below.refl _ _) rfl
      intro act22 w22 T
      have h0_22 : act22.eval (.tmp 0) = pa := (T.rest 0 (by kernel_rfl)).trans h0_19
      have h1_22 : act22.eval (.tmp 1) = av := (T.rest 1 (by kernel_rfl)).trans h1_19
      have h4_22 : act22.eval (.tmp 4) = .bool false := (T.rest 4 (by kernel_rfl)).trans h4_19
      have h5_22 : act22.eval (.tmp 5) = .pointer (some ⟨g5_9, 0, none⟩) := (T.rest 5 (by kernel_rfl)).trans h5_19
      have h6_22 : act22.eval (.tmp 6) = .int .i64 (Nfa.code ps) := (T.rest 6 (by kernel_rfl)).trans h6_19
      have h7_22 : act22.eval (.tmp 7) = v7 := (T.rest 7 (by kernel_rfl)).trans h7_19
      have h11_22 : act22.eval (.tmp 11) = .bool q11 := (T.rest 11 (by kernel_rfl)).trans h11_19
      have h28_22 : act22.eval (.tmp 28) = .bool q28 := (T.rest 28 (by kernel_rfl)).trans h28_19
      have h30_22 : act22.eval (.tmp 30) = pv := (T.rest 30 (by kernel_rfl)).trans h30_19
      have h31_22 : act22.eval (.tmp 31) = .int .i64 ((ps.length : Nat) : Int) := (T.rest 31 (by kernel_rfl)).trans h31_19
      have h32_22 : act22.eval (.tmp 32) = .int .i64 (k : Nat) := (T.rest 32 (by kernel_rfl)).trans h32_19
      have h33_22 : act22.eval (.tmp 33) = .bool q33 := (T.rest 33 (by kernel_rfl)).trans h33_19
      have kg5_9_22 := (T.below.block _ lg5_9_19).trans kg5_9_19
      have lg5_9_22 := Nat.lt_of_lt_of_le lg5_9_19 T.below.size
      have Fpp_22 := Eng.Reads.below Fpp_19 T.below
      have Fra_22 := Eng.Reads.below Fra_19 T.below
      have Ft_22 := Eng.Reads.below Ft_19 T.below
      have Ot_22 := Eng.own_below Ot_19 T.below
      have Fpp2_22 := Eng.Reads.below Fpp2_19 T.below
      have Opp2_22 := Eng.own_below Opp2_19 T.below
      have Finn_22 := Eng.Reads.below Finn21 T.below
      have h8_22 : act22.eval (.tmp 8) = .int .i64 (k : Nat) := T.done 3 8 rfl rfl
      have h9_22 : act22.eval (.tmp 9) = (vs.getD k undef) := T.done 4 9 rfl rfl
      have d22 := T.defers.trans d19
      have s22 := T.size.trans s19
      have bl22 := bl19.trans (T.below.mono bl19.size)
      have XT_22 := Nfa.TabN.below XT_19 T.below
      clear T
      refine Eng.tail_nil ?_
      first | show Code.wp Tryd.prog _ _ _ _ | skip
      refine wp_seq ?_
      obtain ⟨q39, Bq39⟩ : ∃ b : Bool, b = (Pth.rightB (ps.getD k []) && Nfa.mat (ps.getD k []) la) := ⟨_, rfl⟩
      refine Eng.regionS (Eng.still [fun u_ => u_ = (vs.getD k undef), fun u_ => u_ = av, fun u_ => u_ = .bool q39]) (fun i => ([.plain, .plain, .plain] : List Eng.Kind).getD i .plain) 3 0 52 s22 rfl (by kernel_rfl) (Eng.still_stable _) (Or.inr (Eng.still_any _)) ?_ ?_
      · refine Eng.Steps.cons (fun _ => ?_) (Eng.Steps.cons (fun _ => ?_) (Eng.Steps.cons (fun _ => ?_) (Eng.Steps.nil)))
        · refine Eng.plain rfl rfl fun a w' H => ?_
          exact Eng.val (w1 := w') (v := (vs.getD k undef)) (Eng.run_move rfl ((H.kept 9 (by kernel_rfl)).trans h9_22)) (Below.refl _ _) rfl
        · refine Eng.plain rfl rfl fun a w' H => ?_
          exact Eng.val (w1 := w') (v := av) (Eng.run_move rfl ((H.kept 1 (by kernel_rfl)).trans h1_22)) (Below.refl _ _) rfl
        · refine Eng.plain rfl rfl fun a w' H => ?_
          refine Eng.call Tryd.func46 (by kernel_rfl) (by kernel_rfl) rfl #[(vs.getD k undef), av] ?_ ?_
          · have e0 : a.eval (.tmp 37) = (vs.getD k undef) := (H.dep 0 37 (by kernel_rfl) rfl); have e1 : a.eval (.tmp 38) = av := (H.dep 1 38 (by kernel_rfl) rfl); simp only [List.map_toArray, List.map_cons, List.map_nil, e0, e1]
          refine (Nfa.match_calls (vs.getD k undef) av (ps.getD k []) la _ (Eng.Reads.below Finn_22 H.below) (Eng.Reads.below Fra_22 H.below) (by omega) (by omega) (hst k hk0) (Tabs.below (Tabs.below hT bl22) H.below)).mono ?_
          rintro e w'' ⟨rfl, hb⟩
          exact ⟨_, rfl, (by show _ = Value.bool q39; rw [Bq39]), hb⟩
      intro act23 w23 T
      have h0_23 : act23.eval (.tmp 0) = pa := (T.rest 0 (by kernel_rfl)).trans h0_22
      have h1_23 : act23.eval (.tmp 1) = av := (T.rest 1 (by kernel_rfl)).trans h1_22
      have h4_23 : act23.eval (.tmp 4) = .bool false := (T.rest 4 (by kernel_rfl)).trans h4_22
      have h5_23 : act23.eval (.tmp 5) = .pointer (some ⟨g5_9, 0, none⟩) := (T.rest 5 (by kernel_rfl)).trans h5_22
      have h6_23 : act23.eval (.tmp 6) = .int .i64 (Nfa.code ps) := (T.rest 6 (by kernel_rfl)).trans h6_22
      have h7_23 : act23.eval (.tmp 7) = v7 := (T.rest 7 (by kernel_rfl)).trans h7_22
      have h8_23 : act23.eval (.tmp 8) = .int .i64 (k : Nat) := (T.rest 8 (by kernel_rfl)).trans h8_22
      have h9_23 : act23.eval (.tmp 9) = (vs.getD k undef) := (T.rest 9 (by kernel_rfl)).trans h9_22
      have h11_23 : act23.eval (.tmp 11) = .bool q11 := (T.rest 11 (by kernel_rfl)).trans h11_22
      have h28_23 : act23.eval (.tmp 28) = .bool q28 := (T.rest 28 (by kernel_rfl)).trans h28_22
      have h30_23 : act23.eval (.tmp 30) = pv := (T.rest 30 (by kernel_rfl)).trans h30_22
      have h31_23 : act23.eval (.tmp 31) = .int .i64 ((ps.length : Nat) : Int) := (T.rest 31 (by kernel_rfl)).trans h31_22
      have h32_23 : act23.eval (.tmp 32) = .int .i64 (k : Nat) := (T.rest 32 (by kernel_rfl)).trans h32_22
      have h33_23 : act23.eval (.tmp 33) = .bool q33 := (T.rest 33 (by kernel_rfl)).trans h33_22
      have kg5_9_23 := (T.below.block _ lg5_9_22).trans kg5_9_22
      have lg5_9_23 := Nat.lt_of_lt_of_le lg5_9_22 T.below.size
      have Fpp_23 := Eng.Reads.below Fpp_22 T.below
      have Fra_23 := Eng.Reads.below Fra_22 T.below
      have Ft_23 := Eng.Reads.below Ft_22 T.below
      have Ot_23 := Eng.own_below Ot_22 T.below
      have Fpp2_23 := Eng.Reads.below Fpp2_22 T.below
      have Opp2_23 := Eng.own_below Opp2_22 T.below
      have Finn_23 := Eng.Reads.below Finn_22 T.below
      have h39_23 : act23.eval (.tmp 39) = .bool q39 := T.done 2 39 rfl rfl
      have d23 := T.defers.trans d22
      have s23 := T.size.trans s22
      have bl23 := bl22.trans (T.below.mono bl22.size)
      have XT_23 := Nfa.TabN.below XT_22 T.below
      clear T
      refine Eng.tail_nil ?_
      first | show Code.wp Tryd.prog _ _ _ _ | skip
      refine wp_cond_split h39_23 (fun hq => ?_) (fun hq => ?_)
      ·
        have kn24 := hq
        have c39 := Bq39.symm.trans hq
        clear hq
        have hbx := c39
        refine Eng.regionT (n := 5) rfl ?_
        refine Eng.tail_val rfl rfl rfl (Eng.run_move rfl h7_23) s23 rfl fun act25 d25 s25 hv hr => ?_
        have h0_25 : act25.eval (.tmp 0) = pa := (hr 0 rfl).trans h0_23
        have h1_25 : act25.eval (.tmp 1) = av := (hr 1 rfl).trans h1_23
        have h4_25 : act25.eval (.tmp 4) = .bool false := (hr 4 rfl).trans h4_23
        have h5_25 : act25.eval (.tmp 5) = .pointer (some ⟨g5_9, 0, none⟩) := (hr 5 rfl).trans h5_23
        have h6_25 : act25.eval (.tmp 6) = .int .i64 (Nfa.code ps) := (hr 6 rfl).trans h6_23
        have h7_25 : act25.eval (.tmp 7) = v7 := (hr 7 rfl).trans h7_23
        have h8_25 : act25.eval (.tmp 8) = .int .i64 (k : Nat) := (hr 8 rfl).trans h8_23
        have h9_25 : act25.eval (.tmp 9) = (vs.getD k undef) := (hr 9 rfl).trans h9_23
        have h11_25 : act25.eval (.tmp 11) = .bool q11 := (hr 11 rfl).trans h11_23
        have h28_25 : act25.eval (.tmp 28) = .bool q28 := (hr 28 rfl).trans h28_23
        have h30_25 : act25.eval (.tmp 30) = pv := (hr 30 rfl).trans h30_23
        have h31_25 : act25.eval (.tmp 31) = .int .i64 ((ps.length : Nat) : Int) := (hr 31 rfl).trans h31_23
        have h32_25 : act25.eval (.tmp 32) = .int .i64 (k : Nat) := (hr 32 rfl).trans h32_23
        have h33_25 : act25.eval (.tmp 33) = .bool q33 := (hr 33 rfl).trans h33_23
        have h39_25 : act25.eval (.tmp 39) = .bool q39 := (hr 39 rfl).trans h39_23
        have h40_25 : act25.eval (.tmp 40) = v7 := hv
        have d25 := d25.trans d23
        clear hv hr
        refine Eng.tail_val rfl rfl rfl (Eng.run_move rfl h8_25) s25 rfl fun act26 d26 s26 hv hr => ?_
        have h0_26 : act26.eval (.tmp 0) = pa := (hr 0 rfl).trans h0_25
        have h1_26 : act26.eval (.tmp 1) = av := (hr 1 rfl).trans h1_25
        have h4_26 : act26.eval (.tmp 4) = .bool false := (hr 4 rfl).trans h4_25
        have h5_26 : act26.eval (.tmp 5) = .pointer (some ⟨g5_9, 0, none⟩) := (hr 5 rfl).trans h5_25
        have h6_26 : act26.eval (.tmp 6) = .int .i64 (Nfa.code ps) := (hr 6 rfl).trans h6_25
        have h7_26 : act26.eval (.tmp 7) = v7 := (hr 7 rfl).trans h7_25
        have h8_26 : act26.eval (.tmp 8) = .int .i64 (k : Nat) := (hr 8 rfl).trans h8_25
        have h9_26 : act26.eval (.tmp 9) = (vs.getD k undef) := (hr 9 rfl).trans h9_25
        have h11_26 : act26.eval (.tmp 11) = .bool q11 := (hr 11 rfl).trans h11_25
        have h28_26 : act26.eval (.tmp 28) = .bool q28 := (hr 28 rfl).trans h28_25
        have h30_26 : act26.eval (.tmp 30) = pv := (hr 30 rfl).trans h30_25
        have h31_26 : act26.eval (.tmp 31) = .int .i64 ((ps.length : Nat) : Int) := (hr 31 rfl).trans h31_25
        have h32_26 : act26.eval (.tmp 32) = .int .i64 (k : Nat) := (hr 32 rfl).trans h32_25
        have h33_26 : act26.eval (.tmp 33) = .bool q33 := (hr 33 rfl).trans h33_25
        have h39_26 : act26.eval (.tmp 39) = .bool q39 := (hr 39 rfl).trans h39_25
        have h40_26 : act26.eval (.tmp 40) = v7 := (hr 40 rfl).trans h40_25
        have h41_26 : act26.eval (.tmp 41) = .int .i64 (k : Nat) := hv
        have d26 := d26.trans d25
        clear hv hr
        refine Eng.tail_ex rfl rfl rfl (Eng.run_buildN1 (z := .int .i64 0) [.int .i64 (k : Nat)] rfl Tryd.underlying63 (by kernel_rfl) rfl rfl rfl rfl (by intro v hv; have h := List.mem_singleton.1 hv; rw [h]; exact rfl) (by have e0 : act26.eval (.tmp 41) = .int .i64 (k : Nat) := h41_26; simp [e0])) s26 rfl fun v_27 w27 act27 R d27 s27 hv hr => ?_
        obtain ⟨F_27, b_27⟩ := R
        have h0_27 : act27.eval (.tmp 0) = pa := (hr 0 rfl).trans h0_26
        have h1_27 : act27.eval (.tmp 1) = av := (hr 1 rfl).trans h1_26
        have h4_27 : act27.eval (.tmp 4) = .bool false := (hr 4 rfl).trans h4_26
        have h5_27 : act27.eval (.tmp 5) = .pointer (some ⟨g5_9, 0, none⟩) := (hr 5 rfl).trans h5_26
        have h6_27 : act27.eval (.tmp 6) = .int .i64 (Nfa.code ps) := (hr 6 rfl).trans h6_26
        have h7_27 : act27.eval (.tmp 7) = v7 := (hr 7 rfl).trans h7_26
        have h8_27 : act27.eval (.tmp 8) = .int .i64 (k : Nat) := (hr 8 rfl).trans h8_26
        have h9_27 : act27.eval (.tmp 9) = (vs.getD k undef) := (hr 9 rfl).trans h9_26
        have h11_27 : act27.eval (.tmp 11) = .bool q11 := (hr 11 rfl).trans h11_26
        have h28_27 : act27.eval (.tmp 28) = .bool q28 := (hr 28 rfl).trans h28_26
        have h30_27 : act27.eval (.tmp 30) = pv := (hr 30 rfl).trans h30_26
        have h31_27 : act27.eval (.tmp 31) = .int .i64 ((ps.length : Nat) : Int) := (hr 31 rfl).trans h31_26
        have h32_27 : act27.eval (.tmp 32) = .int .i64 (k : Nat) := (hr 32 rfl).trans h32_26
        have h33_27 : act27.eval (.tmp 33) = .bool q33 := (hr 33 rfl).trans h33_26
        have h39_27 : act27.eval (.tmp 39) = .bool q39 := (hr 39 rfl).trans h39_26
        have h40_27 : act27.eval (.tmp 40) = v7 := (hr 40 rfl).trans h40_26
        have h41_27 : act27.eval (.tmp 41) = .int .i64 (k : Nat) := (hr 41 rfl).trans h41_26
        have h42_27 : act27.eval (.tmp 42) = v_27 := hv
        have d27 := d27.trans d26
        clear hv hr
        have kg5_9_27 := (b_27.block _ lg5_9_23).trans kg5_9_23
        have lg5_9_27 := Nat.lt_of_lt_of_le lg5_9_23 b_27.size
        have Fpp_27 := Eng.Reads.below Fpp_23 b_27
        have Fra_27 := Eng.Reads.below Fra_23 b_27
        have Ft_27 := Eng.Reads.below Ft_23 b_27
        have Ot_27 := Eng.own_below Ot_23 b_27
        have Fpp2_27 := Eng.Reads.below Fpp2_23 b_27
        have Opp2_27 := Eng.own_below Opp2_23 b_27
        have Finn_27 := Eng.Reads.below Finn_23 b_27
        have XT_27 := Nfa.TabN.below XT_23 b_27
        have bl27 := bl23.trans (b_27.mono bl23.size)
        refine Eng.tail_ex rfl rfl rfl (Eng.run_appendI (z := .int .i64 0) rfl Tryd.underlying63 (by kernel_rfl) rfl rfl h40_27 Ot_27 h42_27 F_27 (by intro u hu; simp at hu; subst hu; rfl) (by have := Nfa.likeTo_len ps la k; omega) bl27.size) s27 rfl fun v_28 w28 act28 R d28 s28 hv hr => ?_
        obtain ⟨O_28, _, b_28, G_28, EO_28⟩ := R
        have h0_28 : act28.eval (.tmp 0) = pa := (hr 0 rfl).trans h0_27
        have h1_28 : act28.eval (.tmp 1) = av := (hr 1 rfl).trans h1_27
        have h4_28 : act28.eval (.tmp 4) = .bool false := (hr 4 rfl).trans h4_27
        have h5_28 : act28.eval (.tmp 5) = .pointer (some ⟨g5_9, 0, none⟩) := (hr 5 rfl).trans h5_27
        have h6_28 : act28.eval (.tmp 6) = .int .i64 (Nfa.code ps) := (hr 6 rfl).trans h6_27
        have h7_28 : act28.eval (.tmp 7) = v7 := (hr 7 rfl).trans h7_27
        have h8_28 : act28.eval (.tmp 8) = .int .i64 (k : Nat) := (hr 8 rfl).trans h8_27
        have h9_28 : act28.eval (.tmp 9) = (vs.getD k undef) := (hr 9 rfl).trans h9_27
        have h11_28 : act28.eval (.tmp 11) = .bool q11 := (hr 11 rfl).trans h11_27
        have h28_28 : act28.eval (.tmp 28) = .bool q28 := (hr 28 rfl).trans h28_27
        have h30_28 : act28.eval (.tmp 30) = pv := (hr 30 rfl).trans h30_27
        have h31_28 : act28.eval (.tmp 31) = .int .i64 ((ps.length : Nat) : Int) := (hr 31 rfl).trans h31_27
        have h32_28 : act28.eval (.tmp 32) = .int .i64 (k : Nat) := (hr 32 rfl).trans h32_27
        have h33_28 : act28.eval (.tmp 33) = .bool q33 := (hr 33 rfl).trans h33_27
        have h39_28 : act28.eval (.tmp 39) = .bool q39 := (hr 39 rfl).trans h39_27
        have h40_28 : act28.eval (.tmp 40) = v7 := (hr 40 rfl).trans h40_27
        have h41_28 : act28.eval (.tmp 41) = .int .i64 (k : Nat) := (hr 41 rfl).trans h41_27
        have h42_28 : act28.eval (.tmp 42) = v_27 := (hr 42 rfl).trans h42_27
        have h43_28 : act28.eval (.tmp 43) = v_28 := hv
        have d28 := d28.trans d27
        clear hv hr
        have kg5_9_28 := (G_28.block _ lg5_9_27 (Eng.own_ne Ot_27 kg5_9_27 rfl)).trans kg5_9_27
        have lg5_9_28 := Nat.lt_of_lt_of_le lg5_9_27 G_28.size
        have XT_28 := Nfa.TabN.grown XT_27 G_28 Ot_27 hN
        have bl28 := bl27.trans b_28
        have Fpp_28 := Eng.Reads.below hp bl28
        have Fra_28 := Eng.Reads.below hra bl28
        have Opp2_28 := Pth.own_grown Opp2_27 G_28 Ot_27 rfl
        have Fpp2_28 := Eng.Reads.of_own Opp2_28
        have hNn := Nfa.own_app hN EO_28 XT_27.sz
        have Oa28 : w28.ownsRow w.heap.size 3 1 v_28 ((Nfa.likeTo ps la k) ++ [((k : Nat) : Int)]).length (Nfa.ints ((Nfa.likeTo ps la k) ++ [((k : Nat) : Int)])) := Nfa.ints_cat (r := [_]) O_28
        have Fa28 := Eng.Reads.of_own Oa28
        refine Eng.tail_val rfl rfl rfl (Eng.run_assign rfl h43_28) s28 rfl fun act29 d29 s29 hv hr => ?_
        have h0_29 : act29.eval (.tmp 0) = pa := (hr 0 rfl).trans h0_28
        have h1_29 : act29.eval (.tmp 1) = av := (hr 1 rfl).trans h1_28
        have h4_29 : act29.eval (.tmp 4) = .bool false := (hr 4 rfl).trans h4_28
        have h5_29 : act29.eval (.tmp 5) = .pointer (some ⟨g5_9, 0, none⟩) := (hr 5 rfl).trans h5_28
        have h6_29 : act29.eval (.tmp 6) = .int .i64 (Nfa.code ps) := (hr 6 rfl).trans h6_28
        have h8_29 : act29.eval (.tmp 8) = .int .i64 (k : Nat) := (hr 8 rfl).trans h8_28
        have h9_29 : act29.eval (.tmp 9) = (vs.getD k undef) := (hr 9 rfl).trans h9_28
        have h11_29 : act29.eval (.tmp 11) = .bool q11 := (hr 11 rfl).trans h11_28
        have h28_29 : act29.eval (.tmp 28) = .bool q28 := (hr 28 rfl).trans h28_28
        have h30_29 : act29.eval (.tmp 30) = pv := (hr 30 rfl).trans h30_28
        have h31_29 : act29.eval (.tmp 31) = .int .i64 ((ps.length : Nat) : Int) := (hr 31 rfl).trans h31_28
        have h32_29 : act29.eval (.tmp 32) = .int .i64 (k : Nat) := (hr 32 rfl).trans h32_28
        have h33_29 : act29.eval (.tmp 33) = .bool q33 := (hr 33 rfl).trans h33_28
        have h39_29 : act29.eval (.tmp 39) = .bool q39 := (hr 39 rfl).trans h39_28
        have h40_29 : act29.eval (.tmp 40) = v7 := (hr 40 rfl).trans h40_28
        have h41_29 : act29.eval (.tmp 41) = .int .i64 (k : Nat) := (hr 41 rfl).trans h41_28
        have h42_29 : act29.eval (.tmp 42) = v_27 := (hr 42 rfl).trans h42_28
        have h43_29 : act29.eval (.tmp 43) = v_28 := (hr 43 rfl).trans h43_28
        have h7_29 : act29.eval (.tmp 7) = v_28 := hv
        have d29 := d29.trans d28
        clear hv hr
        refine Eng.tail_nil ?_
        first | show Code.wp Tryd.prog _ _ _ _ | skip
        refine Eng.regionS (Eng.still [fun u_ => u_ = .int .i64 (IntKind.i64.wrap ((k : Nat) + 1)), fun u_ => u_ = .int .i64 (IntKind.i64.wrap ((k : Nat) + 1))]) (fun i => ([.plain, .plain] : List Eng.Kind).getD i .plain) 2 0 52 s29 rfl (by kernel_rfl) (Eng.still_stable _) (Or.inr (Eng.still_any _)) ?_ ?_
        · refine Eng.Steps.cons (fun _ => ?_) (Eng.Steps.cons (fun _ => ?_) (Eng.Steps.nil))
          · refine Eng.plain rfl rfl fun a w' H => ?_
            refine Eng.val (w1 := w') (v := .int .i64 (IntKind.i64.wrap ((k : Nat) + 1))) ?_ (Below.refl _ _) rfl
            have e0 : a.eval (.tmp 32) = .int .i64 (k : Nat) := ((H.kept 32 (by kernel_rfl)).trans h32_29)
            have e1 : a.eval (.const (.int .i64 1)) = .int .i64 1 := (rfl : a.eval (.const (.int .i64 1)) = .int .i64 1)
            simp only [execOp, resolve, List.map_toArray, List.map_cons, List.map_nil, e0, e1]
            go_simp
            all_goals first | rfl | (simp; done) | (rw [Bool.eq_iff_iff]; simp; done) | omega | skip
          · refine Eng.plain rfl rfl fun a w' H => ?_
            exact Eng.val (w1 := w') (v := .int .i64 (IntKind.i64.wrap ((k : Nat) + 1))) (Eng.run_move rfl (H.dep 0 44 (by kernel_rfl) rfl)) (Below.refl _ _) rfl
        intro act30 w30 T
        have h0_30 : act30.eval (.tmp 0) = pa := (T.rest 0 (by kernel_rfl)).trans h0_29
        have h1_30 : act30.eval (.tmp 1) = av := (T.rest 1 (by kernel_rfl)).trans h1_29
        have h4_30 : act30.eval (.tmp 4) = .bool false := (T.rest 4 (by kernel_rfl)).trans h4_29
        have h5_30 : act30.eval (.tmp 5) = .pointer (some ⟨g5_9, 0, none⟩) := (T.rest 5 (by kernel_rfl)).trans h5_29
        have h6_30 : act30.eval (.tmp 6) = .int .i64 (Nfa.code ps) := (T.rest 6 (by kernel_rfl)).trans h6_29
        have h7_30 : act30.eval (.tmp 7) = v_28 := (T.rest 7 (by kernel_rfl)).trans h7_29
        have h8_30 : act30.eval (.tmp 8) = .int .i64 (k : Nat) := (T.rest 8 (by kernel_rfl)).trans h8_29
        have h9_30 : act30.eval (.tmp 9) = (vs.getD k undef) := (T.rest 9 (by kernel_rfl)).trans h9_29
        have h11_30 : act30.eval (.tmp 11) = .bool q11 := (T.rest 11 (by kernel_rfl)).trans h11_29
        have h28_30 : act30.eval (.tmp 28) = .bool q28 := (T.rest 28 (by kernel_rfl)).trans h28_29
        have h30_30 : act30.eval (.tmp 30) = pv := (T.rest 30 (by kernel_rfl)).trans h30_29
        have h31_30 : act30.eval (.tmp 31) = .int .i64 ((ps.length : Nat) : Int) := (T.rest 31 (by kernel_rfl)).trans h31_29
        have h33_30 : act30.eval (.tmp 33) = .bool q33 := (T.rest 33 (by kernel_rfl)).trans h33_29
        have h39_30 : act30.eval (.tmp 39) = .bool q39 := (T.rest 39 (by kernel_rfl)).trans h39_29
        have kg5_9_30 := (T.below.block _ lg5_9_28).trans kg5_9_28
        have lg5_9_30 := Nat.lt_of_lt_of_le lg5_9_28 T.below.size
        have Fpp_30 := Eng.Reads.below Fpp_28 T.below
        have Fra_30 := Eng.Reads.below Fra_28 T.below
        have Fpp2_30 := Eng.Reads.below Fpp2_28 T.below
        have Opp2_30 := Eng.own_below Opp2_28 T.below
        have Fa28_30 := Eng.Reads.below Fa28 T.below
        have Oa28_30 := Eng.own_below Oa28 T.below
        have h32_30 : act30.eval (.tmp 32) = .int .i64 (IntKind.i64.wrap ((k : Nat) + 1)) := T.done 1 32 rfl rfl
        have d30 := T.defers.trans d29
        have s30 := T.size.trans s29
        have bl30 := bl28.trans (T.below.mono bl28.size)
        have XT_30 := Nfa.TabN.below XT_28 T.below
        clear T
        refine Eng.tail_nil ?_
        exact ⟨_, by omega, k + 1, v_28, rfl, by omega, XT_30, by rw [Nfa.likeTo_succ]; first | (rw [if_pos hbx]; exact Oa28_30) | (rw [if_neg (by rw [hbx]; simp)]; exact Oa28_30), hNn, d30, s30, bl30, h0_30, h1_30, h4_30, h5_30, h6_30, (h7_30.trans (by first | rfl | (congr 1; rw [Eng.i64_id (by omega) (by omega)]; omega) | (simp; done))), h11_30, h28_30, h30_30, h31_30, (h32_30.trans (by first | rfl | (congr 1; rw [Eng.i64_id (by omega) (by omega)]; omega) | (simp; done))), kg5_9_30, lg5_9_30⟩
      ·
        have kn31 := hq
        have c39 := Bq39.symm.trans hq
        clear hq
        have hbx := c39
        refine wp_skip ?_
        first | show Code.wp Tryd.prog _ _ _ _ | skip
        refine Eng.regionS (Eng.still [fun u_ => u_ = .int .i64 (IntKind.i64.wrap ((k : Nat) + 1)), fun u_ => u_ = .int .i64 (IntKind.i64.wrap ((k : Nat) + 1))]) (fun i => ([.plain, .plain] : List Eng.Kind).getD i .plain) 2 0 52 s23 rfl (by kernel_rfl) (Eng.still_stable _) (Or.inr (Eng.still_any _)) ?_ ?_
        · refine Eng.Steps.cons (fun _ => ?_) (Eng.Steps.cons (fun _ => ?_) (Eng.Steps.nil))
          · refine Eng.plain rfl rfl fun a w' H => ?_
            refine Eng.val (w1 := w') (v := .int .i64 (IntKind.i64.wrap ((k : Nat) + 1))) ?_ (Below.refl _ _) rfl
            have e0 : a.eval (.tmp 32) = .int .i64 (k : Nat) := ((H.kept 32 (by kernel_rfl)).trans h32_23)
            have e1 : a.eval (.const (.int .i64 1)) = .int .i64 1 := (rfl : a.eval (.const (.int .i64 1)) = .int .i64 1)
            simp only [execOp, resolve, List.map_toArray, List.map_cons, List.map_nil, e0, e1]
            go_simp
            all_goals first | rfl | (simp; done) | (rw [Bool.eq_iff_iff]; simp; done) | omega | skip
          · refine Eng.plain rfl rfl fun a w' H => ?_
            exact Eng.val (w1 := w') (v := .int .i64 (IntKind.i64.wrap ((k : Nat) + 1))) (Eng.run_move rfl (H.dep 0 44 (by kernel_rfl) rfl)) (Below.refl _ _) rfl
        intro act32 w32 T
        have h0_32 : act32.eval (.tmp 0) = pa := (T.rest 0 (by kernel_rfl)).trans h0_23
        have h1_32 : act32.eval (.tmp 1) = av := (T.rest 1 (by kernel_rfl)).trans h1_23
        have h4_32 : act32.eval (.tmp 4) = .bool false := (T.rest 4 (by kernel_rfl)).trans h4_23
        have h5_32 : act32.eval (.tmp 5) = .pointer (some ⟨g5_9, 0, none⟩) := (T.rest 5 (by kernel_rfl)).trans h5_23
        have h6_32 : act32.eval (.tmp 6) = .int .i64 (Nfa.code ps) := (T.rest 6 (by kernel_rfl)).trans h6_23
        have h7_32 : act32.eval (.tmp 7) = v7 := (T.rest 7 (by kernel_rfl)).trans h7_23
        have h8_32 : act32.eval (.tmp 8) = .int .i64 (k : Nat) := (T.rest 8 (by kernel_rfl)).trans h8_23
        have h9_32 : act32.eval (.tmp 9) = (vs.getD k undef) := (T.rest 9 (by kernel_rfl)).trans h9_23
        have h11_32 : act32.eval (.tmp 11) = .bool q11 := (T.rest 11 (by kernel_rfl)).trans h11_23
        have h28_32 : act32.eval (.tmp 28) = .bool q28 := (T.rest 28 (by kernel_rfl)).trans h28_23
        have h30_32 : act32.eval (.tmp 30) = pv := (T.rest 30 (by kernel_rfl)).trans h30_23
        have h31_32 : act32.eval (.tmp 31) = .int .i64 ((ps.length : Nat) : Int) := (T.rest 31 (by kernel_rfl)).trans h31_23
        have h33_32 : act32.eval (.tmp 33) = .bool q33 := (T.rest 33 (by kernel_rfl)).trans h33_23
        have h39_32 : act32.eval (.tmp 39) = .bool q39 := (T.rest 39 (by kernel_rfl)).trans h39_23
        have kg5_9_32 := (T.below.block _ lg5_9_23).trans kg5_9_23
        have lg5_9_32 := Nat.lt_of_lt_of_le lg5_9_23 T.below.size
        have Fpp_32 := Eng.Reads.below Fpp_23 T.below
        have Fra_32 := Eng.Reads.below Fra_23 T.below
        have Ft_32 := Eng.Reads.below Ft_23 T.below
        have Ot_32 := Eng.own_below Ot_23 T.below
        have Fpp2_32 := Eng.Reads.below Fpp2_23 T.below
        have Opp2_32 := Eng.own_below Opp2_23 T.below
        have Finn_32 := Eng.Reads.below Finn_23 T.below
        have h32_32 : act32.eval (.tmp 32) = .int .i64 (IntKind.i64.wrap ((k : Nat) + 1)) := T.done 1 32 rfl rfl
        have d32 := T.defers.trans d23
        have s32 := T.size.trans s23
        have bl32 := bl23.trans (T.below.mono bl23.size)
        have XT_32 := Nfa.TabN.below XT_23 T.below
        clear T
        refine Eng.tail_nil ?_
        exact ⟨_, by omega, k + 1, v7, rfl, by omega, XT_32, by rw [Nfa.likeTo_succ]; first | (rw [if_pos hbx]; exact Ot_32) | (rw [if_neg (by rw [hbx]; simp)]; exact Ot_32), hN, d32, s32, bl32, h0_32, h1_32, h4_32, h5_32, h6_32, (h7_32.trans (by first | rfl | (congr 1; rw [Eng.i64_id (by omega) (by omega)]; omega) | (simp; done))), h11_32, h28_32, h30_32, h31_32, (h32_32.trans (by first | rfl | (congr 1; rw [Eng.i64_id (by omega) (by omega)]; omega) | (simp; done))), kg5_9_32, lg5_9_32⟩
    ·
      have kn33 := hq
      have c33 := Bq33.symm.trans hq
      clear hq
      have c33 := of_decide_eq_false c33
      have hke : k = ps.length := by omega
      have hlike : (Nfa.accept ps (Nfa.begs ps ps.length) (Nfa.run ps (Nfa.begs ps ps.length) la) == Nfa.likeTo ps la k) = true := by rw [hke]; exact Nfa.like_all hcode hheavy la
      refine wp_exit ?_
      first | show Code.wp Tryd.prog _ _ _ _ | skip
      first | show Code.wp Tryd.prog _ _ _ _ | skip
      refine wp_seq ?_
      refine Eng.regionD (Eng.tell [.still fun u_ => u_ = .agg #[pv, bv, .int .i64 m], .still fun u_ => u_ = .agg #[pv, bv, .int .i64 m], .still fun u_ => u_ = av, .still fun u_ => u_ = .agg ((List.map (Value.int .u64) (Nfa.run ps (Nfa.begs ps ps.length) la)).toArray), .own w19.heap.size 3 1 (Nfa.accept ps (Nfa.begs ps ps.length) (Nfa.run ps (Nfa.begs ps ps.length) la)).length (Nfa.ints (Nfa.accept ps (Nfa.begs ps ps.length) (Nfa.run ps (Nfa.begs ps ps.length) la))), .still fun u_ => u_ = v7, .still fun u_ => u_ = .bool true, .still fun u_ => u_ = .bool true]) (fun i => ([.plain, .plain, .plain, .plain, .plain, .plain, .plain, .plain] : List Eng.Kind).getD i .plain) 8 0 52 (by kernel_rfl) s19 rfl (by kernel_rfl) (Eng.tell_stable _) (Or.inl (Eng.no_stores (by kernel_rfl))) ?_ ?_
      · refine Eng.Steps.cons (fun _ => ?_) (Eng.Steps.cons (fun _ => ?_) (Eng.Steps.cons (fun _ => ?_) (Eng.Steps.cons (fun _ => ?_) (Eng.Steps.cons (fun _ => ?_) (Eng.Steps.cons (fun _ => ?_) (Eng.Steps.cons (fun _ => ?_) (Eng.Steps.cons (fun _ => ?_) (Eng.Steps.nil))))))))
        · refine Eng.plain rfl rfl fun a w' H => ?_
          have kb := (H.below.block _ lg5_9_19).trans kg5_9_19
          have z0 : w'.cell? ⟨g5_9, 0, none⟩ = some (pv) := (Eng.cells kb 0).trans rfl
          have z1 : w'.cell? ⟨g5_9, 1, none⟩ = some (bv) := (Eng.cells kb 1).trans rfl
          have z2 : w'.cell? ⟨g5_9, 2, none⟩ = some (.int .i64 m) := (Eng.cells kb 2).trans rfl
          refine Eng.val (w1 := w') (v := .agg #[pv, bv, .int .i64 m]) ?_ (Below.refl _ _) rfl
          have e0 : a.eval (.tmp 5) = .pointer (some ⟨g5_9, 0, none⟩) := ((H.kept 5 (by kernel_rfl)).trans h5_19)
          simp only [execOp, resolve, List.map_toArray, List.map_cons, List.map_nil, e0]
          go_simp
          all_goals first | rfl | (simp; done) | (rw [Bool.eq_iff_iff]; simp; done) | omega | skip
        · refine Eng.plain rfl rfl fun a w' H => ?_
          have kb := (H.below.block _ lg5_9_19).trans kg5_9_19
          have z0 : w'.cell? ⟨g5_9, 0, none⟩ = some (pv) := (Eng.cells kb 0).trans rfl
          have z1 : w'.cell? ⟨g5_9, 1, none⟩ = some (bv) := (Eng.cells kb 1).trans rfl
          have z2 : w'.cell? ⟨g5_9, 2, none⟩ = some (.int .i64 m) := (Eng.cells kb 2).trans rfl
          refine Eng.val (w1 := w') (v := .agg #[pv, bv, .int .i64 m]) ?_ (Below.refl _ _) rfl
          have e0 : a.eval (.tmp 5) = .pointer (some ⟨g5_9, 0, none⟩) := ((H.kept 5 (by kernel_rfl)).trans h5_19)
          simp only [execOp, resolve, List.map_toArray, List.map_cons, List.map_nil, e0]
          go_simp
          all_goals first | rfl | (simp; done) | (rw [Bool.eq_iff_iff]; simp; done) | omega | skip
        · refine Eng.plain rfl rfl fun a w' H => ?_
          exact Eng.val (w1 := w') (v := av) (Eng.run_move rfl ((H.kept 1 (by kernel_rfl)).trans h1_19)) (Below.refl _ _) rfl
        · refine Eng.plain rfl rfl fun a w' H => ?_
          refine Eng.call Tryd.func40 (by kernel_rfl) (by kernel_rfl) rfl #[.agg #[pv, bv, .int .i64 m], av] ?_ ?_
          · have e0 : a.eval (.tmp 46) = .agg #[pv, bv, .int .i64 m] := (H.dep 1 46 (by kernel_rfl) rfl); have e1 : a.eval (.tmp 47) = av := (H.dep 2 47 (by kernel_rfl) rfl); simp only [List.map_toArray, List.map_cons, List.map_nil, e0, e1]
          refine (Nfa.run_calls pv bv m ps (Nfa.begs ps ps.length) vs av la _ ((Nfa.TabN.below XT_19 H.below)).tab.len ((Nfa.TabN.below XT_19 H.below)).tab.rp ((Nfa.TabN.below XT_19 H.below)).tab.ri ((Nfa.TabN.below XT_19 H.below)).tab.rb (Eng.Reads.below Fra_19 H.below)).mono ?_
          rintro e w'' ⟨rfl, hb⟩
          exact ⟨_, rfl, rfl, hb⟩
        · refine Eng.plain rfl rfl fun a w' H => ?_
          refine Eng.call Tryd.func44 (by kernel_rfl) (by kernel_rfl) rfl #[.agg #[pv, bv, .int .i64 m], .agg ((List.map (Value.int .u64) (Nfa.run ps (Nfa.begs ps ps.length) la)).toArray)] ?_ ?_
          · have e0 : a.eval (.tmp 45) = .agg #[pv, bv, .int .i64 m] := (H.dep 0 45 (by kernel_rfl) rfl); have e1 : a.eval (.tmp 48) = .agg ((List.map (Value.int .u64) (Nfa.run ps (Nfa.begs ps ps.length) la)).toArray) := (H.dep 3 48 (by kernel_rfl) rfl); simp only [List.map_toArray, List.map_cons, List.map_nil, e0, e1]
          refine (Nfa.accept_calls pv bv m ps (Nfa.begs ps ps.length) vs (Nfa.run ps (Nfa.begs ps ps.length) la) _ ((Nfa.run_len _ _ _)) (by first | decide | (simp; done) | omega) ((Nfa.TabN.below XT_19 H.below)).tab.len ((Nfa.TabN.below XT_19 H.below)).tab.rp ((Nfa.TabN.below XT_19 H.below)).tab.ri ((Nfa.TabN.below XT_19 H.below)).tab.rb).mono ?_
          rintro e w'' ⟨v, rfl, O, hb⟩
          exact ⟨_, rfl, Eng.own_mono O H.below.size, hb⟩
        · refine Eng.plain rfl rfl fun a w' H => ?_
          exact Eng.val (w1 := w') (v := v7) (Eng.run_move rfl ((H.kept 7 (by kernel_rfl)).trans h7_19)) (Below.refl _ _) rfl
        · refine Eng.plain rfl rfl fun a w' H => ?_
          refine Eng.call Tryd.func47 (by kernel_rfl) (by kernel_rfl) rfl #[(a.eval (.tmp 49)), v7] ?_ ?_
          · have e1 : a.eval (.tmp 50) = v7 := (H.dep 5 50 (by kernel_rfl) rfl); simp only [List.map_toArray, List.map_cons, List.map_nil, e1]
          refine (Nfa.equal_calls (a.eval (.tmp 49)) v7 (Nfa.accept ps (Nfa.begs ps ps.length) (Nfa.run ps (Nfa.begs ps ps.length) la)) (Nfa.likeTo ps la k) _ (Eng.Reads.of_own (H.dep 4 49 (by kernel_rfl) rfl)) (Eng.Reads.below Ft_19 H.below)).mono ?_
          rintro e w'' ⟨rfl, hb⟩
          exact ⟨_, rfl, (by show _ = Value.bool true; rw [show ((Nfa.accept ps (Nfa.begs ps ps.length) (Nfa.run ps (Nfa.begs ps ps.length) la)) == (Nfa.likeTo ps la k)) = true from hlike]), hb⟩
        · refine Eng.plain rfl rfl fun a w' H => ?_
          exact Eng.val (w1 := w') (v := .bool true) (Eng.run_assign rfl (H.dep 6 51 (by kernel_rfl) rfl)) (Below.refl _ _) rfl
      intro act34 w34 T
      have h0_34 : act34.eval (.tmp 0) = pa := (T.rest 0 (by kernel_rfl)).trans h0_19
      have h1_34 : act34.eval (.tmp 1) = av := (T.rest 1 (by kernel_rfl)).trans h1_19
      have h5_34 : act34.eval (.tmp 5) = .pointer (some ⟨g5_9, 0, none⟩) := (T.rest 5 (by kernel_rfl)).trans h5_19
      have h6_34 : act34.eval (.tmp 6) = .int .i64 (Nfa.code ps) := (T.rest 6 (by kernel_rfl)).trans h6_19
      have h7_34 : act34.eval (.tmp 7) = v7 := (T.rest 7 (by kernel_rfl)).trans h7_19
      have h11_34 : act34.eval (.tmp 11) = .bool q11 := (T.rest 11 (by kernel_rfl)).trans h11_19
      have h28_34 : act34.eval (.tmp 28) = .bool q28 := (T.rest 28 (by kernel_rfl)).trans h28_19
      have h30_34 : act34.eval (.tmp 30) = pv := (T.rest 30 (by kernel_rfl)).trans h30_19
      have h31_34 : act34.eval (.tmp 31) = .int .i64 ((ps.length : Nat) : Int) := (T.rest 31 (by kernel_rfl)).trans h31_19
      have h32_34 : act34.eval (.tmp 32) = .int .i64 (k : Nat) := (T.rest 32 (by kernel_rfl)).trans h32_19
      have h33_34 : act34.eval (.tmp 33) = .bool q33 := (T.rest 33 (by kernel_rfl)).trans h33_19
      have kg5_9_34 := (T.below.block _ lg5_9_19).trans kg5_9_19
      have lg5_9_34 := Nat.lt_of_lt_of_le lg5_9_19 T.below.size
      have Fpp_34 := Eng.Reads.below Fpp_19 T.below
      have Fra_34 := Eng.Reads.below Fra_19 T.below
      have Ft_34 := Eng.Reads.below Ft_19 T.below
      have Ot_34 := Eng.own_below Ot_19 T.below
      have Fpp2_34 := Eng.Reads.below Fpp2_19 T.below
      have Opp2_34 := Eng.own_below Opp2_19 T.below
      have h4_34 : act34.eval (.tmp 4) = .bool true := T.done 7 4 rfl rfl
      have d34 := T.defers.trans d19
      have s34 := T.size.trans s19
      have bl34 := bl19.trans (T.below.mono bl19.size)
      have XT_34 := Nfa.TabN.below XT_19 T.below
      clear T
      refine Eng.tail_nil ?_
      first | show Code.wp Tryd.prog _ _ _ _ | skip
      refine wp_ret ?_
      repeat (first | refine Eng.in_ret ?_ | refine Eng.then_ret ?_)
      exact Eng.ret1 rfl d34 h4_34 ⟨rfl, bl34⟩
end Go.Proofs.YthgafcaoibfchaaDoor.X
