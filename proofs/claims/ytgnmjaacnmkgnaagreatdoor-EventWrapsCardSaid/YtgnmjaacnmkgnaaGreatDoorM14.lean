/- Words and walks that the row of EventWraps needs: printed by programs, and plain laws. -/
import Derived.Test.YtgnmjaacnmkgnaaGreatDoorM13
namespace Go.Proofs.YtgnmjaacnmkgnaaGreatDoorW.PrintWords
end Go.Proofs.YtgnmjaacnmkgnaaGreatDoorW.PrintWords
namespace Go.Proofs.YtgnmjaacnmkgnaaGreatDoorW.PrintLast
end Go.Proofs.YtgnmjaacnmkgnaaGreatDoorW.PrintLast
namespace Go.Proofs.YtgnmjaacnmkgnaaGreatDoorW.PrintMore
end Go.Proofs.YtgnmjaacnmkgnaaGreatDoorW.PrintMore
namespace Go.Proofs.YtgnmjaacnmkgnaaGreatDoor.X
open Go.RowKit Go.Shelf Go.Proofs Go.Proofs.YtgnmjaacnmkgnaaGreatDoorW.PrintWords Go.Proofs.YtgnmjaacnmkgnaaGreatDoorW.PrintLast Go.Proofs.YtgnmjaacnmkgnaaGreatDoorW.PrintMore
set_option linter.unusedVariables false
set_option linter.unusedSimpArgs false
attribute [local go_sem] max2_int min2_int max_two min_two
set_option maxHeartbeats 4000000 in
set_option maxRecDepth 100000 in
theorem Evt.wraps_walk (v : Value) (l : List Evt.Ev) (w : World) (hT : Tabs.Holds w) (hl : Eng.Reads w v l.length 5 (Evt.cells l)) (hll : l.length ≤ 2199023255488) : Calls Tryz.prog 4 #[v] w fun e w' => e = .returned (.bool true) ∧ Below w.heap.size w w' := by
 have hm := Eng.Reads.len_le hl
 refine Eng.enter Tryz.func4 rfl fun act0 d0 s0 v0 => ?_
 have s0 : act0.tmps.size = 74 := s0
 have h0_0 : act0.eval (.tmp 0) = v := v0 0 (by simp)
 clear v0
 have bl0 : Below w.heap.size w w := Below.refl _ _
 refine wp_seq ?_
 refine Eng.regionS (Eng.still [fun u_ => u_ = .bool false]) (fun _ => .plain) 1 0 74 s0 rfl (by kernel_rfl) (Eng.still_stable _) (Or.inr (Eng.still_any _)) ?_ ?_
 ·refine .cons (fun _ => ?_) (.nil)
  ·exact Eng.plain rfl rfl fun a w' H => Eng.vr rfl (Eng.run_assign rfl (rfl : a.eval (.const (.bool false)) = .bool false))
 intro act1 w1 T
 have h0_1 := (T.rest 0 (by kernel_rfl)).trans h0_0
 have Fa_1 := Eng.Reads.below hl T.below
 have h2_1 : act1.eval (.tmp 2) = .bool false := T.done 0 2 rfl rfl
 have d1 := T.defers.trans d0
 have s1 := T.size.trans s0
 have bl1 := bl0.trans (T.below.mono bl0.size)
 clear T
 refine Eng.tail_nil ?_
 first | show Code.wp Tryz.prog _ _ _ _ | skip
 refine wp_seq ?_
 refine wp_seq ?_
 refine Eng.regionS (Eng.still [fun u_ => u_ = .bool true, fun u_ => u_ = .bool false]) (fun _ => .plain) 2 0 74 s1 rfl (by kernel_rfl) (Eng.still_stable _) (Or.inr (Eng.still_any _)) ?_ ?_
 ·refine .cons (fun _ => ?_) (.cons (fun _ => ?_) (.nil))
  ·refine Eng.plain rfl rfl fun a w' H => ?_
   refine Eng.call Tryz.func9 (by kernel_rfl) (by kernel_rfl) rfl #[] ?_ ?_
   ·simp
   refine (Zal.alive_calls _ (Tabs.below (Tabs.below hT bl1) H.below)).mono ?_
   rintro e w'' ⟨rfl, hb⟩
   exact ⟨_, rfl, rfl, hb⟩
  ·exact Eng.plain rfl rfl fun a w' H => Eng.vr rfl (Eng.run_not rfl (H.dep 0 10 (by kernel_rfl) rfl))
 intro act2 w2 T
 have h0_2 := (T.rest 0 (by kernel_rfl)).trans h0_1
 have h2_2 := (T.rest 2 (by kernel_rfl)).trans h2_1
 have Fa_2 := Eng.Reads.below Fa_1 T.below
 have h11_2 : act2.eval (.tmp 11) = .bool false := T.done 1 11 rfl rfl
 have d2 := T.defers.trans d1
 have s2 := T.size.trans s1
 have bl2 := bl1.trans (T.below.mono bl1.size)
 clear T
 refine Eng.tail_nil ?_
 first | show Code.wp Tryz.prog _ _ _ _ | skip
 refine wp_cond_false h11_2 ?_
 refine wp_skip ?_
 first | show Code.wp Tryz.prog _ _ _ _ | skip
 refine wp_seq ?_
 refine (wpIn_wide (n := 1)).1 ?_
 refine EngI.regionT (n := 3) rfl ?_
 refine EngI.tail_val EngI.free_wide rfl rfl rfl rfl (Eng.run_move rfl h0_2) s2 rfl fun act3 d3 s3 hv hr => ?_
 have h0_3 := (hr 0 rfl).trans h0_2
 have h2_3 := (hr 2 rfl).trans h2_2
 have h11_3 := (hr 11 rfl).trans h11_2
 have h12_3 : act3.eval (.tmp 12) = v := hv
 have d3 := d3.trans d2
 clear hv hr
 refine EngI.tail_call EngI.free_wide Tryz.func10 (by kernel_rfl) (by kernel_rfl) rfl rfl rfl rfl #[v] (by have e0 : act3.eval (.tmp 12) = v := h12_3; simp only [List.map_toArray, List.map_cons, List.map_nil, e0]) s3 rfl (R := fun v w' => w'.ownsRow w2.heap.size 29 5 v l.length (Evt.cells l) ∧ Below w2.heap.size w2 w') ((Evt.theirs_calls v l _ Fa_2 hll).mono ?_) fun v_4 w4 act4 R d4 s4 hv hr => ?_
 ·rintro e w1 ⟨o, rfl, r⟩; exact ⟨_, rfl, r⟩
 have h0_4 := (hr 0 rfl).trans h0_3
 have h2_4 := (hr 2 rfl).trans h2_3
 have h11_4 := (hr 11 rfl).trans h11_3
 have h13_4 : act4.eval (.tmp 13) = v_4 := hv
 have d4 := d4.trans d3
 clear hv hr
 obtain ⟨O_4, b_4⟩ := R
 have Fa_4 := Eng.Reads.below Fa_2 b_4
 have bl4 := bl2.trans (b_4.mono bl2.size)
 have Ox_4 := Eng.own_mono O_4 bl2.size
 have Fx_4 := Eng.Reads.of_own Ox_4
 refine EngI.tail_val EngI.free_wide rfl rfl rfl rfl (Eng.run_assign rfl h13_4) s4 rfl fun act5 d5 s5 hv hr => ?_
 have h0_5 := (hr 0 rfl).trans h0_4
 have h2_5 := (hr 2 rfl).trans h2_4
 have h11_5 := (hr 11 rfl).trans h11_4
 have h3_5 : act5.eval (.tmp 3) = v_4 := hv
 have d5 := d5.trans d4
 clear hv hr
 refine EngI.tail_nil ?_
 first | show Code.wp Tryz.prog _ _ _ _ | skip
 refine wp_seq ?_
 refine wp_seq ?_
 refine (wpIn_wide (n := 1)).1 ?_
 refine EngI.regionT (n := 12) rfl ?_
 refine EngI.tail_val EngI.free_wide rfl rfl rfl rfl (Eng.run_move rfl h0_5) s5 rfl fun act6 d6 s6 hv hr => ?_
 have h0_6 := (hr 0 rfl).trans h0_5
 have h2_6 := (hr 2 rfl).trans h2_5
 have h3_6 := (hr 3 rfl).trans h3_5
 have h11_6 := (hr 11 rfl).trans h11_5
 have h14_6 : act6.eval (.tmp 14) = v := hv
 have d6 := d6.trans d5
 clear hv hr
 obtain ⟨q15, Bq15⟩ : ∃ b : Bool, b = (Evt.heavyL l) := ⟨_, rfl⟩
 refine EngI.tail_call EngI.free_wide Tryz.func11 (by kernel_rfl) (by kernel_rfl) rfl rfl rfl rfl #[v] (by have e0 : act6.eval (.tmp 14) = v := h14_6; simp only [List.map_toArray, List.map_cons, List.map_nil, e0]) s6 rfl (R := fun v w_ => v = .bool (Evt.heavyL l) ∧ Below w4.heap.size w4 w_) ((Evt.heavy_calls v l _ Fa_4).mono ?_) fun v_7 w7 act7 R d7 s7 hv hr => ?_
 ·rintro e w_ ⟨rfl, hb⟩; exact ⟨_, rfl, rfl, hb⟩
 obtain ⟨ev_7, b_7⟩ := R
 have h0_7 := (hr 0 rfl).trans h0_6
 have h2_7 := (hr 2 rfl).trans h2_6
 have h3_7 := (hr 3 rfl).trans h3_6
 have h11_7 := (hr 11 rfl).trans h11_6
 have h15_7 : act7.eval (.tmp 15) = .bool q15 := (hv.trans ev_7).trans (congrArg Value.bool Bq15.symm)
 have d7 := d7.trans d6
 clear hv hr
 have Fa_7 := Eng.Reads.below Fa_4 b_7
 have Fx_7 := Eng.Reads.below Fx_4 b_7
 have Ox_7 := Eng.own_below Ox_4 b_7
 have bl7 := bl4.trans (b_7.mono bl4.size)
 refine EngI.tail_val EngI.free_wide rfl rfl rfl rfl (Eng.run_move rfl h15_7) s7 rfl fun act8 d8 s8 hv hr => ?_
 have h0_8 := (hr 0 rfl).trans h0_7
 have h2_8 := (hr 2 rfl).trans h2_7
 have h3_8 := (hr 3 rfl).trans h3_7
 have h11_8 := (hr 11 rfl).trans h11_7
 have h15_8 := (hr 15 rfl).trans h15_7
 have h16_8 : act8.eval (.tmp 16) = .bool q15 := hv
 have d8 := d8.trans d7
 clear hv hr
 rcases Bool.eq_false_or_eq_true q15 with hq | hq
 ·
  have kn9 := hq
  have c16 := Bq15.symm.trans hq
  clear hq
  have h15_kn9 := h15_8.trans (congrArg Value.bool kn9)
  have h16_kn9 := h16_8.trans (congrArg Value.bool kn9)
  refine EngG.tail_off EngI.free_wide rfl (EngG.wanted_off (want := false) rfl rfl rfl (by rw [s8]; decide) h16_kn9) rfl s8 rfl fun act10 d10 s10 hr => ?_
  have h16_10 : act10.eval (.tmp 16) = .bool true := (hr 16 rfl).trans h16_kn9
  have d10 := d10.trans d8
  clear hr
  refine EngG.tail_off EngI.free_wide rfl (EngG.wanted_off (want := false) rfl rfl rfl (by rw [s10]; decide) h16_10) rfl s10 rfl fun act11 d11 s11 hr => ?_
  have h16_11 := (hr 16 rfl).trans h16_10
  have d11 := d11.trans d10
  clear hr
  refine EngG.tail_off EngI.free_wide rfl (EngG.wanted_off (want := false) rfl rfl rfl (by rw [s11]; decide) h16_11) rfl s11 rfl fun act12 d12 s12 hr => ?_
  have h16_12 := (hr 16 rfl).trans h16_11
  have d12 := d12.trans d11
  clear hr
  refine EngI.tail_val EngI.free_wide rfl rfl rfl rfl (Eng.run_pick rfl h16_12 (v := .bool true) (by exact (rfl : act12.eval (.const (.bool true)) = .bool true))) s12 rfl fun act13 d13 s13 hv hr => ?_
  have h20_13 : act13.eval (.tmp 20) = .bool true := hv
  have d13 := d13.trans d12
  clear hv hr
  refine EngI.tail_val EngI.free_wide rfl rfl rfl rfl (Eng.run_move rfl h20_13) s13 rfl fun act14 d14 s14 hv hr => ?_
  have h21_14 : act14.eval (.tmp 21) = .bool true := hv
  have d14 := d14.trans d13
  clear hv hr
  refine EngG.tail_off EngI.free_wide rfl (EngG.wanted_off (want := false) rfl rfl rfl (by rw [s14]; decide) h21_14) rfl s14 rfl fun act15 d15 s15 hr => ?_
  have h21_15 := (hr 21 rfl).trans h21_14
  have d15 := d15.trans d14
  clear hr
  refine EngG.tail_off EngI.free_wide rfl (EngG.wanted_off (want := false) rfl rfl rfl (by rw [s15]; decide) h21_15) rfl s15 rfl fun act16 d16 s16 hr => ?_
  have h21_16 := (hr 21 rfl).trans h21_15
  have d16 := d16.trans d15
  clear hr
  refine EngG.tail_off EngI.free_wide rfl (EngG.wanted_off (want := false) rfl rfl rfl (by rw [s16]; decide) h21_16) rfl s16 rfl fun act17 d17 s17 hr => ?_
  have h21_17 := (hr 21 rfl).trans h21_16
  have d17 := d17.trans d16
  clear hr
  refine EngI.tail_val EngI.free_wide rfl rfl rfl rfl (Eng.run_pick rfl h21_17 (v := .bool true) (by exact (rfl : act17.eval (.const (.bool true)) = .bool true))) s17 rfl fun act18 d18 s18 hv hr => ?_
  have h25_18 : act18.eval (.tmp 25) = .bool true := hv
  have d18 := d18.trans d17
  clear hv hr
  refine EngI.tail_nil ?_
  first | show Code.wp Tryz.prog _ _ _ _ | skip
  refine wp_cond_true h25_18 ?_
  refine wp_seq ?_
  refine Eng.regionS (Eng.still [fun u_ => u_ = .bool true]) (fun _ => .plain) 1 0 74 s18 rfl (by kernel_rfl) (Eng.still_stable _) (Or.inr (Eng.still_any _)) ?_ ?_
  ·refine .cons (fun _ => ?_) (.nil)
   ·exact Eng.plain rfl rfl fun a w' H => Eng.vr rfl (Eng.run_assign rfl (rfl : a.eval (.const (.bool true)) = .bool true))
  intro act19 w19 T
  have h2_19 : act19.eval (.tmp 2) = .bool true := T.done 0 2 rfl rfl
  have d19 := T.defers.trans d18
  have bl19 := bl7.trans (T.below.mono bl7.size)
  clear T
  refine Eng.tail_nil ?_
  first | show Code.wp Tryz.prog _ _ _ _ | skip
  refine wp_ret ?_
  repeat (first | with_reducible refine Eng.in_ret ?_ | with_reducible refine Eng.then_ret ?_)
  exact Eng.ret1 rfl d19 h2_19 ⟨rfl, bl19⟩
 ·
  have kn20 := hq
  have c16 := Bq15.symm.trans hq
  clear hq
  have h15_kn20 := h15_8.trans (congrArg Value.bool kn20)
  have h16_kn20 := h16_8.trans (congrArg Value.bool kn20)
  have la := Evt.light_len c16
  refine EngG.tail_val EngI.free_wide rfl (EngG.wanted_on (want := false) rfl rfl rfl (by rw [s8]; decide) h16_kn20) rfl rfl (Eng.run_move rfl h3_8) s8 rfl fun act21 d21 s21 hv hr => ?_
  have h0_21 := (hr 0 rfl).trans h0_8
  have h2_21 := (hr 2 rfl).trans h2_8
  have h3_21 := (hr 3 rfl).trans h3_8
  have h11_21 := (hr 11 rfl).trans h11_8
  have h16_21 : act21.eval (.tmp 16) = .bool false := (hr 16 rfl).trans h16_kn20
  have h17_21 : act21.eval (.tmp 17) = v_4 := hv
  have d21 := d21.trans d8
  clear hv hr
  obtain ⟨q18, Bq18⟩ : ∃ b : Bool, b = (Evt.rightG Evt.rightE l) := ⟨_, rfl⟩
  refine EngG.tail_call EngI.free_wide Tryz.func12 (by kernel_rfl) (by kernel_rfl) rfl (EngG.wanted_on (want := false) rfl rfl rfl (by rw [s21]; decide) h16_21) rfl rfl #[v_4] (by have e0 : act21.eval (.tmp 17) = v_4 := h17_21; simp only [List.map_toArray, List.map_cons, List.map_nil, e0]) s21 rfl (R := fun v w_ => v = .bool (Evt.rightG Evt.rightE l) ∧ Below w7.heap.size w7 w_) ((Evt.Right_calls v_4 l _ (Tabs.below (Tabs.below hT bl7) (Below.refl _ _)) Fx_7 (fun k hk => Nat.le_trans (la.2 k hk) (by decide)) (by omega)).mono ?_) fun v_22 w22 act22 R d22 s22 hv hr => ?_
  ·rintro e w_ ⟨rfl, hb⟩; exact ⟨_, rfl, rfl, hb⟩
  obtain ⟨ev_22, b_22⟩ := R
  have h0_22 := (hr 0 rfl).trans h0_21
  have h2_22 := (hr 2 rfl).trans h2_21
  have h3_22 := (hr 3 rfl).trans h3_21
  have h11_22 := (hr 11 rfl).trans h11_21
  have h16_22 := (hr 16 rfl).trans h16_21
  have h18_22 : act22.eval (.tmp 18) = .bool q18 := (hv.trans ev_22).trans (congrArg Value.bool Bq18.symm)
  have d22 := d22.trans d21
  clear hv hr
  have Fa_22 := Eng.Reads.below Fa_7 b_22
  have Fx_22 := Eng.Reads.below Fx_7 b_22
  have Ox_22 := Eng.own_below Ox_7 b_22
  have bl22 := bl7.trans (b_22.mono bl7.size)
  refine EngG.tail_val EngI.free_wide rfl (EngG.wanted_on (want := false) rfl rfl rfl (by rw [s22]; decide) h16_22) rfl rfl (Eng.run_not rfl h18_22) s22 rfl fun act23 d23 s23 hv hr => ?_
  have h0_23 := (hr 0 rfl).trans h0_22
  have h2_23 := (hr 2 rfl).trans h2_22
  have h3_23 := (hr 3 rfl).trans h3_22
  have h11_23 := (hr 11 rfl).trans h11_22
  have h16_23 := (hr 16 rfl).trans h16_22
  have h19_23 : act23.eval (.tmp 19) = .bool (!q18) := hv
  have d23 := d23.trans d22
  clear hv hr
  refine EngI.tail_val EngI.free_wide rfl rfl rfl rfl (Eng.run_pick rfl h16_23 (v := .bool (!q18)) (by exact h19_23)) s23 rfl fun act24 d24 s24 hv hr => ?_
  have h0_24 := (hr 0 rfl).trans h0_23
  have h2_24 := (hr 2 rfl).trans h2_23
  have h3_24 := (hr 3 rfl).trans h3_23
  have h11_24 := (hr 11 rfl).trans h11_23
  have h19_24 := (hr 19 rfl).trans h19_23
  have h20_24 : act24.eval (.tmp 20) = .bool (!q18) := hv
  have d24 := d24.trans d23
  clear hv hr
  refine EngI.tail_val EngI.free_wide rfl rfl rfl rfl (Eng.run_move rfl h20_24) s24 rfl fun act25 d25 s25 hv hr => ?_
  have h0_25 := (hr 0 rfl).trans h0_24
  have h2_25 := (hr 2 rfl).trans h2_24
  have h3_25 := (hr 3 rfl).trans h3_24
  have h11_25 := (hr 11 rfl).trans h11_24
  have h19_25 := (hr 19 rfl).trans h19_24
  have h20_25 := (hr 20 rfl).trans h20_24
  have h21_25 : act25.eval (.tmp 21) = .bool (!q18) := hv
  have d25 := d25.trans d24
  clear hv hr
  rcases Bool.eq_false_or_eq_true (!q18) with hq | hq
  ·
   have kn26 := hq
   have c21 := hq
   clear hq
   have h19_kn26 := h19_25.trans (congrArg Value.bool kn26)
   have h20_kn26 := h20_25.trans (congrArg Value.bool kn26)
   have h21_kn26 := h21_25.trans (congrArg Value.bool kn26)
   refine EngG.tail_off EngI.free_wide rfl (EngG.wanted_off (want := false) rfl rfl rfl (by rw [s25]; decide) h21_kn26) rfl s25 rfl fun act27 d27 s27 hr => ?_
   have h21_27 : act27.eval (.tmp 21) = .bool true := (hr 21 rfl).trans h21_kn26
   have d27 := d27.trans d25
   clear hr
   refine EngG.tail_off EngI.free_wide rfl (EngG.wanted_off (want := false) rfl rfl rfl (by rw [s27]; decide) h21_27) rfl s27 rfl fun act28 d28 s28 hr => ?_
   have h21_28 := (hr 21 rfl).trans h21_27
   have d28 := d28.trans d27
   clear hr
   refine EngG.tail_off EngI.free_wide rfl (EngG.wanted_off (want := false) rfl rfl rfl (by rw [s28]; decide) h21_28) rfl s28 rfl fun act29 d29 s29 hr => ?_
   have h21_29 := (hr 21 rfl).trans h21_28
   have d29 := d29.trans d28
   clear hr
   refine EngI.tail_val EngI.free_wide rfl rfl rfl rfl (Eng.run_pick rfl h21_29 (v := .bool true) (by exact (rfl : act29.eval (.const (.bool true)) = .bool true))) s29 rfl fun act30 d30 s30 hv hr => ?_
   have h25_30 : act30.eval (.tmp 25) = .bool true := hv
   have d30 := d30.trans d29
   clear hv hr
   refine EngI.tail_nil ?_
   first | show Code.wp Tryz.prog _ _ _ _ | skip
   refine wp_cond_true h25_30 ?_
   refine wp_seq ?_
   refine Eng.regionS (Eng.still [fun u_ => u_ = .bool true]) (fun _ => .plain) 1 0 74 s30 rfl (by kernel_rfl) (Eng.still_stable _) (Or.inr (Eng.still_any _)) ?_ ?_
   ·refine .cons (fun _ => ?_) (.nil)
    ·exact Eng.plain rfl rfl fun a w' H => Eng.vr rfl (Eng.run_assign rfl (rfl : a.eval (.const (.bool true)) = .bool true))
   intro act31 w31 T
   have h2_31 : act31.eval (.tmp 2) = .bool true := T.done 0 2 rfl rfl
   have d31 := T.defers.trans d30
   have bl31 := bl22.trans (T.below.mono bl22.size)
   clear T
   refine Eng.tail_nil ?_
   first | show Code.wp Tryz.prog _ _ _ _ | skip
   refine wp_ret ?_
   repeat (first | with_reducible refine Eng.in_ret ?_ | with_reducible refine Eng.then_ret ?_)
   exact Eng.ret1 rfl d31 h2_31 ⟨rfl, bl31⟩
  ·
   have kn32 := hq
   have c21 := hq
   clear hq
   have h19_kn32 := h19_25.trans (congrArg Value.bool kn32)
   have h20_kn32 := h20_25.trans (congrArg Value.bool kn32)
   have h21_kn32 := h21_25.trans (congrArg Value.bool kn32)
   have hrt : Evt.rightG Evt.rightE l = true := by have h := c21; simp only [Bq18, Bq15] at h; simpa using h
   refine EngG.tail_val EngI.free_wide rfl (EngG.wanted_on (want := false) rfl rfl rfl (by rw [s25]; decide) h21_kn32) rfl rfl (Eng.run_move rfl h0_25) s25 rfl fun act33 d33 s33 hv hr => ?_
   have h0_33 := (hr 0 rfl).trans h0_25
   have h2_33 := (hr 2 rfl).trans h2_25
   have h3_33 := (hr 3 rfl).trans h3_25
   have h11_33 := (hr 11 rfl).trans h11_25
   have h21_33 : act33.eval (.tmp 21) = .bool false := (hr 21 rfl).trans h21_kn32
   have h22_33 : act33.eval (.tmp 22) = v := hv
   have d33 := d33.trans d25
   clear hv hr
   refine EngG.tail_val (w1 := w22) (v := .int .i64 ((l.length : Nat) : Int)) EngI.free_wide rfl (EngG.wanted_on (want := false) rfl rfl rfl (by rw [s33]; decide) h21_33) rfl rfl ?_ s33 rfl ?_
   ·exact Eng.run_len_sl rfl Tryz.underlying22 (show act33.eval (.tmp 22) = v from h22_33) Fa_22
   intro act34 d34 s34 hv hr
   have h0_34 := (hr 0 rfl).trans h0_33
   have h2_34 := (hr 2 rfl).trans h2_33
   have h3_34 := (hr 3 rfl).trans h3_33
   have h11_34 := (hr 11 rfl).trans h11_33
   have h21_34 := (hr 21 rfl).trans h21_33
   have h23_34 : act34.eval (.tmp 23) = .int .i64 ((l.length : Nat) : Int) := hv
   have d34 := d34.trans d33
   clear hv hr
   obtain ⟨q24, Bq24⟩ : ∃ b : Bool, b = (decide (((l.length : Nat) : Int) < 3)) := ⟨_, rfl⟩
   refine EngG.tail_val (w1 := w22) (v := .bool (decide (((l.length : Nat) : Int) < 3))) EngI.free_wide rfl (EngG.wanted_on (want := false) rfl rfl rfl (by rw [s34]; decide) h21_34) rfl rfl ?_ s34 rfl ?_
   ·have e0 : act34.eval (.tmp 23) = .int .i64 ((l.length : Nat) : Int) := h23_34
    have e1 : act34.eval (.const (.int .i64 3)) = .int .i64 3 := (rfl : act34.eval (.const (.int .i64 3)) = .int .i64 3)
    simp only [execOp, resolve, List.map_toArray, List.map_cons, List.map_nil, e0, e1]
    go_simp
    all_goals first | rfl | (simp; done) | (rw [Bool.eq_iff_iff]; simp; done) | omega | (split <;> first | (simp_all; done) | (split <;> simp_all; done)) | skip
   intro act35 d35 s35 hv hr
   have h0_35 := (hr 0 rfl).trans h0_34
   have h2_35 := (hr 2 rfl).trans h2_34
   have h3_35 := (hr 3 rfl).trans h3_34
   have h11_35 := (hr 11 rfl).trans h11_34
   have h21_35 := (hr 21 rfl).trans h21_34
   have h24_35 : act35.eval (.tmp 24) = .bool q24 := hv.trans (congrArg Value.bool Bq24.symm)
   have d35 := d35.trans d34
   clear hv hr
   refine EngI.tail_val EngI.free_wide rfl rfl rfl rfl (Eng.run_pick rfl h21_35 (v := .bool q24) (by exact h24_35)) s35 rfl fun act36 d36 s36 hv hr => ?_
   have h0_36 := (hr 0 rfl).trans h0_35
   have h2_36 := (hr 2 rfl).trans h2_35
   have h3_36 := (hr 3 rfl).trans h3_35
   have h11_36 := (hr 11 rfl).trans h11_35
   have h25_36 : act36.eval (.tmp 25) = .bool q24 := hv
   have d36 := d36.trans d35
   clear hv hr
   refine EngI.tail_nil ?_
   first | show Code.wp Tryz.prog _ _ _ _ | skip
   refine wp_cond_split h25_36 (fun hq => ?_) (fun hq => ?_)
   ·
    have c25 := Bq24.symm.trans hq
    clear hq
    have c25 := of_decide_eq_true c25
    refine wp_seq ?_
    refine Eng.regionS (Eng.still [fun u_ => u_ = .bool true]) (fun _ => .plain) 1 0 74 s36 rfl (by kernel_rfl) (Eng.still_stable _) (Or.inr (Eng.still_any _)) ?_ ?_
    ·refine .cons (fun _ => ?_) (.nil)
     ·exact Eng.plain rfl rfl fun a w' H => Eng.vr rfl (Eng.run_assign rfl (rfl : a.eval (.const (.bool true)) = .bool true))
    intro act38 w38 T
    have h2_38 : act38.eval (.tmp 2) = .bool true := T.done 0 2 rfl rfl
    have d38 := T.defers.trans d36
    have bl38 := bl22.trans (T.below.mono bl22.size)
    clear T
    refine Eng.tail_nil ?_
    first | show Code.wp Tryz.prog _ _ _ _ | skip
    refine wp_ret ?_
    repeat (first | with_reducible refine Eng.in_ret ?_ | with_reducible refine Eng.then_ret ?_)
    exact Eng.ret1 rfl d38 h2_38 ⟨rfl, bl38⟩
   ·
    have c25 := Bq24.symm.trans hq
    clear hq
    have c25 := of_decide_eq_false c25
    have hL3 : 3 ≤ l.length := by omega
    refine wp_skip ?_
    first | show Code.wp Tryz.prog _ _ _ _ | skip
    refine wp_seq ?_
    refine Eng.regionS (Eng.still [fun u_ => u_ = .int .i64 0]) (fun _ => .plain) 1 0 74 s36 rfl (by kernel_rfl) (Eng.still_stable _) (Or.inr (Eng.still_any _)) ?_ ?_
    ·refine .cons (fun _ => ?_) (.nil)
     ·exact Eng.plain rfl rfl fun a w' H => Eng.vr rfl (Eng.run_assign rfl (rfl : a.eval (.const (.int .i64 0)) = .int .i64 0))
    intro act40 w40 T
    have h0_40 := (T.rest 0 (by kernel_rfl)).trans h0_36
    have h2_40 := (T.rest 2 (by kernel_rfl)).trans h2_36
    have h3_40 := (T.rest 3 (by kernel_rfl)).trans h3_36
    have h11_40 := (T.rest 11 (by kernel_rfl)).trans h11_36
    have h25_40 := (T.rest 25 (by kernel_rfl)).trans h25_36
    have Fx_40 := Eng.Reads.below Fx_22 T.below
    have Ox_40 := Eng.own_below Ox_22 T.below
    have h4_40 : act40.eval (.tmp 4) = .int .i64 0 := T.done 0 4 rfl rfl
    have d40 := T.defers.trans d36
    have s40 := T.size.trans s36
    have bl40 := bl22.trans (T.below.mono bl22.size)
    clear T
    refine Eng.tail_nil ?_
    first | show Code.wp Tryz.prog _ _ _ _ | skip
    refine wp_seq ?_
    refine wp_seq ?_
    refine Eng.regionS (Eng.still [fun u_ => u_ = v_4, fun u_ => u_ = .int .i64 ((l.length : Nat) : Int), fun u_ => u_ = .int .i64 0]) (fun _ => .plain) 3 0 74 s40 rfl (by kernel_rfl) (Eng.still_stable _) (Or.inr (Eng.still_any _)) ?_ ?_
    ·refine .cons (fun _ => ?_) (.cons (fun _ => ?_) (.cons (fun _ => ?_) (.nil)))
     ·exact Eng.plain rfl rfl fun a w' H => Eng.vr rfl (Eng.run_move rfl ((H.kept 3 (by kernel_rfl)).trans h3_40))
     ·exact Eng.plain rfl rfl fun a w' H => Eng.vr (v := .int .i64 ((l.length : Nat) : Int)) rfl (Eng.run_len_sl rfl Tryz.underlying24 (show a.eval (.tmp 26) = v_4 from (H.dep 0 26 (by kernel_rfl) rfl)) (Eng.Reads.below Fx_40 H.below))
     ·exact Eng.plain rfl rfl fun a w' H => Eng.vr rfl (Eng.run_move rfl (rfl : a.eval (.const (.int .i64 0)) = .int .i64 0))
    intro act41 w41 T
    have h0_41 := (T.rest 0 (by kernel_rfl)).trans h0_40
    have h2_41 := (T.rest 2 (by kernel_rfl)).trans h2_40
    have h3_41 := (T.rest 3 (by kernel_rfl)).trans h3_40
    have h4_41 := (T.rest 4 (by kernel_rfl)).trans h4_40
    have h11_41 := (T.rest 11 (by kernel_rfl)).trans h11_40
    have h25_41 := (T.rest 25 (by kernel_rfl)).trans h25_40
    have Ox_41 := Eng.own_below Ox_40 T.below
    have h26_41 : act41.eval (.tmp 26) = v_4 := T.done 0 26 rfl rfl
    have h27_41 : act41.eval (.tmp 27) = .int .i64 ((l.length : Nat) : Int) := T.done 1 27 rfl rfl
    have h28_41 : act41.eval (.tmp 28) = .int .i64 0 := T.done 2 28 rfl rfl
    have d41 := T.defers.trans d40
    have s41 := T.size.trans s40
    have bl41 := bl40.trans (T.below.mono bl40.size)
    clear T
    refine Eng.tail_nil ?_
    first | show Code.wp Tryz.prog _ _ _ _ | skip
    refine wp_block ?_
    refine Eng.loopN (fun n a w' => ∃ (k : Nat), l.length - k = n ∧ (k ≤ l.length) ∧ (w'.ownsRow w.heap.size 29 5 v_4 l.length (Evt.cells l)) ∧ a.defers = [] ∧ a.tmps.size = 74 ∧ Below w.heap.size w w' ∧ a.eval (.tmp 0) = v ∧ a.eval (.tmp 2) = .bool false ∧ a.eval (.tmp 3) = v_4 ∧ a.eval (.tmp 4) = .int .i64 ((Evt.cntP Evt.isBeg (List.take k l) : Nat) : Int) ∧ a.eval (.tmp 11) = .bool false ∧ a.eval (.tmp 25) = .bool q24 ∧ a.eval (.tmp 26) = v_4 ∧ a.eval (.tmp 27) = .int .i64 ((l.length : Nat) : Int) ∧ a.eval (.tmp 28) = .int .i64 (k : Nat)) (n0 := l.length - 0) ?_ ?_
    ·exact ⟨0, rfl, by omega, Ox_41, d41, s41, bl41, h0_41, h2_41, h3_41, (h4_41.trans (by first | rfl | (congr 1; rw [Eng.i64_id (by omega) (by omega)]; omega) | (congr 1; omega) | (simp; done))), h11_41, h25_41, h26_41, h27_41, (h28_41.trans (by first | rfl | (congr 1; rw [Eng.i64_id (by omega) (by omega)]; omega) | (congr 1; omega) | (simp; done)))⟩
    rintro n act42 w42 ⟨k, rfl, hc0_42, hc1_42, d42, s42, bl42, h0_42, h2_42, h3_42, h4_42, h11_42, h25_42, h26_42, h27_42, h28_42⟩
    have hk1 := hc0_42
    have Fx_42 := Eng.Reads.of_own hc1_42
    refine wp_seq ?_
    obtain ⟨q29, Bq29⟩ : ∃ b : Bool, b = (decide ((k : Nat) < ((l.length : Nat) : Int))) := ⟨_, rfl⟩
    refine Eng.regionS (Eng.still [fun u_ => u_ = .bool q29]) (fun _ => .plain) 1 0 74 s42 rfl (by kernel_rfl) (Eng.still_stable _) (Or.inr (Eng.still_any _)) ?_ ?_
    ·refine .cons (fun _ => ?_) (.nil)
     ·refine Eng.plain rfl rfl fun a w' H => ?_
      refine Eng.vr (v := .bool (decide ((k : Nat) < ((l.length : Nat) : Int)))) (by show _ = Value.bool q29; rw [Bq29]) ?_
      have e0 : a.eval (.tmp 28) = .int .i64 (k : Nat) := ((H.kept 28 (by kernel_rfl)).trans h28_42)
      have e1 : a.eval (.tmp 27) = .int .i64 ((l.length : Nat) : Int) := ((H.kept 27 (by kernel_rfl)).trans h27_42)
      simp only [execOp, resolve, List.map_toArray, List.map_cons, List.map_nil, e0, e1]
      go_simp
      all_goals first | rfl | (simp; done) | (rw [Bool.eq_iff_iff]; simp; done) | omega | (split <;> first | (simp_all; done) | (split <;> simp_all; done)) | skip
    intro act43 w43 T
    have h0_43 := (T.rest 0 (by kernel_rfl)).trans h0_42
    have h2_43 := (T.rest 2 (by kernel_rfl)).trans h2_42
    have h3_43 := (T.rest 3 (by kernel_rfl)).trans h3_42
    have h4_43 := (T.rest 4 (by kernel_rfl)).trans h4_42
    have h11_43 := (T.rest 11 (by kernel_rfl)).trans h11_42
    have h25_43 := (T.rest 25 (by kernel_rfl)).trans h25_42
    have h26_43 := (T.rest 26 (by kernel_rfl)).trans h26_42
    have h27_43 := (T.rest 27 (by kernel_rfl)).trans h27_42
    have h28_43 := (T.rest 28 (by kernel_rfl)).trans h28_42
    have Fx_43 := Eng.Reads.below Fx_42 T.below
    have Ox_43 := Eng.own_below hc1_42 T.below
    have h29_43 : act43.eval (.tmp 29) = .bool q29 := T.done 0 29 rfl rfl
    have d43 := T.defers.trans d42
    have s43 := T.size.trans s42
    have bl43 := bl42.trans (T.below.mono bl42.size)
    clear T
    refine Eng.tail_nil ?_
    first | show Code.wp Tryz.prog _ _ _ _ | skip
    refine wp_seq ?_
    refine wp_cond_split h29_43 (fun hq => ?_) (fun hq => ?_)
    ·
     have c29 := Bq29.symm.trans hq
     clear hq
     have c29 := of_decide_eq_true c29
     have hk0 : k < l.length := by omega
     have hcl := Evt.cntP_le Evt.isBeg l k
     refine wp_skip ?_
     first | show Code.wp Tryz.prog _ _ _ _ | skip
     refine wp_seq ?_
     refine wp_block ?_
     refine wp_seq ?_
     refine Eng.regionS (Eng.still [fun u_ => u_ = Eng.elemPtr v_4 (k * 5), fun u_ => u_ = .agg #[.int .i64 ((l.getD k default).kind), .string ((l.getD k default).anchor), .string ((l.getD k default).tag), .string ((l.getD k default).text), .bool ((l.getD k default).plain)], fun u_ => True, fun u_ => True]) (fun i => ([.plain, .plain, .alloc 29 #[.int .i64 0, .string ⟨#[]⟩, .string ⟨#[]⟩, .string ⟨#[]⟩, .bool false], .store 2 #[.int .i64 ((l.getD k default).kind), .string ((l.getD k default).anchor), .string ((l.getD k default).tag), .string ((l.getD k default).text), .bool ((l.getD k default).plain)]] : List Eng.Kind).getD i .plain) 4 0 74 s43 rfl (by kernel_rfl) (Eng.still_stable _) (Or.inr (Eng.still_any _)) ?_ ?_
     ·refine .cons (fun _ => ?_) (.cons (fun _ => ?_) (.cons (fun _ => ?_) (.cons (fun _ => ?_) (.nil))))
      ·exact Eng.plain rfl rfl fun a w' H => Eng.vr (v := Eng.elemPtr v_4 (k * 5)) rfl (Eng.run_index_sl rfl Tryz.underlying24 (by kernel_rfl) (show a.eval (.tmp 26) = v_4 from ((H.kept 26 (by kernel_rfl)).trans h26_43)) ((show a.eval (.tmp 28) = .int .i64 (k : Nat) from ((H.kept 28 (by kernel_rfl)).trans h28_43)).trans (congrArg (Value.int _) (show (k : Nat) = ((k : Nat) : Int) from by omega))) (Eng.Reads.below Fx_43 H.below) (by omega) rfl)
      ·exact Eng.plain rfl rfl fun a w' H => Eng.vr (v := .agg #[.int .i64 ((l.getD k default).kind), .string ((l.getD k default).anchor), .string ((l.getD k default).tag), .string ((l.getD k default).text), .bool ((l.getD k default).plain)]) rfl (Eng.run_load_els [.int .i64 ((l.getD k default).kind), .string ((l.getD k default).anchor), .string ((l.getD k default).tag), .string ((l.getD k default).text), .bool ((l.getD k default).plain)] rfl (show a.eval (.tmp 30) = Eng.elemPtr v_4 (k * 5) from (H.dep 0 30 (by kernel_rfl) rfl)) (Eng.Reads.below Fx_43 H.below) (Evt.cells_at l k (by omega)) rfl Tryz.underlying29 rfl (by kernel_rfl))
      ·refine Eng.made rfl (by simp) rfl (fun a w' hd ho => ?_) (fun _ _ => trivial)
       simp only [execOp]
       go_simp
      ·refine Eng.stored [.int .i64 ((l.getD k default).kind), .string ((l.getD k default).anchor), .string ((l.getD k default).tag), .string ((l.getD k default).text), .bool ((l.getD k default).plain)] rfl rfl rfl (j := 2) (d := 6) (by kernel_rfl) rfl rfl (Eng.store_uniq (by kernel_rfl)) rfl rfl fun a w' g e hc hd ho => ?_
       have e0 : a.eval _ = .agg #[.int .i64 ((l.getD k default).kind), .string ((l.getD k default).anchor), .string ((l.getD k default).tag), .string ((l.getD k default).text), .bool ((l.getD k default).plain)] := (hd 1 31 (by kernel_rfl) rfl)
       have z0 := (Eng.cells hc 0).trans rfl
       have z1 := (Eng.cells hc 1).trans rfl
       have z2 := (Eng.cells hc 2).trans rfl
       have z3 := (Eng.cells hc 3).trans rfl
       have z4 := (Eng.cells hc 4).trans rfl
       have f0 := Eng.unfrozen hc 0
       have f1 := Eng.unfrozen hc 1
       have f2 := Eng.unfrozen hc 2
       have f3 := Eng.unfrozen hc 3
       have f4 := Eng.unfrozen hc 4
       simp only [execOp, e, e0]
       go_simp
       rfl
     intro act45 w45 T
     have h0_45 := (T.rest 0 (by kernel_rfl)).trans h0_43
     have h2_45 := (T.rest 2 (by kernel_rfl)).trans h2_43
     have h3_45 := (T.rest 3 (by kernel_rfl)).trans h3_43
     have h4_45 := (T.rest 4 (by kernel_rfl)).trans h4_43
     have h11_45 := (T.rest 11 (by kernel_rfl)).trans h11_43
     have h25_45 := (T.rest 25 (by kernel_rfl)).trans h25_43
     have h26_45 := (T.rest 26 (by kernel_rfl)).trans h26_43
     have h27_45 := (T.rest 27 (by kernel_rfl)).trans h27_43
     have h28_45 := (T.rest 28 (by kernel_rfl)).trans h28_43
     have Ox_45 := Eng.own_below Ox_43 T.below
     obtain ⟨g6_45, h6_45, rg6_45, lg6_45_45, kg6_45_45⟩ := T.st 2 6 3 _ _ _ rfl rfl rfl rfl rfl
     have d45 := T.defers.trans d43
     have s45 := T.size.trans s43
     have bl45 := bl43.trans (T.below.mono bl43.size)
     clear T
     refine Eng.tail_nil ?_
     first | show Code.wp Tryz.prog _ _ _ _ | skip
     refine wp_seq ?_
     obtain ⟨q34, Bq34⟩ : ∃ b : Bool, b = (((l.getD k default).kind) == 0) := ⟨_, rfl⟩
     refine Eng.regionS (Eng.still [fun u_ => u_ = .pointer (some ⟨g6_45, 0, none⟩), fun u_ => u_ = .int .i64 ((l.getD k default).kind), fun u_ => u_ = .bool q34]) (fun _ => .plain) 3 0 74 s45 rfl (by kernel_rfl) (Eng.still_stable _) (Or.inr (Eng.still_any _)) ?_ ?_
     ·refine .cons (fun _ => ?_) (.cons (fun _ => ?_) (.cons (fun _ => ?_) (.nil)))
      ·exact Eng.plain rfl rfl fun a w' H => Eng.vr rfl (Eng.run_fieldb rfl Tryz.underlying29 0 (by kernel_rfl) ((H.kept 6 (by kernel_rfl)).trans h6_45))
      ·exact Eng.plain rfl rfl fun a w' H => Eng.vr rfl (Eng.run_loadb rfl (H.dep 0 32 (by kernel_rfl) rfl) ((H.below.block _ lg6_45_45).trans kg6_45_45) rfl (by kernel_rfl))
      ·refine Eng.plain rfl rfl fun a w' H => ?_
       refine Eng.vr (v := .bool (((l.getD k default).kind) == 0)) (by show _ = Value.bool q34; rw [Bq34]) ?_
       have e0 : a.eval (.tmp 33) = .int .i64 ((l.getD k default).kind) := (H.dep 1 33 (by kernel_rfl) rfl)
       have e1 : a.eval (.const (.int .i64 0)) = .int .i64 0 := (rfl : a.eval (.const (.int .i64 0)) = .int .i64 0)
       simp only [execOp, resolve, List.map_toArray, List.map_cons, List.map_nil, e0, e1]
       go_simp
       all_goals first | rfl | (simp; done) | (rw [Bool.eq_iff_iff]; simp; done) | omega | (split <;> first | (simp_all; done) | (split <;> simp_all; done)) | skip
     intro act46 w46 T
     have h0_46 := (T.rest 0 (by kernel_rfl)).trans h0_45
     have h2_46 := (T.rest 2 (by kernel_rfl)).trans h2_45
     have h3_46 := (T.rest 3 (by kernel_rfl)).trans h3_45
     have h4_46 := (T.rest 4 (by kernel_rfl)).trans h4_45
     have h11_46 := (T.rest 11 (by kernel_rfl)).trans h11_45
     have h25_46 := (T.rest 25 (by kernel_rfl)).trans h25_45
     have h26_46 := (T.rest 26 (by kernel_rfl)).trans h26_45
     have h27_46 := (T.rest 27 (by kernel_rfl)).trans h27_45
     have h28_46 := (T.rest 28 (by kernel_rfl)).trans h28_45
     have Ox_46 := Eng.own_below Ox_45 T.below
     have h34_46 : act46.eval (.tmp 34) = .bool q34 := T.done 2 34 rfl rfl
     have d46 := T.defers.trans d45
     have s46 := T.size.trans s45
     have bl46 := bl45.trans (T.below.mono bl45.size)
     clear T
     refine Eng.tail_nil ?_
     first | show Code.wp Tryz.prog _ _ _ _ | skip
     refine wp_cond_split h34_46 (fun hq => ?_) (fun hq => ?_)
     ·
      have c34 := Bq34.symm.trans hq
      clear hq
      have hcn := Evt.cntP_is (p := Evt.isBeg) hk0 (by unfold Evt.isBeg; exact c34)
      refine Eng.regionS (Eng.still [fun u_ => u_ = .int .i64 ((Evt.cntP Evt.isBeg (List.take k l) : Nat) : Int), fun u_ => u_ = .int .i64 (IntKind.i64.wrap (((Evt.cntP Evt.isBeg (List.take k l) : Nat) : Int) + 1)), fun u_ => u_ = .int .i64 (IntKind.i64.wrap (((Evt.cntP Evt.isBeg (List.take k l) : Nat) : Int) + 1))]) (fun _ => .plain) 3 0 74 s46 rfl (by kernel_rfl) (Eng.still_stable _) (Or.inr (Eng.still_any _)) ?_ ?_
      ·refine .cons (fun _ => ?_) (.cons (fun _ => ?_) (.cons (fun _ => ?_) (.nil)))
       ·exact Eng.plain rfl rfl fun a w' H => Eng.vr rfl (Eng.run_move rfl ((H.kept 4 (by kernel_rfl)).trans h4_46))
       ·refine Eng.plain rfl rfl fun a w' H => ?_
        refine Eng.vr (v := .int .i64 (IntKind.i64.wrap (((Evt.cntP Evt.isBeg (List.take k l) : Nat) : Int) + 1))) rfl ?_
        have e0 : a.eval (.tmp 35) = .int .i64 ((Evt.cntP Evt.isBeg (List.take k l) : Nat) : Int) := (H.dep 0 35 (by kernel_rfl) rfl)
        have e1 : a.eval (.const (.int .i64 1)) = .int .i64 1 := (rfl : a.eval (.const (.int .i64 1)) = .int .i64 1)
        simp only [execOp, resolve, List.map_toArray, List.map_cons, List.map_nil, e0, e1]
        go_simp
        all_goals first | rfl | (simp; done) | (rw [Bool.eq_iff_iff]; simp; done) | omega | (split <;> first | (simp_all; done) | (split <;> simp_all; done)) | skip
       ·exact Eng.plain rfl rfl fun a w' H => Eng.vr rfl (Eng.run_assign rfl (H.dep 1 36 (by kernel_rfl) rfl))
      intro act48 w48 T
      have h0_48 := (T.rest 0 (by kernel_rfl)).trans h0_46
      have h2_48 := (T.rest 2 (by kernel_rfl)).trans h2_46
      have h3_48 := (T.rest 3 (by kernel_rfl)).trans h3_46
      have h11_48 := (T.rest 11 (by kernel_rfl)).trans h11_46
      have h25_48 := (T.rest 25 (by kernel_rfl)).trans h25_46
      have h26_48 := (T.rest 26 (by kernel_rfl)).trans h26_46
      have h27_48 := (T.rest 27 (by kernel_rfl)).trans h27_46
      have h28_48 := (T.rest 28 (by kernel_rfl)).trans h28_46
      have Ox_48 := Eng.own_below Ox_46 T.below
      have h4_48 : act48.eval (.tmp 4) = .int .i64 (IntKind.i64.wrap (((Evt.cntP Evt.isBeg (List.take k l) : Nat) : Int) + 1)) := T.done 2 4 rfl rfl
      have d48 := T.defers.trans d46
      have s48 := T.size.trans s46
      have bl48 := bl46.trans (T.below.mono bl46.size)
      clear T
      refine Eng.tail_nil ?_
      first | show Code.wp Tryz.prog _ _ _ _ | skip
      refine Eng.regionS (Eng.still [fun u_ => u_ = .int .i64 (IntKind.i64.wrap ((k : Nat) + 1)), fun u_ => u_ = .int .i64 (IntKind.i64.wrap ((k : Nat) + 1))]) (fun _ => .plain) 2 0 74 s48 rfl (by kernel_rfl) (Eng.still_stable _) (Or.inr (Eng.still_any _)) ?_ ?_
      ·refine .cons (fun _ => ?_) (.cons (fun _ => ?_) (.nil))
       ·refine Eng.plain rfl rfl fun a w' H => ?_
        refine Eng.vr (v := .int .i64 (IntKind.i64.wrap ((k : Nat) + 1))) rfl ?_
        have e0 : a.eval (.tmp 28) = .int .i64 (k : Nat) := ((H.kept 28 (by kernel_rfl)).trans h28_48)
        have e1 : a.eval (.const (.int .i64 1)) = .int .i64 1 := (rfl : a.eval (.const (.int .i64 1)) = .int .i64 1)
        simp only [execOp, resolve, List.map_toArray, List.map_cons, List.map_nil, e0, e1]
        go_simp
        all_goals first | rfl | (simp; done) | (rw [Bool.eq_iff_iff]; simp; done) | omega | (split <;> first | (simp_all; done) | (split <;> simp_all; done)) | skip
       ·exact Eng.plain rfl rfl fun a w' H => Eng.vr rfl (Eng.run_move rfl (H.dep 0 37 (by kernel_rfl) rfl))
      intro act49 w49 T
      have h0_49 := (T.rest 0 (by kernel_rfl)).trans h0_48
      have h2_49 := (T.rest 2 (by kernel_rfl)).trans h2_48
      have h3_49 := (T.rest 3 (by kernel_rfl)).trans h3_48
      have h4_49 := (T.rest 4 (by kernel_rfl)).trans h4_48
      have h11_49 := (T.rest 11 (by kernel_rfl)).trans h11_48
      have h25_49 := (T.rest 25 (by kernel_rfl)).trans h25_48
      have h26_49 := (T.rest 26 (by kernel_rfl)).trans h26_48
      have h27_49 := (T.rest 27 (by kernel_rfl)).trans h27_48
      have Ox_49 := Eng.own_below Ox_48 T.below
      have h28_49 : act49.eval (.tmp 28) = .int .i64 (IntKind.i64.wrap ((k : Nat) + 1)) := T.done 1 28 rfl rfl
      have d49 := T.defers.trans d48
      have s49 := T.size.trans s48
      have bl49 := bl48.trans (T.below.mono bl48.size)
      clear T
      refine Eng.tail_nil ?_
      exact ⟨_, by omega, k + 1, rfl, by omega, Ox_49, d49, s49, bl49, h0_49, h2_49, h3_49, (h4_49.trans (by first | rfl | (congr 1; rw [Eng.i64_id (by omega) (by omega)]; omega) | (congr 1; omega) | (simp; done))), h11_49, h25_49, h26_49, h27_49, (h28_49.trans (by first | rfl | (congr 1; rw [Eng.i64_id (by omega) (by omega)]; omega) | (congr 1; omega) | (simp; done)))⟩
     ·
      have c34 := Bq34.symm.trans hq
      clear hq
      have hcn := Evt.cntP_not (p := Evt.isBeg) hk0 (by unfold Evt.isBeg; exact c34)
      refine wp_skip ?_
      first | show Code.wp Tryz.prog _ _ _ _ | skip
      refine Eng.regionS (Eng.still [fun u_ => u_ = .int .i64 (IntKind.i64.wrap ((k : Nat) + 1)), fun u_ => u_ = .int .i64 (IntKind.i64.wrap ((k : Nat) + 1))]) (fun _ => .plain) 2 0 74 s46 rfl (by kernel_rfl) (Eng.still_stable _) (Or.inr (Eng.still_any _)) ?_ ?_
      ·refine .cons (fun _ => ?_) (.cons (fun _ => ?_) (.nil))
       ·refine Eng.plain rfl rfl fun a w' H => ?_
        refine Eng.vr (v := .int .i64 (IntKind.i64.wrap ((k : Nat) + 1))) rfl ?_
        have e0 : a.eval (.tmp 28) = .int .i64 (k : Nat) := ((H.kept 28 (by kernel_rfl)).trans h28_46)
        have e1 : a.eval (.const (.int .i64 1)) = .int .i64 1 := (rfl : a.eval (.const (.int .i64 1)) = .int .i64 1)
        simp only [execOp, resolve, List.map_toArray, List.map_cons, List.map_nil, e0, e1]
        go_simp
        all_goals first | rfl | (simp; done) | (rw [Bool.eq_iff_iff]; simp; done) | omega | (split <;> first | (simp_all; done) | (split <;> simp_all; done)) | skip
       ·exact Eng.plain rfl rfl fun a w' H => Eng.vr rfl (Eng.run_move rfl (H.dep 0 37 (by kernel_rfl) rfl))
      intro act51 w51 T
      have h0_51 := (T.rest 0 (by kernel_rfl)).trans h0_46
      have h2_51 := (T.rest 2 (by kernel_rfl)).trans h2_46
      have h3_51 := (T.rest 3 (by kernel_rfl)).trans h3_46
      have h4_51 := (T.rest 4 (by kernel_rfl)).trans h4_46
      have h11_51 := (T.rest 11 (by kernel_rfl)).trans h11_46
      have h25_51 := (T.rest 25 (by kernel_rfl)).trans h25_46
      have h26_51 := (T.rest 26 (by kernel_rfl)).trans h26_46
      have h27_51 := (T.rest 27 (by kernel_rfl)).trans h27_46
      have Ox_51 := Eng.own_below Ox_46 T.below
      have h28_51 : act51.eval (.tmp 28) = .int .i64 (IntKind.i64.wrap ((k : Nat) + 1)) := T.done 1 28 rfl rfl
      have d51 := T.defers.trans d46
      have s51 := T.size.trans s46
      have bl51 := bl46.trans (T.below.mono bl46.size)
      clear T
      refine Eng.tail_nil ?_
      exact ⟨_, by omega, k + 1, rfl, by omega, Ox_51, d51, s51, bl51, h0_51, h2_51, h3_51, (h4_51.trans (by first | rfl | (congr 1; rw [Eng.i64_id (by omega) (by omega)]; omega) | (congr 1; omega) | (simp; done))), h11_51, h25_51, h26_51, h27_51, (h28_51.trans (by first | rfl | (congr 1; rw [Eng.i64_id (by omega) (by omega)]; omega) | (congr 1; omega) | (simp; done)))⟩
    ·
     have c29 := Bq29.symm.trans hq
     clear hq
     have c29 := of_decide_eq_false c29
     have hke : k = l.length := by omega
     refine wp_exit ?_
     first | show Code.wp Tryz.prog _ _ _ _ | skip
     first | show Code.wp Tryz.prog _ _ _ _ | skip
     refine wp_seq ?_
     refine wp_seq ?_
     obtain ⟨q39, Bq39⟩ : ∃ b : Bool, b = (!(((Evt.cntP Evt.isBeg (List.take k l) : Nat) : Int) == 1)) := ⟨_, rfl⟩
     refine Eng.regionS (Eng.still [fun u_ => u_ = .int .i64 ((Evt.cntP Evt.isBeg (List.take k l) : Nat) : Int), fun u_ => u_ = .bool q39]) (fun _ => .plain) 2 0 74 s43 rfl (by kernel_rfl) (Eng.still_stable _) (Or.inr (Eng.still_any _)) ?_ ?_
     ·refine .cons (fun _ => ?_) (.cons (fun _ => ?_) (.nil))
      ·exact Eng.plain rfl rfl fun a w' H => Eng.vr rfl (Eng.run_move rfl ((H.kept 4 (by kernel_rfl)).trans h4_43))
      ·refine Eng.plain rfl rfl fun a w' H => ?_
       refine Eng.vr (v := .bool (!(((Evt.cntP Evt.isBeg (List.take k l) : Nat) : Int) == 1))) (by show _ = Value.bool q39; rw [Bq39]) ?_
       have e0 : a.eval (.tmp 38) = .int .i64 ((Evt.cntP Evt.isBeg (List.take k l) : Nat) : Int) := (H.dep 0 38 (by kernel_rfl) rfl)
       have e1 : a.eval (.const (.int .i64 1)) = .int .i64 1 := (rfl : a.eval (.const (.int .i64 1)) = .int .i64 1)
       simp only [execOp, resolve, List.map_toArray, List.map_cons, List.map_nil, e0, e1]
       go_simp
       all_goals first | rfl | (simp; done) | (rw [Bool.eq_iff_iff]; simp; done) | omega | (split <;> first | (simp_all; done) | (split <;> simp_all; done)) | skip
     intro act53 w53 T
     have h3_53 := (T.rest 3 (by kernel_rfl)).trans h3_43
     have Fx_53 := Eng.Reads.below Fx_43 T.below
     have Ox_53 := Eng.own_below Ox_43 T.below
     have h39_53 : act53.eval (.tmp 39) = .bool q39 := T.done 1 39 rfl rfl
     have d53 := T.defers.trans d43
     have s53 := T.size.trans s43
     have bl53 := bl43.trans (T.below.mono bl43.size)
     clear T
     refine Eng.tail_nil ?_
     first | show Code.wp Tryz.prog _ _ _ _ | skip
     refine wp_cond_split h39_53 (fun hq => ?_) (fun hq => ?_)
     ·
      have c39 := Bq39.symm.trans hq
      clear hq
      refine wp_seq ?_
      refine Eng.regionS (Eng.still [fun u_ => u_ = .bool true]) (fun _ => .plain) 1 0 74 s53 rfl (by kernel_rfl) (Eng.still_stable _) (Or.inr (Eng.still_any _)) ?_ ?_
      ·refine .cons (fun _ => ?_) (.nil)
       ·exact Eng.plain rfl rfl fun a w' H => Eng.vr rfl (Eng.run_assign rfl (rfl : a.eval (.const (.bool true)) = .bool true))
      intro act55 w55 T
      have h2_55 : act55.eval (.tmp 2) = .bool true := T.done 0 2 rfl rfl
      have d55 := T.defers.trans d53
      have bl55 := bl53.trans (T.below.mono bl53.size)
      clear T
      refine Eng.tail_nil ?_
      first | show Code.wp Tryz.prog _ _ _ _ | skip
      refine wp_ret ?_
      repeat (first | with_reducible refine Eng.in_ret ?_ | with_reducible refine Eng.then_ret ?_)
      exact Eng.ret1 rfl d55 h2_55 ⟨rfl, bl55⟩
     ·
      have c39 := Bq39.symm.trans hq
      clear hq
      have hd1 : Evt.cntP Evt.isBeg l = 1 := by have h := c39; rw [Evt.cntP_end hke] at h; simp at h; omega
      have hN := Evt.node_law hrt hL3 hd1 la.1
      refine wp_skip ?_
      first | show Code.wp Tryz.prog _ _ _ _ | skip
      refine wp_seq ?_
      refine Eng.regionT (n := 7) rfl ?_
      refine Eng.tail_val rfl rfl rfl (Eng.run_move rfl h3_53) s53 rfl fun act57 d57 s57 hv hr => ?_
      have h3_57 := (hr 3 rfl).trans h3_53
      have h40_57 : act57.eval (.tmp 40) = v_4 := hv
      have d57 := d57.trans d53
      clear hv hr
      refine Eng.tail_val rfl rfl rfl (Eng.run_move rfl h3_57) s57 rfl fun act58 d58 s58 hv hr => ?_
      have h3_58 := (hr 3 rfl).trans h3_57
      have h40_58 := (hr 40 rfl).trans h40_57
      have h41_58 : act58.eval (.tmp 41) = v_4 := hv
      have d58 := d58.trans d57
      clear hv hr
      refine Eng.tail_val (w1 := w53) (v := .int .i64 ((l.length : Nat) : Int)) rfl rfl rfl ?_ s58 rfl ?_
      ·exact Eng.run_len_sl rfl Tryz.underlying24 (show act58.eval (.tmp 41) = v_4 from h41_58) Fx_53
      intro act59 d59 s59 hv hr
      have h3_59 := (hr 3 rfl).trans h3_58
      have h40_59 := (hr 40 rfl).trans h40_58
      have h42_59 : act59.eval (.tmp 42) = .int .i64 ((l.length : Nat) : Int) := hv
      have d59 := d59.trans d58
      clear hv hr
      refine Eng.tail_val (w1 := w53) (v := .int .i64 (IntKind.i64.wrap (((l.length : Nat) : Int) - 1))) rfl rfl rfl ?_ s59 rfl ?_
      ·have e0 : act59.eval (.tmp 42) = .int .i64 ((l.length : Nat) : Int) := h42_59
       have e1 : act59.eval (.const (.int .i64 1)) = .int .i64 1 := (rfl : act59.eval (.const (.int .i64 1)) = .int .i64 1)
       simp only [execOp, resolve, List.map_toArray, List.map_cons, List.map_nil, e0, e1]
       go_simp
       all_goals first | rfl | (simp; done) | (rw [Bool.eq_iff_iff]; simp; done) | omega | (split <;> first | (simp_all; done) | (split <;> simp_all; done)) | skip
      intro act60 d60 s60 hv hr
      have h3_60 := (hr 3 rfl).trans h3_59
      have h40_60 := (hr 40 rfl).trans h40_59
      have h43_60 : act60.eval (.tmp 43) = .int .i64 (IntKind.i64.wrap (((l.length : Nat) : Int) - 1)) := hv
      have d60 := d60.trans d59
      clear hv hr
      refine Eng.tail_val rfl rfl rfl (Eng.run_cutv (l := 1) (h := l.length - 1) (size := 5) rfl Tryz.underlying24 (by kernel_rfl) h40_60 Fx_53 (congrArg some (rfl : act60.eval (.const (.int .i64 1)) = .int .i64 ((1 : Nat) : Int))) (congrArg some (h43_60.trans (congrArg (Value.int _) (show IntKind.i64.wrap (((l.length : Nat) : Int) - 1) = ((l.length - 1 : Nat) : Int) from by rw [Eng.i64_id (by omega) (by omega)]; omega)))) (Or.inr ⟨_, rfl⟩) (Or.inr ⟨_, rfl⟩) (by omega) (by omega)) s60 rfl fun act61 d61 s61 hv hr => ?_
      have h3_61 := (hr 3 rfl).trans h3_60
      have h44_61 : act61.eval (.tmp 44) = (Eng.cutVal v_4 1 (l.length - 1) 5) := hv
      have d61 := d61.trans d60
      clear hv hr
      obtain ⟨cv, hcv⟩ : ∃ v, v = (Eng.cutVal v_4 1 (l.length - 1) 5) := ⟨_, rfl⟩
      have Fnd : Eng.Reads w53 cv (Evt.nodeL l).length 5 (Evt.cells (Evt.nodeL l)) := by rw [hcv]; exact Evt.cut_reads (a := 1) (b := l.length - 1) Fx_53 (by omega) (by omega)
      have hcv2 := h44_61.trans hcv.symm
      have HCV := Aside0.mk hcv
      clear hcv
      refine Eng.tail_ex rfl rfl rfl (Dc.alloc_ex1 (.slice none 0 0) rfl (by kernel_rfl) rfl) s61 rfl fun v_62 w62 act62 R d62 s62 hv hr => ?_
      obtain ⟨g7_62, ev_62, rg_62, lg7_62, kg7_62, b_62⟩ := R
      have h3_62 := (hr 3 rfl).trans h3_61
      have h44_62 : act62.eval (.tmp 44) = cv := (hr 44 rfl).trans hcv2
      have h7_62 : act62.eval (.tmp 7) = v_62 := hv
      have d62 := d62.trans d61
      clear hv hr
      have og7_62 : w.heap.size ≤ g7_62 := Nat.le_trans bl53.size rg_62
      have Ox_62 := Eng.own_below Ox_53 b_62
      have Fnd_62 := Eng.Reads.below Fnd b_62
      have bl62 := bl53.trans (b_62.mono bl53.size)
      rw [ev_62] at h7_62
      refine Eng.tail_set (n := 0) (v := cv) (new := #[cv]) rfl rfl rfl kg7_62 rfl ?_ fun w63 S => ?_
      ·have e0 : act62.eval (.tmp 7) = .pointer (some ⟨g7_62, 0, none⟩) := h7_62
       have e1 : act62.eval (.tmp 44) = cv := h44_62
       obtain ⟨A0_, c0_, ev0_⟩ := Eng.Reads.shape Fnd_62
       subst ev0_
       have z0 := (Eng.cells kg7_62 (0)).trans (rfl)
       have f0 := Eng.unfrozen kg7_62 (0)
       simp only [execOp]
       rw [e0, e1]
       go_simp
      have kg7_62_63 := S.new
      have lg7_62_63 := Nat.lt_of_lt_of_eq lg7_62 S.size.symm
      have bl63 := S.below bl62 og7_62
      have Ox_63 := Eng.own_sets Ox_62 S kg7_62 rfl
      have Fx_63 := Eng.Reads.of_own Ox_63
      clear S
      refine Eng.tail_nil ?_
      first | show Code.wp Tryz.prog _ _ _ _ | skip
      refine wp_seq ?_
      refine Eng.regionS (Eng.still [fun u_ => u_ = .func (.func 13) #[] #[.pointer (some ⟨g7_62, 0, none⟩)], fun u_ => u_ = .func (.func 13) #[] #[.pointer (some ⟨g7_62, 0, none⟩)]]) (fun _ => .plain) 2 0 74 s62 rfl (by kernel_rfl) (Eng.still_stable _) (Or.inr (Eng.still_any _)) ?_ ?_
      ·refine .cons (fun _ => ?_) (.cons (fun _ => ?_) (.nil))
       ·refine Eng.plain rfl rfl fun a w' H => ?_
        refine Eng.vr (v := .func (.func 13) #[] #[.pointer (some ⟨g7_62, 0, none⟩)]) rfl ?_
        have e0 : a.eval (.tmp 7) = .pointer (some ⟨g7_62, 0, none⟩) := ((H.kept 7 (by kernel_rfl)).trans h7_62)
        simp only [execOp, resolve, List.map_toArray, List.map_cons, List.map_nil, e0]
        go_simp
        all_goals first | rfl | (simp; done) | (rw [Bool.eq_iff_iff]; simp; done) | omega | (split <;> first | (simp_all; done) | (split <;> simp_all; done)) | skip
       ·exact Eng.plain rfl rfl fun a w' H => Eng.vr rfl (Eng.run_assign rfl (H.dep 0 45 (by kernel_rfl) rfl))
      intro act64 w64 T
      have h3_64 := (T.rest 3 (by kernel_rfl)).trans h3_62
      have kg7_62_64 := (T.below.block _ lg7_62_63).trans kg7_62_63
      have lg7_62_64 := Nat.lt_of_lt_of_le lg7_62_63 T.below.size
      have Fx_64 := Eng.Reads.below Fx_63 T.below
      have h8_64 : act64.eval (.tmp 8) = .func (.func 13) #[] #[.pointer (some ⟨g7_62, 0, none⟩)] := T.done 1 8 rfl rfl
      have d64 := T.defers.trans d62
      have s64 := T.size.trans s62
      have bl64 := bl63.trans (T.below.mono bl63.size)
      clear T
      refine Eng.tail_nil ?_
      first | show Code.wp Tryz.prog _ _ _ _ | skip
      refine wp_seq ?_
      obtain ⟨q48, Bq48⟩ : ∃ b : Bool, b = (decide (((Evt.depths l).2) < 40)) := ⟨_, rfl⟩
      refine Eng.regionS (Eng.still [fun u_ => u_ = v_4, fun u_ => u_ = .int .i64 ((Evt.depths l).2), fun u_ => u_ = .bool q48, fun u_ => u_ = .bool q48]) (fun _ => .plain) 4 0 74 s64 rfl (by kernel_rfl) (Eng.still_stable _) (Or.inr (Eng.still_any _)) ?_ ?_
      ·refine .cons (fun _ => ?_) (.cons (fun _ => ?_) (.cons (fun _ => ?_) (.cons (fun _ => ?_) (.nil))))
       ·exact Eng.plain rfl rfl fun a w' H => Eng.vr rfl (Eng.run_move rfl ((H.kept 3 (by kernel_rfl)).trans h3_64))
       ·refine Eng.plain rfl rfl fun a w' H => ?_
        refine Eng.call Tryz.func14 (by kernel_rfl) (by kernel_rfl) rfl #[v_4] ?_ ?_
        ·have e0 : a.eval (.tmp 46) = v_4 := (H.dep 0 46 (by kernel_rfl) rfl); simp only [List.map_toArray, List.map_cons, List.map_nil, e0]
        refine (Evt.depth_calls v_4 l _ (Eng.Reads.below Fx_64 H.below)).mono ?_
        rintro e w'' ⟨rfl, hb⟩
        exact ⟨_, rfl, rfl, hb⟩
       ·refine Eng.plain rfl rfl fun a w' H => ?_
        refine Eng.vr (v := .bool (decide (((Evt.depths l).2) < 40))) (by show _ = Value.bool q48; rw [Bq48]) ?_
        have e0 : a.eval (.tmp 47) = .int .i64 ((Evt.depths l).2) := (H.dep 1 47 (by kernel_rfl) rfl)
        have e1 : a.eval (.const (.int .i64 40)) = .int .i64 40 := (rfl : a.eval (.const (.int .i64 40)) = .int .i64 40)
        simp only [execOp, resolve, List.map_toArray, List.map_cons, List.map_nil, e0, e1]
        go_simp
        all_goals first | rfl | (simp; done) | (rw [Bool.eq_iff_iff]; simp; done) | omega | (split <;> first | (simp_all; done) | (split <;> simp_all; done)) | skip
       ·exact Eng.plain rfl rfl fun a w' H => Eng.vr rfl (Eng.run_assign rfl (H.dep 2 48 (by kernel_rfl) rfl))
      intro act65 w65 T
      have h8_65 := (T.rest 8 (by kernel_rfl)).trans h8_64
      have kg7_62_65 := (T.below.block _ lg7_62_64).trans kg7_62_64
      have lg7_62_65 := Nat.lt_of_lt_of_le lg7_62_64 T.below.size
      have Fx_65 := Eng.Reads.below Fx_64 T.below
      have h9_65 : act65.eval (.tmp 9) = .bool q48 := T.done 3 9 rfl rfl
      have d65 := T.defers.trans d64
      have s65 := T.size.trans s64
      have bl65 := bl64.trans (T.below.mono bl64.size)
      clear T
      refine Eng.tail_nil ?_
      first | show Code.wp Tryz.prog _ _ _ _ | skip
      refine wp_seq ?_
      refine (wpIn_wide (n := 1)).1 ?_
      refine EngI.regionT (n := 26) rfl ?_
      refine EngI.tail_val EngI.free_wide rfl rfl rfl rfl (Eng.run_move rfl h8_65) s65 rfl fun act66 d66 s66 hv hr => ?_
      have h8_66 := (hr 8 rfl).trans h8_65
      have h9_66 := (hr 9 rfl).trans h9_65
      have h49_66 : act66.eval (.tmp 49) = .func (.func 13) #[] #[.pointer (some ⟨g7_62, 0, none⟩)] := hv
      have d66 := d66.trans d65
      clear hv hr
      have Fn_68 : Eng.Reads w65 cv (Evt.nodeL l).length 5 (Evt.cells (Evt.nodeL l)) := by rw [HCV.out]; exact Evt.cut_reads (a := 1) (b := l.length - 1) Fx_65 (by omega) (by omega)
      refine EngG.tail_callv EngI.free_wide Tryz.func13 (by kernel_rfl) (by kernel_rfl) rfl (Eng.wanted_none rfl) rfl rfl h49_66 #[.int .i64 2, .int .i64 1] (by simp only [List.map_toArray, List.map_cons, List.map_nil]; rfl) s66 rfl (R := fun v w' => w'.ownsRow w65.heap.size 29 5 v (Evt.wrapL 2 1 (Evt.nodeL l)).length (Evt.cells (Evt.wrapL 2 1 (Evt.nodeL l))) ∧ Below w65.heap.size w65 w') ((Evt.wrap_calls g7_62 cv (Evt.nodeL l) 2 1 _ kg7_62_65 Fn_68 (by decide) (by decide) (by decide) (by rw [Evt.node_len]; omega)).mono ?_) fun v_67 w67 act67 R d67 s67 hv hr => ?_
      ·rintro e w1 ⟨o, rfl, r⟩; exact ⟨o, rfl, r⟩
      obtain ⟨O_67, b_67⟩ := R
      have h8_67 := (hr 8 rfl).trans h8_66
      have h9_67 := (hr 9 rfl).trans h9_66
      have h50_67 : act67.eval (.tmp 50) = v_67 := hv
      have d67 := d67.trans d66
      clear hv hr
      have kg7_62_67 := (b_67.block _ lg7_62_65).trans kg7_62_65
      have lg7_62_67 := Nat.lt_of_lt_of_le lg7_62_65 b_67.size
      have Fx_67 := Eng.Reads.below Fx_65 b_67
      have bl67 := bl65.trans (b_67.mono bl65.size)
      have F_67 := Eng.Reads.of_own O_67
      obtain ⟨q51, Bq51⟩ : ∃ b : Bool, b = (decide ((Evt.depths l).2 < 40)) := ⟨_, rfl⟩
      refine EngI.tail_call EngI.free_wide Tryz.func12 (by kernel_rfl) (by kernel_rfl) rfl rfl rfl rfl #[v_67] (by have e0 : act67.eval (.tmp 50) = v_67 := h50_67; simp only [List.map_toArray, List.map_cons, List.map_nil, e0]) s67 rfl (R := fun v w_ => v = .bool (decide ((Evt.depths l).2 < 40)) ∧ Below w67.heap.size w67 w_) ((Evt.right_as (Evt.wr_21 hN la.1) v_67 _ (Tabs.below (Tabs.below hT bl67) (Below.refl _ _)) F_67 (Evt.wrap_txt la.2) (Evt.wrap_short (by decide) la.1)).mono ?_) fun v_69 w69 act69 R d69 s69 hv hr => ?_
      ·rintro e w_ ⟨rfl, hb⟩; exact ⟨_, rfl, rfl, hb⟩
      obtain ⟨ev_69, b_69⟩ := R
      have h8_69 := (hr 8 rfl).trans h8_67
      have h9_69 := (hr 9 rfl).trans h9_67
      have h51_69 : act69.eval (.tmp 51) = .bool q51 := (hv.trans ev_69).trans (congrArg Value.bool Bq51.symm)
      have d69 := d69.trans d67
      clear hv hr
      have kg7_62_69 := (b_69.block _ lg7_62_67).trans kg7_62_67
      have lg7_62_69 := Nat.lt_of_lt_of_le lg7_62_67 b_69.size
      have Fx_69 := Eng.Reads.below Fx_67 b_69
      have bl69 := bl67.trans (b_69.mono bl67.size)
      refine EngI.tail_val EngI.free_wide rfl rfl rfl rfl (Eng.run_move rfl h9_69) s69 rfl fun act70 d70 s70 hv hr => ?_
      have h8_70 := (hr 8 rfl).trans h8_69
      have h9_70 := (hr 9 rfl).trans h9_69
      have h51_70 := (hr 51 rfl).trans h51_69
      have h52_70 : act70.eval (.tmp 52) = .bool q48 := hv
      have d70 := d70.trans d69
      clear hv hr
      refine EngI.tail_val (w1 := w69) (v := .bool (q51 == q48)) EngI.free_wide rfl rfl rfl rfl ?_ s70 rfl ?_
      ·have e0 : act70.eval (.tmp 51) = .bool q51 := h51_70
       have e1 : act70.eval (.tmp 52) = .bool q48 := h52_70
       simp only [execOp, resolve, List.map_toArray, List.map_cons, List.map_nil, e0, e1]
       go_simp
       all_goals first | rfl | (simp; done) | (rw [Bool.eq_iff_iff]; simp; done) | omega | (split <;> first | (simp_all; done) | (split <;> simp_all; done)) | skip
      intro act71 d71 s71 hv hr
      have h8_71 := (hr 8 rfl).trans h8_70
      have h9_71 := (hr 9 rfl).trans h9_70
      have h53_71 : act71.eval (.tmp 53) = .bool true := hv.trans (congrArg Value.bool ((by rw [Bq51, Bq48]; exact beq_self_eq_true _) : _ = true))
      have d71 := d71.trans d70
      clear hv hr
      refine EngI.tail_val EngI.free_wide rfl rfl rfl rfl (Eng.run_move rfl h53_71) s71 rfl fun act72 d72 s72 hv hr => ?_
      have h8_72 := (hr 8 rfl).trans h8_71
      have h9_72 := (hr 9 rfl).trans h9_71
      have h54_72 : act72.eval (.tmp 54) = .bool true := hv
      have d72 := d72.trans d71
      clear hv hr
      refine EngG.tail_val EngI.free_wide rfl (EngG.wanted_on (want := true) rfl rfl rfl (by rw [s72]; decide) h54_72) rfl rfl (Eng.run_move rfl h8_72) s72 rfl fun act73 d73 s73 hv hr => ?_
      have h8_73 := (hr 8 rfl).trans h8_72
      have h9_73 := (hr 9 rfl).trans h9_72
      have h54_73 := (hr 54 rfl).trans h54_72
      have h55_73 : act73.eval (.tmp 55) = .func (.func 13) #[] #[.pointer (some ⟨g7_62, 0, none⟩)] := hv
      have d73 := d73.trans d72
      clear hv hr
      have Fn_75 : Eng.Reads w69 cv (Evt.nodeL l).length 5 (Evt.cells (Evt.nodeL l)) := by rw [HCV.out]; exact Evt.cut_reads (a := 1) (b := l.length - 1) Fx_69 (by omega) (by omega)
      refine EngG.tail_callv EngI.free_wide Tryz.func13 (by kernel_rfl) (by kernel_rfl) rfl (EngG.wanted_on (want := true) rfl rfl rfl (by rw [s73]; decide) h54_73) rfl rfl h55_73 #[.int .i64 4, .int .i64 2] (by simp only [List.map_toArray, List.map_cons, List.map_nil]; rfl) s73 rfl (R := fun v w' => w'.ownsRow w69.heap.size 29 5 v (Evt.wrapL 4 2 (Evt.nodeL l)).length (Evt.cells (Evt.wrapL 4 2 (Evt.nodeL l))) ∧ Below w69.heap.size w69 w') ((Evt.wrap_calls g7_62 cv (Evt.nodeL l) 4 2 _ kg7_62_69 Fn_75 (by decide) (by decide) (by decide) (by rw [Evt.node_len]; omega)).mono ?_) fun v_74 w74 act74 R d74 s74 hv hr => ?_
      ·rintro e w1 ⟨o, rfl, r⟩; exact ⟨o, rfl, r⟩
      obtain ⟨O_74, b_74⟩ := R
      have h8_74 := (hr 8 rfl).trans h8_73
      have h9_74 := (hr 9 rfl).trans h9_73
      have h54_74 := (hr 54 rfl).trans h54_73
      have h56_74 : act74.eval (.tmp 56) = v_74 := hv
      have d74 := d74.trans d73
      clear hv hr
      have kg7_62_74 := (b_74.block _ lg7_62_69).trans kg7_62_69
      have lg7_62_74 := Nat.lt_of_lt_of_le lg7_62_69 b_74.size
      have Fx_74 := Eng.Reads.below Fx_69 b_74
      have bl74 := bl69.trans (b_74.mono bl69.size)
      have F_74 := Eng.Reads.of_own O_74
      obtain ⟨q57, Bq57⟩ : ∃ b : Bool, b = (decide ((Evt.depths l).2 < 40)) := ⟨_, rfl⟩
      refine EngG.tail_call EngI.free_wide Tryz.func12 (by kernel_rfl) (by kernel_rfl) rfl (EngG.wanted_on (want := true) rfl rfl rfl (by rw [s74]; decide) h54_74) rfl rfl #[v_74] (by have e0 : act74.eval (.tmp 56) = v_74 := h56_74; simp only [List.map_toArray, List.map_cons, List.map_nil, e0]) s74 rfl (R := fun v w_ => v = .bool (decide ((Evt.depths l).2 < 40)) ∧ Below w74.heap.size w74 w_) ((Evt.right_as (Evt.wr_42 hN la.1) v_74 _ (Tabs.below (Tabs.below hT bl74) (Below.refl _ _)) F_74 (Evt.wrap_txt la.2) (Evt.wrap_short (by decide) la.1)).mono ?_) fun v_76 w76 act76 R d76 s76 hv hr => ?_
      ·rintro e w_ ⟨rfl, hb⟩; exact ⟨_, rfl, rfl, hb⟩
      obtain ⟨ev_76, b_76⟩ := R
      have h8_76 := (hr 8 rfl).trans h8_74
      have h9_76 := (hr 9 rfl).trans h9_74
      have h54_76 := (hr 54 rfl).trans h54_74
      have h57_76 : act76.eval (.tmp 57) = .bool q57 := (hv.trans ev_76).trans (congrArg Value.bool Bq57.symm)
      have d76 := d76.trans d74
      clear hv hr
      have kg7_62_76 := (b_76.block _ lg7_62_74).trans kg7_62_74
      have lg7_62_76 := Nat.lt_of_lt_of_le lg7_62_74 b_76.size
      have Fx_76 := Eng.Reads.below Fx_74 b_76
      have bl76 := bl74.trans (b_76.mono bl74.size)
      refine EngG.tail_val EngI.free_wide rfl (EngG.wanted_on (want := true) rfl rfl rfl (by rw [s76]; decide) h54_76) rfl rfl (Eng.run_move rfl h9_76) s76 rfl fun act77 d77 s77 hv hr => ?_
      have h8_77 := (hr 8 rfl).trans h8_76
      have h9_77 := (hr 9 rfl).trans h9_76
      have h54_77 := (hr 54 rfl).trans h54_76
      have h57_77 := (hr 57 rfl).trans h57_76
      have h58_77 : act77.eval (.tmp 58) = .bool q48 := hv
      have d77 := d77.trans d76
      clear hv hr
      refine EngG.tail_val (w1 := w76) (v := .bool (q57 == q48)) EngI.free_wide rfl (EngG.wanted_on (want := true) rfl rfl rfl (by rw [s77]; decide) h54_77) rfl rfl ?_ s77 rfl ?_
      ·have e0 : act77.eval (.tmp 57) = .bool q57 := h57_77
       have e1 : act77.eval (.tmp 58) = .bool q48 := h58_77
       simp only [execOp, resolve, List.map_toArray, List.map_cons, List.map_nil, e0, e1]
       go_simp
       all_goals first | rfl | (simp; done) | (rw [Bool.eq_iff_iff]; simp; done) | omega | (split <;> first | (simp_all; done) | (split <;> simp_all; done)) | skip
      intro act78 d78 s78 hv hr
      have h8_78 := (hr 8 rfl).trans h8_77
      have h9_78 := (hr 9 rfl).trans h9_77
      have h54_78 := (hr 54 rfl).trans h54_77
      have h59_78 : act78.eval (.tmp 59) = .bool true := hv.trans (congrArg Value.bool ((by rw [Bq57, Bq48]; exact beq_self_eq_true _) : _ = true))
      have d78 := d78.trans d77
      clear hv hr
      refine EngI.tail_val EngI.free_wide rfl rfl rfl rfl (Eng.run_pick rfl h54_78 (v := .bool true) (by exact h59_78)) s78 rfl fun act79 d79 s79 hv hr => ?_
      have h8_79 := (hr 8 rfl).trans h8_78
      have h9_79 := (hr 9 rfl).trans h9_78
      have h60_79 : act79.eval (.tmp 60) = .bool true := hv
      have d79 := d79.trans d78
      clear hv hr
      refine EngI.tail_val EngI.free_wide rfl rfl rfl rfl (Eng.run_move rfl h60_79) s79 rfl fun act80 d80 s80 hv hr => ?_
      have h8_80 := (hr 8 rfl).trans h8_79
      have h9_80 := (hr 9 rfl).trans h9_79
      have h61_80 : act80.eval (.tmp 61) = .bool true := hv
      have d80 := d80.trans d79
      clear hv hr
      refine EngG.tail_val EngI.free_wide rfl (EngG.wanted_on (want := true) rfl rfl rfl (by rw [s80]; decide) h61_80) rfl rfl (Eng.run_move rfl h8_80) s80 rfl fun act81 d81 s81 hv hr => ?_
      have h8_81 := (hr 8 rfl).trans h8_80
      have h9_81 := (hr 9 rfl).trans h9_80
      have h61_81 := (hr 61 rfl).trans h61_80
      have h62_81 : act81.eval (.tmp 62) = .func (.func 13) #[] #[.pointer (some ⟨g7_62, 0, none⟩)] := hv
      have d81 := d81.trans d80
      clear hv hr
      have Fn_83 : Eng.Reads w76 cv (Evt.nodeL l).length 5 (Evt.cells (Evt.nodeL l)) := by rw [HCV.out]; exact Evt.cut_reads (a := 1) (b := l.length - 1) Fx_76 (by omega) (by omega)
      refine EngG.tail_callv EngI.free_wide Tryz.func13 (by kernel_rfl) (by kernel_rfl) rfl (EngG.wanted_on (want := true) rfl rfl rfl (by rw [s81]; decide) h61_81) rfl rfl h62_81 #[.int .i64 4, .int .i64 1] (by simp only [List.map_toArray, List.map_cons, List.map_nil]; rfl) s81 rfl (R := fun v w' => w'.ownsRow w76.heap.size 29 5 v (Evt.wrapL 4 1 (Evt.nodeL l)).length (Evt.cells (Evt.wrapL 4 1 (Evt.nodeL l))) ∧ Below w76.heap.size w76 w') ((Evt.wrap_calls g7_62 cv (Evt.nodeL l) 4 1 _ kg7_62_76 Fn_83 (by decide) (by decide) (by decide) (by rw [Evt.node_len]; omega)).mono ?_) fun v_82 w82 act82 R d82 s82 hv hr => ?_
      ·rintro e w1 ⟨o, rfl, r⟩; exact ⟨o, rfl, r⟩
      obtain ⟨O_82, b_82⟩ := R
      have h8_82 := (hr 8 rfl).trans h8_81
      have h9_82 := (hr 9 rfl).trans h9_81
      have h61_82 := (hr 61 rfl).trans h61_81
      have h63_82 : act82.eval (.tmp 63) = v_82 := hv
      have d82 := d82.trans d81
      clear hv hr
      have kg7_62_82 := (b_82.block _ lg7_62_76).trans kg7_62_76
      have lg7_62_82 := Nat.lt_of_lt_of_le lg7_62_76 b_82.size
      have Fx_82 := Eng.Reads.below Fx_76 b_82
      have bl82 := bl76.trans (b_82.mono bl76.size)
      have F_82 := Eng.Reads.of_own O_82
      refine EngG.tail_call EngI.free_wide Tryz.func12 (by kernel_rfl) (by kernel_rfl) rfl (EngG.wanted_on (want := true) rfl rfl rfl (by rw [s82]; decide) h61_82) rfl rfl #[v_82] (by have e0 : act82.eval (.tmp 63) = v_82 := h63_82; simp only [List.map_toArray, List.map_cons, List.map_nil, e0]) s82 rfl (R := fun v w_ => v = .bool false ∧ Below w82.heap.size w82 w_) ((Evt.right_as (Evt.wr_41 hN la.1) v_82 _ (Tabs.below (Tabs.below hT bl82) (Below.refl _ _)) F_82 (Evt.wrap_txt la.2) (Evt.wrap_short (by decide) la.1)).mono ?_) fun v_84 w84 act84 R d84 s84 hv hr => ?_
      ·rintro e w_ ⟨rfl, hb⟩; exact ⟨_, rfl, rfl, hb⟩
      obtain ⟨ev_84, b_84⟩ := R
      have h8_84 := (hr 8 rfl).trans h8_82
      have h9_84 := (hr 9 rfl).trans h9_82
      have h61_84 := (hr 61 rfl).trans h61_82
      have h64_84 : act84.eval (.tmp 64) = .bool false := (hv.trans ev_84)
      have d84 := d84.trans d82
      clear hv hr
      have kg7_62_84 := (b_84.block _ lg7_62_82).trans kg7_62_82
      have Fx_84 := Eng.Reads.below Fx_82 b_84
      have bl84 := bl82.trans (b_84.mono bl82.size)
      refine EngG.tail_val EngI.free_wide rfl (EngG.wanted_on (want := true) rfl rfl rfl (by rw [s84]; decide) h61_84) rfl rfl (Eng.run_not rfl h64_84) s84 rfl fun act85 d85 s85 hv hr => ?_
      have h8_85 := (hr 8 rfl).trans h8_84
      have h9_85 := (hr 9 rfl).trans h9_84
      have h61_85 := (hr 61 rfl).trans h61_84
      have h65_85 : act85.eval (.tmp 65) = .bool true := hv
      have d85 := d85.trans d84
      clear hv hr
      refine EngI.tail_val EngI.free_wide rfl rfl rfl rfl (Eng.run_pick rfl h61_85 (v := .bool true) (by exact h65_85)) s85 rfl fun act86 d86 s86 hv hr => ?_
      have h8_86 := (hr 8 rfl).trans h8_85
      have h9_86 := (hr 9 rfl).trans h9_85
      have h66_86 : act86.eval (.tmp 66) = .bool true := hv
      have d86 := d86.trans d85
      clear hv hr
      refine EngI.tail_val EngI.free_wide rfl rfl rfl rfl (Eng.run_move rfl h66_86) s86 rfl fun act87 d87 s87 hv hr => ?_
      have h8_87 := (hr 8 rfl).trans h8_86
      have h9_87 := (hr 9 rfl).trans h9_86
      have h67_87 : act87.eval (.tmp 67) = .bool true := hv
      have d87 := d87.trans d86
      clear hv hr
      refine EngG.tail_val EngI.free_wide rfl (EngG.wanted_on (want := true) rfl rfl rfl (by rw [s87]; decide) h67_87) rfl rfl (Eng.run_move rfl h8_87) s87 rfl fun act88 d88 s88 hv hr => ?_
      have h9_88 := (hr 9 rfl).trans h9_87
      have h67_88 := (hr 67 rfl).trans h67_87
      have h68_88 : act88.eval (.tmp 68) = .func (.func 13) #[] #[.pointer (some ⟨g7_62, 0, none⟩)] := hv
      have d88 := d88.trans d87
      clear hv hr
      have Fn_90 : Eng.Reads w84 cv (Evt.nodeL l).length 5 (Evt.cells (Evt.nodeL l)) := by rw [HCV.out]; exact Evt.cut_reads (a := 1) (b := l.length - 1) Fx_84 (by omega) (by omega)
      refine EngG.tail_callv EngI.free_wide Tryz.func13 (by kernel_rfl) (by kernel_rfl) rfl (EngG.wanted_on (want := true) rfl rfl rfl (by rw [s88]; decide) h67_88) rfl rfl h68_88 #[.int .i64 2, .int .i64 3] (by simp only [List.map_toArray, List.map_cons, List.map_nil]; rfl) s88 rfl (R := fun v w' => w'.ownsRow w84.heap.size 29 5 v (Evt.wrapL 2 3 (Evt.nodeL l)).length (Evt.cells (Evt.wrapL 2 3 (Evt.nodeL l))) ∧ Below w84.heap.size w84 w') ((Evt.wrap_calls g7_62 cv (Evt.nodeL l) 2 3 _ kg7_62_84 Fn_90 (by decide) (by decide) (by decide) (by rw [Evt.node_len]; omega)).mono ?_) fun v_89 w89 act89 R d89 s89 hv hr => ?_
      ·rintro e w1 ⟨o, rfl, r⟩; exact ⟨o, rfl, r⟩
      obtain ⟨O_89, b_89⟩ := R
      have h9_89 := (hr 9 rfl).trans h9_88
      have h67_89 := (hr 67 rfl).trans h67_88
      have h69_89 : act89.eval (.tmp 69) = v_89 := hv
      have d89 := d89.trans d88
      clear hv hr
      have bl89 := bl84.trans (b_89.mono bl84.size)
      have F_89 := Eng.Reads.of_own O_89
      obtain ⟨q70, Bq70⟩ : ∃ b : Bool, b = (decide ((Evt.depths l).2 < 40)) := ⟨_, rfl⟩
      refine EngG.tail_call EngI.free_wide Tryz.func12 (by kernel_rfl) (by kernel_rfl) rfl (EngG.wanted_on (want := true) rfl rfl rfl (by rw [s89]; decide) h67_89) rfl rfl #[v_89] (by have e0 : act89.eval (.tmp 69) = v_89 := h69_89; simp only [List.map_toArray, List.map_cons, List.map_nil, e0]) s89 rfl (R := fun v w_ => v = .bool (decide ((Evt.depths l).2 < 40)) ∧ Below w89.heap.size w89 w_) ((Evt.right_as (Evt.wr_23 hN la.1) v_89 _ (Tabs.below (Tabs.below hT bl89) (Below.refl _ _)) F_89 (Evt.wrap_txt la.2) (Evt.wrap_short (by decide) la.1)).mono ?_) fun v_91 w91 act91 R d91 s91 hv hr => ?_
      ·rintro e w_ ⟨rfl, hb⟩; exact ⟨_, rfl, rfl, hb⟩
      obtain ⟨ev_91, b_91⟩ := R
      have h9_91 := (hr 9 rfl).trans h9_89
      have h67_91 := (hr 67 rfl).trans h67_89
      have h70_91 : act91.eval (.tmp 70) = .bool q70 := (hv.trans ev_91).trans (congrArg Value.bool Bq70.symm)
      have d91 := d91.trans d89
      clear hv hr
      have bl91 := bl89.trans (b_91.mono bl89.size)
      refine EngG.tail_val EngI.free_wide rfl (EngG.wanted_on (want := true) rfl rfl rfl (by rw [s91]; decide) h67_91) rfl rfl (Eng.run_move rfl h9_91) s91 rfl fun act92 d92 s92 hv hr => ?_
      have h67_92 := (hr 67 rfl).trans h67_91
      have h70_92 := (hr 70 rfl).trans h70_91
      have h71_92 : act92.eval (.tmp 71) = .bool q48 := hv
      have d92 := d92.trans d91
      clear hv hr
      refine EngG.tail_val (w1 := w91) (v := .bool (q70 == q48)) EngI.free_wide rfl (EngG.wanted_on (want := true) rfl rfl rfl (by rw [s92]; decide) h67_92) rfl rfl ?_ s92 rfl ?_
      ·have e0 : act92.eval (.tmp 70) = .bool q70 := h70_92
       have e1 : act92.eval (.tmp 71) = .bool q48 := h71_92
       simp only [execOp, resolve, List.map_toArray, List.map_cons, List.map_nil, e0, e1]
       go_simp
       all_goals first | rfl | (simp; done) | (rw [Bool.eq_iff_iff]; simp; done) | omega | (split <;> first | (simp_all; done) | (split <;> simp_all; done)) | skip
      intro act93 d93 s93 hv hr
      have h67_93 := (hr 67 rfl).trans h67_92
      have h72_93 : act93.eval (.tmp 72) = .bool true := hv.trans (congrArg Value.bool ((by rw [Bq70, Bq48]; exact beq_self_eq_true _) : _ = true))
      have d93 := d93.trans d92
      clear hv hr
      refine EngI.tail_val EngI.free_wide rfl rfl rfl rfl (Eng.run_pick rfl h67_93 (v := .bool true) (by exact h72_93)) s93 rfl fun act94 d94 s94 hv hr => ?_
      have h73_94 : act94.eval (.tmp 73) = .bool true := hv
      have d94 := d94.trans d93
      clear hv hr
      refine EngI.tail_val EngI.free_wide rfl rfl rfl rfl (Eng.run_assign rfl h73_94) s94 rfl fun act95 d95 s95 hv hr => ?_
      have h2_95 : act95.eval (.tmp 2) = .bool true := hv
      have d95 := d95.trans d94
      clear hv hr
      refine EngI.tail_nil ?_
      first | show Code.wp Tryz.prog _ _ _ _ | skip
      refine wp_ret ?_
      repeat (first | with_reducible refine Eng.in_ret ?_ | with_reducible refine Eng.then_ret ?_)
      exact Eng.ret1 rfl d95 h2_95 ⟨rfl, bl91⟩
end Go.Proofs.YtgnmjaacnmkgnaaGreatDoor.X
