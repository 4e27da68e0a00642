/- Words and walks that the row of ComposeParts needs: printed by programs, and plain laws. -/
import Derived.Test.YtgnmjaacnmkgnaaDoorM16
import Derived.Test.YtgnmjaacnmkgnaaDoorM3
import Derived.Test.YtgnmjaacnmkgnaaDoorM17
import Derived.Test.YtgnmjaacnmkgnaaDoorM18
namespace Go.Proofs.YtgnmjaacnmkgnaaDoorW.PrintWords
end Go.Proofs.YtgnmjaacnmkgnaaDoorW.PrintWords
namespace Go.Proofs.YtgnmjaacnmkgnaaDoorW.PrintLast
end Go.Proofs.YtgnmjaacnmkgnaaDoorW.PrintLast
namespace Go.Proofs.YtgnmjaacnmkgnaaDoorW.PrintMore
end Go.Proofs.YtgnmjaacnmkgnaaDoorW.PrintMore
namespace Go.Proofs.YtgnmjaacnmkgnaaDoor.X
open Go.RowKit Go.Shelf Go.Proofs Go.Proofs.YtgnmjaacnmkgnaaDoorW.PrintWords Go.Proofs.YtgnmjaacnmkgnaaDoorW.PrintLast Go.Proofs.YtgnmjaacnmkgnaaDoorW.PrintMore
set_option linter.unusedVariables false
set_option linter.unusedSimpArgs false
attribute [local go_sem] max2_int min2_int max_two min_two
set_option maxHeartbeats 4000000 in
set_option maxRecDepth 100000 in
theorem Dc.parts_walk (va vb : Value) (xa xb : List Evt.Ev) (w : World) (hT : Tabs.Holds w) (hA : Eng.Reads w va xa.length 5 (Evt.cells xa)) (hB_ : Eng.Reads w vb xb.length 5 (Evt.cells xb)) (hlxa : xa.length ≤ 2199023255488) (hlxb : xb.length ≤ 2199023255488) : Calls Tryd.prog 5 #[va, vb] w fun e w' => e = .returned (.bool true) ∧ Below w.heap.size w w' := by
 refine Eng.enter Tryd.func5 rfl fun act0 d0 s0 v0 => ?_
 have s0 : act0.tmps.size = 77 := s0
 have h0_0 : act0.eval (.tmp 0) = va := v0 0 (by simp)
 have h1_0 : act0.eval (.tmp 1) = vb := v0 1 (by simp)
 clear v0
 have bl0 : Below w.heap.size w w := Below.refl _ _
 refine wp_seq ?_
 refine Eng.regionS (Eng.still [fun u_ => u_ = .bool false]) (fun _ => .plain) 1 0 77 s0 rfl (by kernel_rfl) (Eng.still_stable _) (Or.inr (Eng.still_any _)) ?_ ?_
 ·refine .c ?_ (.nil)
  ·exact Eng.pv fun a w' H => Eng.vr rfl (Eng.run_assign rfl (rfl : a.eval (.const (.bool false)) = .bool false))
 intro act1 w1 T
 have h0_1 := T.r 0 h0_0
 have h1_1 := T.r 1 h1_0
 have Fla_1 := Eng.Reads.below hA T.below
 have Flb_1 := Eng.Reads.below hB_ T.below
 have d1 := T.defers.trans d0
 have s1 := T.size.trans s0
 have bl1 := bl0.trans (T.below.mono bl0.size)
 clear T
 refine Eng.tail_nil ?_
 refine wp_seq ?_
 refine wp_seq ?_
 obtain ⟨q14, Bq14⟩ : ∃ b : Bool, b = (!true) := ⟨_, rfl⟩
 refine Eng.regionS (Eng.still [fun u_ => u_ = .bool true, fun u_ => u_ = .bool q14]) (fun _ => .plain) 2 0 77 s1 rfl (by kernel_rfl) (Eng.still_stable _) (Or.inr (Eng.still_any _)) ?_ ?_
 ·refine .c ?_ (.c ?_ (.nil))
  ·refine Eng.pv fun a w' H => ?_
   refine Eng.call Tryd.func8 (by kernel_rfl) (by kernel_rfl) rfl #[] ?_ ?_
   ·simp
   refine (Dal.alive_calls _ (Tabs.below (Tabs.below hT bl1) H.below)).mono ?_
   rintro e w'' ⟨rfl, hb⟩
   exact ⟨_, rfl, (by show _ = Value.bool true; rw [show (true) = true from rfl]), hb⟩
  ·exact Eng.pv fun a w' H => Eng.vr (v := .bool (!true)) (by show _ = Value.bool q14; rw [Bq14]) (Eng.run_not rfl (H.d 0 13))
 intro act2 w2 T
 have h0_2 := T.r 0 h0_1
 have h1_2 := T.r 1 h1_1
 have Fla_2 := Eng.Reads.below Fla_1 T.below
 have Flb_2 := Eng.Reads.below Flb_1 T.below
 have h14_2 : act2.eval (.tmp 14) = .bool q14 := T.done 1 14 rfl rfl
 have d2 := T.defers.trans d1
 have s2 := T.size.trans s1
 have bl2 := bl1.trans (T.below.mono bl1.size)
 clear T
 refine Eng.tail_nil ?_
 have n14 : q14 = false := by
  try simp only [Bq14]
  first | done | rfl
 refine wp_cond_false (h14_2.trans (by rw [n14])) ?_
 refine wp_skip ?_
 refine wp_seq ?_
 refine (wpIn_wide (n := 1)).1 ?_
 refine EngI.regionT (n := 6) rfl ?_
 refine EngI.tail_val EngI.free_wide rfl rfl rfl rfl (Eng.run_move rfl h0_2) s2 rfl fun act3 d3 s3 hv hr => ?_
 have h0_3 := (hr 0 rfl).trans h0_2
 have h1_3 := (hr 1 rfl).trans h1_2
 have h15_3 : act3.eval (.tmp 15) = va := hv
 have d3 := d3.trans d2
 clear hv hr
 refine EngI.tail_call EngI.free_wide Tryd.func13 (by kernel_rfl) (by kernel_rfl) rfl rfl rfl rfl #[va] (by have e0 : act3.eval (.tmp 15) = va := h15_3; simp only [List.map_toArray, List.map_cons, List.map_nil, e0]) s3 rfl (R := fun v w' => w'.ownsRow w2.heap.size 30 5 v xa.length (Evt.cells xa) ∧ Below w2.heap.size w2 w') ((Evt.theirs_calls va xa _ Fla_2 hlxa).mono ?_) fun v_4 w4 act4 R d4 s4 hv hr => ?_
 ·rintro e w1 ⟨o, rfl, r⟩; exact ⟨_, rfl, r⟩
 have h0_4 := (hr 0 rfl).trans h0_3
 have h1_4 := (hr 1 rfl).trans h1_3
 have h16_4 : act4.eval (.tmp 16) = v_4 := hv
 have d4 := d4.trans d3
 clear hv hr
 obtain ⟨O_4, b_4⟩ := R
 have Fla_4 := Eng.Reads.below Fla_2 b_4
 have Flb_4 := Eng.Reads.below Flb_2 b_4
 have bl4 := bl2.trans (b_4.mono bl2.size)
 have Ox_4 := Eng.own_mono O_4 bl2.size
 have Fx_4 := Eng.Reads.of_own Ox_4
 refine EngI.tail_val EngI.free_wide rfl rfl rfl rfl (Eng.run_move rfl h1_4) s4 rfl fun act5 d5 s5 hv hr => ?_
 have h0_5 := (hr 0 rfl).trans h0_4
 have h1_5 := (hr 1 rfl).trans h1_4
 have h16_5 := (hr 16 rfl).trans h16_4
 have h17_5 : act5.eval (.tmp 17) = vb := hv
 have d5 := d5.trans d4
 clear hv hr
 refine EngI.tail_call EngI.free_wide Tryd.func13 (by kernel_rfl) (by kernel_rfl) rfl rfl rfl rfl #[vb] (by have e0 : act5.eval (.tmp 17) = vb := h17_5; simp only [List.map_toArray, List.map_cons, List.map_nil, e0]) s5 rfl (R := fun v w' => w'.ownsRow w4.heap.size 30 5 v xb.length (Evt.cells xb) ∧ Below w4.heap.size w4 w') ((Evt.theirs_calls vb xb _ Flb_4 hlxb).mono ?_) fun v_6 w6 act6 R d6 s6 hv hr => ?_
 ·rintro e w1 ⟨o, rfl, r⟩; exact ⟨_, rfl, r⟩
 have h0_6 := (hr 0 rfl).trans h0_5
 have h1_6 := (hr 1 rfl).trans h1_5
 have h16_6 := (hr 16 rfl).trans h16_5
 have h18_6 : act6.eval (.tmp 18) = v_6 := hv
 have d6 := d6.trans d5
 clear hv hr
 obtain ⟨O_6, b_6⟩ := R
 have Fla_6 := Eng.Reads.below Fla_4 b_6
 have Flb_6 := Eng.Reads.below Flb_4 b_6
 have Fx_6 := Eng.Reads.below Fx_4 b_6
 have bl6 := bl4.trans (b_6.mono bl4.size)
 have Oy_6 := Eng.own_mono O_6 bl4.size
 have Fy_6 := Eng.Reads.of_own Oy_6
 refine EngI.tail_val EngI.free_wide rfl rfl rfl rfl (Eng.run_assign rfl h16_6) s6 rfl fun act7 d7 s7 hv hr => ?_
 have h0_7 := (hr 0 rfl).trans h0_6
 have h1_7 := (hr 1 rfl).trans h1_6
 have h18_7 := (hr 18 rfl).trans h18_6
 have h5_7 : act7.eval (.tmp 5) = v_4 := hv
 have d7 := d7.trans d6
 clear hv hr
 refine EngI.tail_val EngI.free_wide rfl rfl rfl rfl (Eng.run_assign rfl h18_7) s7 rfl fun act8 d8 s8 hv hr => ?_
 have h0_8 := (hr 0 rfl).trans h0_7
 have h1_8 := (hr 1 rfl).trans h1_7
 have h5_8 := (hr 5 rfl).trans h5_7
 have h6_8 : act8.eval (.tmp 6) = v_6 := hv
 have d8 := d8.trans d7
 clear hv hr
 refine EngI.tail_nil ?_
 refine wp_seq ?_
 refine wp_seq ?_
 refine (wpIn_wide (n := 1)).1 ?_
 refine EngI.regionT (n := 16) rfl ?_
 refine EngI.tail_val EngI.free_wide rfl rfl rfl rfl (Eng.run_move rfl h0_8) s8 rfl fun act9 d9 s9 hv hr => ?_
 have h0_9 := (hr 0 rfl).trans h0_8
 have h1_9 := (hr 1 rfl).trans h1_8
 have h5_9 := (hr 5 rfl).trans h5_8
 have h6_9 := (hr 6 rfl).trans h6_8
 have h19_9 : act9.eval (.tmp 19) = va := hv
 have d9 := d9.trans d8
 clear hv hr
 obtain ⟨q20, Bq20⟩ : ∃ b : Bool, b = (Evt.heavyL xa) := ⟨_, rfl⟩
 refine EngI.tail_call EngI.free_wide Tryd.func9 (by kernel_rfl) (by kernel_rfl) rfl rfl rfl rfl #[va] (by have e0 : act9.eval (.tmp 19) = va := h19_9; simp only [List.map_toArray, List.map_cons, List.map_nil, e0]) s9 rfl (R := fun v w_ => v = .bool (Evt.heavyL xa) ∧ Below w6.heap.size w6 w_) ((Evt.heavy_calls va xa _ Fla_6).mono ?_) fun v_10 w10 act10 R d10 s10 hv hr => ?_
 ·rintro e w_ ⟨rfl, hb⟩; exact ⟨_, rfl, rfl, hb⟩
 obtain ⟨ev_10, b_10⟩ := R
 have h0_10 := (hr 0 rfl).trans h0_9
 have h1_10 := (hr 1 rfl).trans h1_9
 have h5_10 := (hr 5 rfl).trans h5_9
 have h6_10 := (hr 6 rfl).trans h6_9
 have h20_10 : act10.eval (.tmp 20) = .bool q20 := (hv.trans ev_10).trans (congrArg Value.bool Bq20.symm)
 have d10 := d10.trans d9
 clear hv hr
 have Fla_10 := Eng.Reads.below Fla_6 b_10
 have Flb_10 := Eng.Reads.below Flb_6 b_10
 have Fx_10 := Eng.Reads.below Fx_6 b_10
 have Fy_10 := Eng.Reads.below Fy_6 b_10
 have bl10 := bl6.trans (b_10.mono bl6.size)
 refine EngI.tail_val EngI.free_wide rfl rfl rfl rfl (Eng.run_move rfl h20_10) s10 rfl fun act11 d11 s11 hv hr => ?_
 have h0_11 := (hr 0 rfl).trans h0_10
 have h1_11 := (hr 1 rfl).trans h1_10
 have h5_11 := (hr 5 rfl).trans h5_10
 have h6_11 := (hr 6 rfl).trans h6_10
 have h20_11 := (hr 20 rfl).trans h20_10
 have h21_11 : act11.eval (.tmp 21) = .bool q20 := hv
 have d11 := d11.trans d10
 clear hv hr
 rcases Bool.eq_false_or_eq_true q20 with hq | hq
 ·
  have kn12 := hq
  have c21 := Bq20.symm.trans hq
  clear hq
  have h20_kn12 := h20_11.trans (congrArg Value.bool kn12)
  have h21_kn12 := h21_11.trans (congrArg Value.bool kn12)
  refine EngG.tail_off EngI.free_wide rfl (EngG.wanted_off (want := false) rfl rfl rfl (by rw [s11]; decide) h21_kn12) rfl s11 rfl fun act13 d13 s13 hr => ?_
  have h21_13 : act13.eval (.tmp 21) = .bool true := (hr 21 rfl).trans h21_kn12
  have d13 := d13.trans d11
  clear hr
  refine EngG.tail_off EngI.free_wide rfl (EngG.wanted_off (want := false) rfl rfl rfl (by rw [s13]; decide) h21_13) rfl s13 rfl fun act14 d14 s14 hr => ?_
  have h21_14 := (hr 21 rfl).trans h21_13
  have d14 := d14.trans d13
  clear hr
  refine EngI.tail_val EngI.free_wide rfl rfl rfl rfl (Eng.run_pick rfl h21_14 (v := .bool true) (by exact (rfl : act14.eval (.const (.bool true)) = .bool true))) s14 rfl fun act15 d15 s15 hv hr => ?_
  have h24_15 : act15.eval (.tmp 24) = .bool true := hv
  have d15 := d15.trans d14
  clear hv hr
  refine EngI.tail_val EngI.free_wide rfl rfl rfl rfl (Eng.run_move rfl h24_15) s15 rfl fun act16 d16 s16 hv hr => ?_
  have h25_16 : act16.eval (.tmp 25) = .bool true := hv
  have d16 := d16.trans d15
  clear hv hr
  refine EngG.tail_off EngI.free_wide rfl (EngG.wanted_off (want := false) rfl rfl rfl (by rw [s16]; decide) h25_16) rfl s16 rfl fun act17 d17 s17 hr => ?_
  have h25_17 := (hr 25 rfl).trans h25_16
  have d17 := d17.trans d16
  clear hr
  refine EngG.tail_off EngI.free_wide rfl (EngG.wanted_off (want := false) rfl rfl rfl (by rw [s17]; decide) h25_17) rfl s17 rfl fun act18 d18 s18 hr => ?_
  have h25_18 := (hr 25 rfl).trans h25_17
  have d18 := d18.trans d17
  clear hr
  refine EngG.tail_off EngI.free_wide rfl (EngG.wanted_off (want := false) rfl rfl rfl (by rw [s18]; decide) h25_18) rfl s18 rfl fun act19 d19 s19 hr => ?_
  have h25_19 := (hr 25 rfl).trans h25_18
  have d19 := d19.trans d18
  clear hr
  refine EngI.tail_val EngI.free_wide rfl rfl rfl rfl (Eng.run_pick rfl h25_19 (v := .bool true) (by exact (rfl : act19.eval (.const (.bool true)) = .bool true))) s19 rfl fun act20 d20 s20 hv hr => ?_
  have h29_20 : act20.eval (.tmp 29) = .bool true := hv
  have d20 := d20.trans d19
  clear hv hr
  refine EngI.tail_val EngI.free_wide rfl rfl rfl rfl (Eng.run_move rfl h29_20) s20 rfl fun act21 d21 s21 hv hr => ?_
  have h30_21 : act21.eval (.tmp 30) = .bool true := hv
  have d21 := d21.trans d20
  clear hv hr
  refine EngG.tail_off EngI.free_wide rfl (EngG.wanted_off (want := false) rfl rfl rfl (by rw [s21]; decide) h30_21) rfl s21 rfl fun act22 d22 s22 hr => ?_
  have h30_22 := (hr 30 rfl).trans h30_21
  have d22 := d22.trans d21
  clear hr
  refine EngG.tail_off EngI.free_wide rfl (EngG.wanted_off (want := false) rfl rfl rfl (by rw [s22]; decide) h30_22) rfl s22 rfl fun act23 d23 s23 hr => ?_
  have h30_23 := (hr 30 rfl).trans h30_22
  have d23 := d23.trans d22
  clear hr
  refine EngG.tail_off EngI.free_wide rfl (EngG.wanted_off (want := false) rfl rfl rfl (by rw [s23]; decide) h30_23) rfl s23 rfl fun act24 d24 s24 hr => ?_
  have h30_24 := (hr 30 rfl).trans h30_23
  have d24 := d24.trans d23
  clear hr
  refine EngI.tail_val EngI.free_wide rfl rfl rfl rfl (Eng.run_pick rfl h30_24 (v := .bool true) (by exact (rfl : act24.eval (.const (.bool true)) = .bool true))) s24 rfl fun act25 d25 s25 hv hr => ?_
  have h34_25 : act25.eval (.tmp 34) = .bool true := hv
  have d25 := d25.trans d24
  clear hv hr
  refine EngI.tail_nil ?_
  refine wp_cond_true h34_25 ?_
  refine wp_seq ?_
  refine Eng.regionS (Eng.still [fun u_ => u_ = .bool true]) (fun _ => .plain) 1 0 77 s25 rfl (by kernel_rfl) (Eng.still_stable _) (Or.inr (Eng.still_any _)) ?_ ?_
  ·refine .c ?_ (.nil)
   ·exact Eng.pv fun a w' H => Eng.vr rfl (Eng.run_assign rfl (rfl : a.eval (.const (.bool true)) = .bool true))
  intro act26 w26 T
  have h4_26 : act26.eval (.tmp 4) = .bool true := T.done 0 4 rfl rfl
  have d26 := T.defers.trans d25
  have bl26 := bl10.trans (T.below.mono bl10.size)
  clear T
  refine Eng.tail_nil ?_
  refine wp_ret ?_
  repeat (first | with_reducible refine Eng.in_ret ?_ | with_reducible refine Eng.then_ret ?_)
  exact Eng.ret1 rfl d26 h4_26 ⟨rfl, bl26⟩
 ·
  have kn27 := hq
  have c21 := Bq20.symm.trans hq
  clear hq
  have h20_kn27 := h20_11.trans (congrArg Value.bool kn27)
  have h21_kn27 := h21_11.trans (congrArg Value.bool kn27)
  have la_ := Evt.light_all (by simpa using c21)
  refine EngG.tail_val EngI.free_wide rfl (EngG.wanted_on (want := false) rfl rfl rfl (by rw [s11]; decide) h21_kn27) rfl rfl (Eng.run_move rfl h1_11) s11 rfl fun act28 d28 s28 hv hr => ?_
  have h0_28 := (hr 0 rfl).trans h0_11
  have h5_28 := (hr 5 rfl).trans h5_11
  have h6_28 := (hr 6 rfl).trans h6_11
  have h21_28 : act28.eval (.tmp 21) = .bool false := (hr 21 rfl).trans h21_kn27
  have h22_28 : act28.eval (.tmp 22) = vb := hv
  have d28 := d28.trans d11
  clear hv hr
  obtain ⟨q23, Bq23⟩ : ∃ b : Bool, b = (Evt.heavyL xb) := ⟨_, rfl⟩
  refine EngG.tail_call EngI.free_wide Tryd.func9 (by kernel_rfl) (by kernel_rfl) rfl (EngG.wanted_on (want := false) rfl rfl rfl (by rw [s28]; decide) h21_28) rfl rfl #[vb] (by have e0 : act28.eval (.tmp 22) = vb := h22_28; simp only [List.map_toArray, List.map_cons, List.map_nil, e0]) s28 rfl (R := fun v w_ => v = .bool (Evt.heavyL xb) ∧ Below w10.heap.size w10 w_) ((Evt.heavy_calls vb xb _ Flb_10).mono ?_) fun v_29 w29 act29 R d29 s29 hv hr => ?_
  ·rintro e w_ ⟨rfl, hb⟩; exact ⟨_, rfl, rfl, hb⟩
  obtain ⟨ev_29, b_29⟩ := R
  have h0_29 := (hr 0 rfl).trans h0_28
  have h5_29 := (hr 5 rfl).trans h5_28
  have h6_29 := (hr 6 rfl).trans h6_28
  have h21_29 := (hr 21 rfl).trans h21_28
  have h23_29 : act29.eval (.tmp 23) = .bool q23 := (hv.trans ev_29).trans (congrArg Value.bool Bq23.symm)
  have d29 := d29.trans d28
  clear hv hr
  have Fla_29 := Eng.Reads.below Fla_10 b_29
  have Fx_29 := Eng.Reads.below Fx_10 b_29
  have Fy_29 := Eng.Reads.below Fy_10 b_29
  have bl29 := bl10.trans (b_29.mono bl10.size)
  refine EngI.tail_val EngI.free_wide rfl rfl rfl rfl (Eng.run_pick rfl h21_29 (v := .bool q23) (by exact h23_29)) s29 rfl fun act30 d30 s30 hv hr => ?_
  have h0_30 := (hr 0 rfl).trans h0_29
  have h5_30 := (hr 5 rfl).trans h5_29
  have h6_30 := (hr 6 rfl).trans h6_29
  have h23_30 := (hr 23 rfl).trans h23_29
  have h24_30 : act30.eval (.tmp 24) = .bool q23 := hv
  have d30 := d30.trans d29
  clear hv hr
  refine EngI.tail_val EngI.free_wide rfl rfl rfl rfl (Eng.run_move rfl h24_30) s30 rfl fun act31 d31 s31 hv hr => ?_
  have h0_31 := (hr 0 rfl).trans h0_30
  have h5_31 := (hr 5 rfl).trans h5_30
  have h6_31 := (hr 6 rfl).trans h6_30
  have h23_31 := (hr 23 rfl).trans h23_30
  have h24_31 := (hr 24 rfl).trans h24_30
  have h25_31 : act31.eval (.tmp 25) = .bool q23 := hv
  have d31 := d31.trans d30
  clear hv hr
  rcases Bool.eq_false_or_eq_true q23 with hq | hq
  ·
   have kn32 := hq
   have c25 := Bq23.symm.trans hq
   clear hq
   have h23_kn32 := h23_31.trans (congrArg Value.bool kn32)
   have h24_kn32 := h24_31.trans (congrArg Value.bool kn32)
   have h25_kn32 := h25_31.trans (congrArg Value.bool kn32)
   refine EngG.tail_off EngI.free_wide rfl (EngG.wanted_off (want := false) rfl rfl rfl (by rw [s31]; decide) h25_kn32) rfl s31 rfl fun act33 d33 s33 hr => ?_
   have h25_33 : act33.eval (.tmp 25) = .bool true := (hr 25 rfl).trans h25_kn32
   have d33 := d33.trans d31
   clear hr
   refine EngG.tail_off EngI.free_wide rfl (EngG.wanted_off (want := false) rfl rfl rfl (by rw [s33]; decide) h25_33) rfl s33 rfl fun act34 d34 s34 hr => ?_
   have h25_34 := (hr 25 rfl).trans h25_33
   have d34 := d34.trans d33
   clear hr
   refine EngG.tail_off EngI.free_wide rfl (EngG.wanted_off (want := false) rfl rfl rfl (by rw [s34]; decide) h25_34) rfl s34 rfl fun act35 d35 s35 hr => ?_
   have h25_35 := (hr 25 rfl).trans h25_34
   have d35 := d35.trans d34
   clear hr
   refine EngI.tail_val EngI.free_wide rfl rfl rfl rfl (Eng.run_pick rfl h25_35 (v := .bool true) (by exact (rfl : act35.eval (.const (.bool true)) = .bool true))) s35 rfl fun act36 d36 s36 hv hr => ?_
   have h29_36 : act36.eval (.tmp 29) = .bool true := hv
   have d36 := d36.trans d35
   clear hv hr
   refine EngI.tail_val EngI.free_wide rfl rfl rfl rfl (Eng.run_move rfl h29_36) s36 rfl fun act37 d37 s37 hv hr => ?_
   have h30_37 : act37.eval (.tmp 30) = .bool true := hv
   have d37 := d37.trans d36
   clear hv hr
   refine EngG.tail_off EngI.free_wide rfl (EngG.wanted_off (want := false) rfl rfl rfl (by rw [s37]; decide) h30_37) rfl s37 rfl fun act38 d38 s38 hr => ?_
   have h30_38 := (hr 30 rfl).trans h30_37
   have d38 := d38.trans d37
   clear hr
   refine EngG.tail_off EngI.free_wide rfl (EngG.wanted_off (want := false) rfl rfl rfl (by rw [s38]; decide) h30_38) rfl s38 rfl fun act39 d39 s39 hr => ?_
   have h30_39 := (hr 30 rfl).trans h30_38
   have d39 := d39.trans d38
   clear hr
   refine EngG.tail_off EngI.free_wide rfl (EngG.wanted_off (want := false) rfl rfl rfl (by rw [s39]; decide) h30_39) rfl s39 rfl fun act40 d40 s40 hr => ?_
   have h30_40 := (hr 30 rfl).trans h30_39
   have d40 := d40.trans d39
   clear hr
   refine EngI.tail_val EngI.free_wide rfl rfl rfl rfl (Eng.run_pick rfl h30_40 (v := .bool true) (by exact (rfl : act40.eval (.const (.bool true)) = .bool true))) s40 rfl fun act41 d41 s41 hv hr => ?_
   have h34_41 : act41.eval (.tmp 34) = .bool true := hv
   have d41 := d41.trans d40
   clear hv hr
   refine EngI.tail_nil ?_
   refine wp_cond_true h34_41 ?_
   refine wp_seq ?_
   refine Eng.regionS (Eng.still [fun u_ => u_ = .bool true]) (fun _ => .plain) 1 0 77 s41 rfl (by kernel_rfl) (Eng.still_stable _) (Or.inr (Eng.still_any _)) ?_ ?_
   ·refine .c ?_ (.nil)
    ·exact Eng.pv fun a w' H => Eng.vr rfl (Eng.run_assign rfl (rfl : a.eval (.const (.bool true)) = .bool true))
   intro act42 w42 T
   have h4_42 : act42.eval (.tmp 4) = .bool true := T.done 0 4 rfl rfl
   have d42 := T.defers.trans d41
   have bl42 := bl29.trans (T.below.mono bl29.size)
   clear T
   refine Eng.tail_nil ?_
   refine wp_ret ?_
   repeat (first | with_reducible refine Eng.in_ret ?_ | with_reducible refine Eng.then_ret ?_)
   exact Eng.ret1 rfl d42 h4_42 ⟨rfl, bl42⟩
  ·
   have kn43 := hq
   have c25 := Bq23.symm.trans hq
   clear hq
   have h23_kn43 := h23_31.trans (congrArg Value.bool kn43)
   have h24_kn43 := h24_31.trans (congrArg Value.bool kn43)
   have h25_kn43 := h25_31.trans (congrArg Value.bool kn43)
   have lb_ := Evt.light_all (by simpa using c25)
   refine EngG.tail_val EngI.free_wide rfl (EngG.wanted_on (want := false) rfl rfl rfl (by rw [s31]; decide) h25_kn43) rfl rfl (Eng.run_move rfl h5_31) s31 rfl fun act44 d44 s44 hv hr => ?_
   have h0_44 := (hr 0 rfl).trans h0_31
   have h5_44 := (hr 5 rfl).trans h5_31
   have h6_44 := (hr 6 rfl).trans h6_31
   have h25_44 : act44.eval (.tmp 25) = .bool false := (hr 25 rfl).trans h25_kn43
   have h26_44 : act44.eval (.tmp 26) = v_4 := hv
   have d44 := d44.trans d31
   clear hv hr
   obtain ⟨q27, Bq27⟩ : ∃ b : Bool, b = (Evt.rightG Evt.rightE xa) := ⟨_, rfl⟩
   refine EngG.tail_call EngI.free_wide Tryd.func17 (by kernel_rfl) (by kernel_rfl) rfl (EngG.wanted_on (want := false) rfl rfl rfl (by rw [s44]; decide) h25_44) rfl rfl #[v_4] (by have e0 : act44.eval (.tmp 26) = v_4 := h26_44; simp only [List.map_toArray, List.map_cons, List.map_nil, e0]) s44 rfl (R := fun v w_ => v = .bool (Evt.rightG Evt.rightE xa) ∧ Below w29.heap.size w29 w_) ((Evt.Right_calls v_4 xa _ (Tabs.below (Tabs.below hT bl29) (Below.refl _ _)) Fx_29 (fun k hk => Nat.le_trans (la_.text k hk) (by decide)) (Nat.le_trans la_.1 (by decide))).mono ?_) fun v_45 w45 act45 R d45 s45 hv hr => ?_
   ·rintro e w_ ⟨rfl, hb⟩; exact ⟨_, rfl, rfl, hb⟩
   obtain ⟨ev_45, b_45⟩ := R
   have h0_45 := (hr 0 rfl).trans h0_44
   have h5_45 := (hr 5 rfl).trans h5_44
   have h6_45 := (hr 6 rfl).trans h6_44
   have h25_45 := (hr 25 rfl).trans h25_44
   have h27_45 : act45.eval (.tmp 27) = .bool q27 := (hv.trans ev_45).trans (congrArg Value.bool Bq27.symm)
   have d45 := d45.trans d44
   clear hv hr
   have Fla_45 := Eng.Reads.below Fla_29 b_45
   have Fx_45 := Eng.Reads.below Fx_29 b_45
   have Fy_45 := Eng.Reads.below Fy_29 b_45
   have bl45 := bl29.trans (b_45.mono bl29.size)
   refine EngG.tail_val EngI.free_wide rfl (EngG.wanted_on (want := false) rfl rfl rfl (by rw [s45]; decide) h25_45) rfl rfl (Eng.run_not rfl h27_45) s45 rfl fun act46 d46 s46 hv hr => ?_
   have h0_46 := (hr 0 rfl).trans h0_45
   have h5_46 := (hr 5 rfl).trans h5_45
   have h6_46 := (hr 6 rfl).trans h6_45
   have h25_46 := (hr 25 rfl).trans h25_45
   have h28_46 : act46.eval (.tmp 28) = .bool (!q27) := hv
   have d46 := d46.trans d45
   clear hv hr
   refine EngI.tail_val EngI.free_wide rfl rfl rfl rfl (Eng.run_pick rfl h25_46 (v := .bool (!q27)) (by exact h28_46)) s46 rfl fun act47 d47 s47 hv hr => ?_
   have h0_47 := (hr 0 rfl).trans h0_46
   have h5_47 := (hr 5 rfl).trans h5_46
   have h6_47 := (hr 6 rfl).trans h6_46
   have h28_47 := (hr 28 rfl).trans h28_46
   have h29_47 : act47.eval (.tmp 29) = .bool (!q27) := hv
   have d47 := d47.trans d46
   clear hv hr
   refine EngI.tail_val EngI.free_wide rfl rfl rfl rfl (Eng.run_move rfl h29_47) s47 rfl fun act48 d48 s48 hv hr => ?_
   have h0_48 := (hr 0 rfl).trans h0_47
   have h5_48 := (hr 5 rfl).trans h5_47
   have h6_48 := (hr 6 rfl).trans h6_47
   have h28_48 := (hr 28 rfl).trans h28_47
   have h29_48 := (hr 29 rfl).trans h29_47
   have h30_48 : act48.eval (.tmp 30) = .bool (!q27) := hv
   have d48 := d48.trans d47
   clear hv hr
   rcases Bool.eq_false_or_eq_true (!q27) with hq | hq
   ·
    have kn49 := hq
    have c30 := hq
    clear hq
    have h28_kn49 := h28_48.trans (congrArg Value.bool kn49)
    have h29_kn49 := h29_48.trans (congrArg Value.bool kn49)
    have h30_kn49 := h30_48.trans (congrArg Value.bool kn49)
    refine EngG.tail_off EngI.free_wide rfl (EngG.wanted_off (want := false) rfl rfl rfl (by rw [s48]; decide) h30_kn49) rfl s48 rfl fun act50 d50 s50 hr => ?_
    have h30_50 : act50.eval (.tmp 30) = .bool true := (hr 30 rfl).trans h30_kn49
    have d50 := d50.trans d48
    clear hr
    refine EngG.tail_off EngI.free_wide rfl (EngG.wanted_off (want := false) rfl rfl rfl (by rw [s50]; decide) h30_50) rfl s50 rfl fun act51 d51 s51 hr => ?_
    have h30_51 := (hr 30 rfl).trans h30_50
    have d51 := d51.trans d50
    clear hr
    refine EngG.tail_off EngI.free_wide rfl (EngG.wanted_off (want := false) rfl rfl rfl (by rw [s51]; decide) h30_51) rfl s51 rfl fun act52 d52 s52 hr => ?_
    have h30_52 := (hr 30 rfl).trans h30_51
    have d52 := d52.trans d51
    clear hr
    refine EngI.tail_val EngI.free_wide rfl rfl rfl rfl (Eng.run_pick rfl h30_52 (v := .bool true) (by exact (rfl : act52.eval (.const (.bool true)) = .bool true))) s52 rfl fun act53 d53 s53 hv hr => ?_
    have h34_53 : act53.eval (.tmp 34) = .bool true := hv
    have d53 := d53.trans d52
    clear hv hr
    refine EngI.tail_nil ?_
    refine wp_cond_true h34_53 ?_
    refine wp_seq ?_
    refine Eng.regionS (Eng.still [fun u_ => u_ = .bool true]) (fun _ => .plain) 1 0 77 s53 rfl (by kernel_rfl) (Eng.still_stable _) (Or.inr (Eng.still_any _)) ?_ ?_
    ·refine .c ?_ (.nil)
     ·exact Eng.pv fun a w' H => Eng.vr rfl (Eng.run_assign rfl (rfl : a.eval (.const (.bool true)) = .bool true))
    intro act54 w54 T
    have h4_54 : act54.eval (.tmp 4) = .bool true := T.done 0 4 rfl rfl
    have d54 := T.defers.trans d53
    have bl54 := bl45.trans (T.below.mono bl45.size)
    clear T
    refine Eng.tail_nil ?_
    refine wp_ret ?_
    repeat (first | with_reducible refine Eng.in_ret ?_ | with_reducible refine Eng.then_ret ?_)
    exact Eng.ret1 rfl d54 h4_54 ⟨rfl, bl54⟩
   ·
    have kn55 := hq
    have c30 := hq
    clear hq
    have h28_kn55 := h28_48.trans (congrArg Value.bool kn55)
    have h29_kn55 := h29_48.trans (congrArg Value.bool kn55)
    have h30_kn55 := h30_48.trans (congrArg Value.bool kn55)
    have ra_ : Evt.rightG Evt.rightE xa = true := by have h1 := c30; rw [Bq27] at h1; simpa using h1
    refine EngG.tail_val EngI.free_wide rfl (EngG.wanted_on (want := false) rfl rfl rfl (by rw [s48]; decide) h30_kn55) rfl rfl (Eng.run_move rfl h6_48) s48 rfl fun act56 d56 s56 hv hr => ?_
    have h0_56 := (hr 0 rfl).trans h0_48
    have h5_56 := (hr 5 rfl).trans h5_48
    have h6_56 := (hr 6 rfl).trans h6_48
    have h30_56 : act56.eval (.tmp 30) = .bool false := (hr 30 rfl).trans h30_kn55
    have h31_56 : act56.eval (.tmp 31) = v_6 := hv
    have d56 := d56.trans d48
    clear hv hr
    obtain ⟨q32, Bq32⟩ : ∃ b : Bool, b = (Evt.rightG Evt.rightE xb) := ⟨_, rfl⟩
    refine EngG.tail_call EngI.free_wide Tryd.func17 (by kernel_rfl) (by kernel_rfl) rfl (EngG.wanted_on (want := false) rfl rfl rfl (by rw [s56]; decide) h30_56) rfl rfl #[v_6] (by have e0 : act56.eval (.tmp 31) = v_6 := h31_56; simp only [List.map_toArray, List.map_cons, List.map_nil, e0]) s56 rfl (R := fun v w_ => v = .bool (Evt.rightG Evt.rightE xb) ∧ Below w45.heap.size w45 w_) ((Evt.Right_calls v_6 xb _ (Tabs.below (Tabs.below hT bl45) (Below.refl _ _)) Fy_45 (fun k hk => Nat.le_trans (lb_.text k hk) (by decide)) (Nat.le_trans lb_.1 (by decide))).mono ?_) fun v_57 w57 act57 R d57 s57 hv hr => ?_
    ·rintro e w_ ⟨rfl, hb⟩; exact ⟨_, rfl, rfl, hb⟩
    obtain ⟨ev_57, b_57⟩ := R
    have h0_57 := (hr 0 rfl).trans h0_56
    have h5_57 := (hr 5 rfl).trans h5_56
    have h6_57 := (hr 6 rfl).trans h6_56
    have h30_57 := (hr 30 rfl).trans h30_56
    have h32_57 : act57.eval (.tmp 32) = .bool q32 := (hv.trans ev_57).trans (congrArg Value.bool Bq32.symm)
    have d57 := d57.trans d56
    clear hv hr
    have Fla_57 := Eng.Reads.below Fla_45 b_57
    have Fx_57 := Eng.Reads.below Fx_45 b_57
    have Fy_57 := Eng.Reads.below Fy_45 b_57
    have bl57 := bl45.trans (b_57.mono bl45.size)
    refine EngG.tail_val EngI.free_wide rfl (EngG.wanted_on (want := false) rfl rfl rfl (by rw [s57]; decide) h30_57) rfl rfl (Eng.run_not rfl h32_57) s57 rfl fun act58 d58 s58 hv hr => ?_
    have h0_58 := (hr 0 rfl).trans h0_57
    have h5_58 := (hr 5 rfl).trans h5_57
    have h6_58 := (hr 6 rfl).trans h6_57
    have h30_58 := (hr 30 rfl).trans h30_57
    have h33_58 : act58.eval (.tmp 33) = .bool (!q32) := hv
    have d58 := d58.trans d57
    clear hv hr
    refine EngI.tail_val EngI.free_wide rfl rfl rfl rfl (Eng.run_pick rfl h30_58 (v := .bool (!q32)) (by exact h33_58)) s58 rfl fun act59 d59 s59 hv hr => ?_
    have h0_59 := (hr 0 rfl).trans h0_58
    have h5_59 := (hr 5 rfl).trans h5_58
    have h6_59 := (hr 6 rfl).trans h6_58
    have h34_59 : act59.eval (.tmp 34) = .bool (!q32) := hv
    have d59 := d59.trans d58
    clear hv hr
    refine EngI.tail_nil ?_
    refine wp_cond_split h34_59 (fun hq => ?_) (fun hq => ?_)
    ·
     have c34 := hq
     clear hq
     refine wp_seq ?_
     refine Eng.regionS (Eng.still [fun u_ => u_ = .bool true]) (fun _ => .plain) 1 0 77 s59 rfl (by kernel_rfl) (Eng.still_stable _) (Or.inr (Eng.still_any _)) ?_ ?_
     ·refine .c ?_ (.nil)
      ·exact Eng.pv fun a w' H => Eng.vr rfl (Eng.run_assign rfl (rfl : a.eval (.const (.bool true)) = .bool true))
     intro act61 w61 T
     have h4_61 : act61.eval (.tmp 4) = .bool true := T.done 0 4 rfl rfl
     have d61 := T.defers.trans d59
     have bl61 := bl57.trans (T.below.mono bl57.size)
     clear T
     refine Eng.tail_nil ?_
     refine wp_ret ?_
     repeat (first | with_reducible refine Eng.in_ret ?_ | with_reducible refine Eng.then_ret ?_)
     exact Eng.ret1 rfl d61 h4_61 ⟨rfl, bl61⟩
    ·
     have c34 := hq
     clear hq
     have rb_ : Evt.rightG Evt.rightE xb = true := by have h1 := c34; rw [Bq32] at h1; simpa using h1
     have lab_ := Evt.Lt.app la_ lb_
     have hA3 : xa.length ≤ 100000 := Nat.le_trans la_.1 (by decide)
     have ha1 := la_.1
     have hb1 := lb_.1
     refine wp_skip ?_
     refine wp_seq ?_
     refine (wpIn_wide (n := 1)).1 ?_
     refine EngI.regionT (n := 7) rfl ?_
     refine EngI.tail_val EngI.free_wide rfl rfl rfl rfl (Eng.run_move rfl h5_59) s59 rfl fun act63 d63 s63 hv hr => ?_
     have h0_63 := (hr 0 rfl).trans h0_59
     have h6_63 := (hr 6 rfl).trans h6_59
     have h36_63 : act63.eval (.tmp 36) = v_4 := hv
     have d63 := d63.trans d59
     clear hv hr
     refine EngI.tail_call EngI.free_wide Tryd.func12 (by kernel_rfl) (by kernel_rfl) rfl rfl rfl rfl #[v_4] (by have e0 : act63.eval (.tmp 36) = v_4 := h36_63; simp only [List.map_toArray, List.map_cons, List.map_nil, e0]) s63 rfl (R := fun v w' => ∃ outv fin, v = .tuple #[outv, .int .i64 (Dc.graphsF xa).2] ∧ List.map (·.1) fin = (Dc.graphsF xa).1 ∧ w'.ownsRow w57.heap.size 48 1 outv fin.length (List.map (·.2) fin) ∧ (∀ f ∈ fin, Dc.Fin w57 w' f (fun _ => False)) ∧ Below w57.heap.size w57 w') ((Dc.Graphs_calls v_4 xa _ (Tabs.below hT bl57) Fx_57 (Nat.le_trans la_.1 (by decide)) la_.text la_.anchor (la_.tw (by decide))).mono ?_) fun v_64 w64 act64 R d64 s64 hv hr => ?_
     ·rintro e w1 ⟨o1, f1, rfl, r1⟩; exact ⟨_, rfl, o1, f1, rfl, r1⟩
     have h0_64 := (hr 0 rfl).trans h0_63
     have h6_64 := (hr 6 rfl).trans h6_63
     have h37_64 : act64.eval (.tmp 37) = v_64 := hv
     have d64 := d64.trans d63
     clear hv hr
     obtain ⟨outv1, fin1, ev_64, hm1, Oo1, hF1, b_64⟩ := R
     rw [ev_64] at h37_64
     have Fla_64 := Eng.Reads.below Fla_57 b_64
     have Fy_64 := Eng.Reads.below Fy_57 b_64
     have bl64 := bl57.trans (b_64.mono bl57.size)
     have G1_0 := Dc.gsR_fin Oo1 hF1
     have sm1 := Dc.fin_small la_ (by decide) hm1
     clear ev_64 Oo1 hF1
     refine EngI.tail_val EngI.free_wide rfl rfl rfl rfl (Eng.run_move rfl h37_64) s64 rfl fun act65 d65 s65 hv hr => ?_
     have h0_65 := (hr 0 rfl).trans h0_64
     have h6_65 := (hr 6 rfl).trans h6_64
     have h35_65 : act65.eval (.tmp 35) = .tuple #[outv1, .int .i64 ((Dc.graphsF xa).2)] := hv
     have d65 := d65.trans d64
     clear hv hr
     refine EngI.tail_val (w1 := w64) (v := outv1) EngI.free_wide rfl rfl rfl rfl ?_ s65 rfl ?_
     ·have e0 : act65.eval (.tmp 35) = .tuple #[outv1, .int .i64 ((Dc.graphsF xa).2)] := h35_65
      simp only [execOp, resolve, e0]
      go_simp
     intro act66 d66 s66 hv hr
     have h0_66 := (hr 0 rfl).trans h0_65
     have h6_66 := (hr 6 rfl).trans h6_65
     have h35_66 := (hr 35 rfl).trans h35_65
     have h38_66 : act66.eval (.tmp 38) = outv1 := hv
     have d66 := d66.trans d65
     clear hv hr
     refine EngI.tail_val (w1 := w64) (v := .int .i64 ((Dc.graphsF xa).2)) EngI.free_wide rfl rfl rfl rfl ?_ s66 rfl ?_
     ·have e0 : act66.eval (.tmp 35) = .tuple #[outv1, .int .i64 ((Dc.graphsF xa).2)] := h35_66
      simp only [execOp, resolve, e0]
      go_simp
     intro act67 d67 s67 hv hr
     have h0_67 := (hr 0 rfl).trans h0_66
     have h6_67 := (hr 6 rfl).trans h6_66
     have h38_67 := (hr 38 rfl).trans h38_66
     have h39_67 : act67.eval (.tmp 39) = .int .i64 ((Dc.graphsF xa).2) := hv
     have d67 := d67.trans d66
     clear hv hr
     refine EngI.tail_val EngI.free_wide rfl rfl rfl rfl (Eng.run_assign rfl h38_67) s67 rfl fun act68 d68 s68 hv hr => ?_
     have h0_68 := (hr 0 rfl).trans h0_67
     have h6_68 := (hr 6 rfl).trans h6_67
     have h39_68 := (hr 39 rfl).trans h39_67
     have h7_68 : act68.eval (.tmp 7) = outv1 := hv
     have d68 := d68.trans d67
     clear hv hr
     refine EngI.tail_val EngI.free_wide rfl rfl rfl rfl (Eng.run_assign rfl h39_68) s68 rfl fun act69 d69 s69 hv hr => ?_
     have h0_69 := (hr 0 rfl).trans h0_68
     have h6_69 := (hr 6 rfl).trans h6_68
     have h7_69 := (hr 7 rfl).trans h7_68
     have h8_69 : act69.eval (.tmp 8) = .int .i64 ((Dc.graphsF xa).2) := hv
     have d69 := d69.trans d68
     clear hv hr
     refine EngI.tail_nil ?_
     refine wp_seq ?_
     refine (wpIn_wide (n := 1)).1 ?_
     refine EngI.regionT (n := 7) rfl ?_
     refine EngI.tail_val EngI.free_wide rfl rfl rfl rfl (Eng.run_move rfl h6_69) s69 rfl fun act70 d70 s70 hv hr => ?_
     have h0_70 := (hr 0 rfl).trans h0_69
     have h6_70 := (hr 6 rfl).trans h6_69
     have h7_70 := (hr 7 rfl).trans h7_69
     have h8_70 := (hr 8 rfl).trans h8_69
     have h41_70 : act70.eval (.tmp 41) = v_6 := hv
     have d70 := d70.trans d69
     clear hv hr
     refine EngI.tail_call EngI.free_wide Tryd.func12 (by kernel_rfl) (by kernel_rfl) rfl rfl rfl rfl #[v_6] (by have e0 : act70.eval (.tmp 41) = v_6 := h41_70; simp only [List.map_toArray, List.map_cons, List.map_nil, e0]) s70 rfl (R := fun v w' => ∃ outv fin, v = .tuple #[outv, .int .i64 (Dc.graphsF xb).2] ∧ List.map (·.1) fin = (Dc.graphsF xb).1 ∧ w'.ownsRow w64.heap.size 48 1 outv fin.length (List.map (·.2) fin) ∧ (∀ f ∈ fin, Dc.Fin w64 w' f (fun _ => False)) ∧ Below w64.heap.size w64 w') ((Dc.Graphs_calls v_6 xb _ (Tabs.below hT bl64) Fy_64 (Nat.le_trans lb_.1 (by decide)) lb_.text lb_.anchor (lb_.tw (by decide))).mono ?_) fun v_71 w71 act71 R d71 s71 hv hr => ?_
     ·rintro e w1 ⟨o1, f1, rfl, r1⟩; exact ⟨_, rfl, o1, f1, rfl, r1⟩
     have h0_71 := (hr 0 rfl).trans h0_70
     have h6_71 := (hr 6 rfl).trans h6_70
     have h7_71 := (hr 7 rfl).trans h7_70
     have h8_71 := (hr 8 rfl).trans h8_70
     have h42_71 : act71.eval (.tmp 42) = v_71 := hv
     have d71 := d71.trans d70
     clear hv hr
     obtain ⟨outv2, fin2, ev_71, hm2, Oo2, hF2, b_71⟩ := R
     rw [ev_71] at h42_71
     have Fla_71 := Eng.Reads.below Fla_64 b_71
     have Fy_71 := Eng.Reads.below Fy_64 b_71
     have XG1_71 := Dc.GsR.below G1_0 b_71
     have bl71 := bl64.trans (b_71.mono bl64.size)
     have G2_0 := Dc.gsR_fin Oo2 hF2
     have sm2 := Dc.fin_small lb_ (by decide) hm2
     clear ev_71 Oo2 hF2
     have K_71 : Below w71.heap.size w71 w71 := Below.refl _ _
     refine EngI.tail_val EngI.free_wide rfl rfl rfl rfl (Eng.run_move rfl h42_71) s71 rfl fun act72 d72 s72 hv hr => ?_
     have h0_72 := (hr 0 rfl).trans h0_71
     have h6_72 := (hr 6 rfl).trans h6_71
     have h7_72 := (hr 7 rfl).trans h7_71
     have h8_72 := (hr 8 rfl).trans h8_71
     have h40_72 : act72.eval (.tmp 40) = .tuple #[outv2, .int .i64 ((Dc.graphsF xb).2)] := hv
     have d72 := d72.trans d71
     clear hv hr
     refine EngI.tail_val (w1 := w71) (v := outv2) EngI.free_wide rfl rfl rfl rfl ?_ s72 rfl ?_
     ·have e0 : act72.eval (.tmp 40) = .tuple #[outv2, .int .i64 ((Dc.graphsF xb).2)] := h40_72
      simp only [execOp, resolve, e0]
      go_simp
     intro act73 d73 s73 hv hr
     have h0_73 := (hr 0 rfl).trans h0_72
     have h6_73 := (hr 6 rfl).trans h6_72
     have h7_73 := (hr 7 rfl).trans h7_72
     have h8_73 := (hr 8 rfl).trans h8_72
     have h40_73 := (hr 40 rfl).trans h40_72
     have h43_73 : act73.eval (.tmp 43) = outv2 := hv
     have d73 := d73.trans d72
     clear hv hr
     refine EngI.tail_val (w1 := w71) (v := .int .i64 ((Dc.graphsF xb).2)) EngI.free_wide rfl rfl rfl rfl ?_ s73 rfl ?_
     ·have e0 : act73.eval (.tmp 40) = .tuple #[outv2, .int .i64 ((Dc.graphsF xb).2)] := h40_73
      simp only [execOp, resolve, e0]
      go_simp
     intro act74 d74 s74 hv hr
     have h0_74 := (hr 0 rfl).trans h0_73
     have h6_74 := (hr 6 rfl).trans h6_73
     have h7_74 := (hr 7 rfl).trans h7_73
     have h8_74 := (hr 8 rfl).trans h8_73
     have h43_74 := (hr 43 rfl).trans h43_73
     have h44_74 : act74.eval (.tmp 44) = .int .i64 ((Dc.graphsF xb).2) := hv
     have d74 := d74.trans d73
     clear hv hr
     refine EngI.tail_val EngI.free_wide rfl rfl rfl rfl (Eng.run_assign rfl h43_74) s74 rfl fun act75 d75 s75 hv hr => ?_
     have h0_75 := (hr 0 rfl).trans h0_74
     have h6_75 := (hr 6 rfl).trans h6_74
     have h7_75 := (hr 7 rfl).trans h7_74
     have h8_75 := (hr 8 rfl).trans h8_74
     have h44_75 := (hr 44 rfl).trans h44_74
     have h9_75 : act75.eval (.tmp 9) = outv2 := hv
     have d75 := d75.trans d74
     clear hv hr
     refine EngI.tail_val EngI.free_wide rfl rfl rfl rfl (Eng.run_assign rfl h44_75) s75 rfl fun act76 d76 s76 hv hr => ?_
     have h0_76 := (hr 0 rfl).trans h0_75
     have h6_76 := (hr 6 rfl).trans h6_75
     have h7_76 := (hr 7 rfl).trans h7_75
     have h8_76 := (hr 8 rfl).trans h8_75
     have h9_76 := (hr 9 rfl).trans h9_75
     have h10_76 : act76.eval (.tmp 10) = .int .i64 ((Dc.graphsF xb).2) := hv
     have d76 := d76.trans d75
     clear hv hr
     refine EngI.tail_nil ?_
     refine wp_seq ?_
     refine (wpIn_wide (n := 1)).1 ?_
     refine EngI.regionT (n := 10) rfl ?_
     refine EngI.tail_val EngI.free_wide rfl rfl rfl rfl (Eng.run_move rfl h0_76) s76 rfl fun act77 d77 s77 hv hr => ?_
     have h6_77 := (hr 6 rfl).trans h6_76
     have h7_77 := (hr 7 rfl).trans h7_76
     have h8_77 := (hr 8 rfl).trans h8_76
     have h9_77 := (hr 9 rfl).trans h9_76
     have h10_77 := (hr 10 rfl).trans h10_76
     have h46_77 : act77.eval (.tmp 46) = va := hv
     have d77 := d77.trans d76
     clear hv hr
     refine EngI.tail_call EngI.free_wide Tryd.func13 (by kernel_rfl) (by kernel_rfl) rfl rfl rfl rfl #[va] (by have e0 : act77.eval (.tmp 46) = va := h46_77; simp only [List.map_toArray, List.map_cons, List.map_nil, e0]) s77 rfl (R := fun v w' => w'.ownsRow w71.heap.size 30 5 v xa.length (Evt.cells xa) ∧ Below w71.heap.size w71 w') ((Evt.theirs_calls va xa _ Fla_71 hlxa).mono ?_) fun v_78 w78 act78 R d78 s78 hv hr => ?_
     ·rintro e w1 ⟨o, rfl, r⟩; exact ⟨_, rfl, r⟩
     have h6_78 := (hr 6 rfl).trans h6_77
     have h7_78 := (hr 7 rfl).trans h7_77
     have h8_78 := (hr 8 rfl).trans h8_77
     have h9_78 := (hr 9 rfl).trans h9_77
     have h10_78 := (hr 10 rfl).trans h10_77
     have h47_78 : act78.eval (.tmp 47) = v_78 := hv
     have d78 := d78.trans d77
     clear hv hr
     obtain ⟨O_78, b_78⟩ := R
     have Fy_78 := Eng.Reads.below Fy_71 b_78
     have XK_78 := Eng.bl_step K_71 b_78
     have bl78 := bl71.trans (b_78.mono bl71.size)
     have Ot_78 := O_78
     refine EngI.tail_val EngI.free_wide rfl rfl rfl rfl (Eng.run_move rfl h6_78) s78 rfl fun act79 d79 s79 hv hr => ?_
     have h7_79 := (hr 7 rfl).trans h7_78
     have h8_79 := (hr 8 rfl).trans h8_78
     have h9_79 := (hr 9 rfl).trans h9_78
     have h10_79 := (hr 10 rfl).trans h10_78
     have h47_79 := (hr 47 rfl).trans h47_78
     have h48_79 : act79.eval (.tmp 48) = v_6 := hv
     have d79 := d79.trans d78
     clear hv hr
     refine EngI.tail_ex EngI.free_wide rfl rfl rfl rfl (Eng.run_appendI (B := w71.heap.size) (z := .agg #[.int .i64 0, .string ⟨#[]⟩, .string ⟨#[]⟩, .string ⟨#[]⟩, .bool false]) rfl Tryd.underlying37 (by kernel_rfl) rfl rfl h47_79 Ot_78 h48_79 Fy_78 (Evt.cells_one xb) (by omega) b_78.size) s79 rfl fun v_80 w80 act80 R d80 s80 hv hr => ?_
     obtain ⟨O_80, _, _, G_80, _⟩ := R
     have h7_80 := (hr 7 rfl).trans h7_79
     have h8_80 := (hr 8 rfl).trans h8_79
     have h9_80 := (hr 9 rfl).trans h9_79
     have h10_80 := (hr 10 rfl).trans h10_79
     have h49_80 : act80.eval (.tmp 49) = v_80 := hv
     have d80 := d80.trans d79
     clear hv hr
     have bl80 := Eng.bl_grown bl78 Ot_78 bl71.size G_80
     have K_80 := Eng.bl_grown XK_78 Ot_78 K_71.size G_80
     have Oab_80 := Evt.own_app O_80
     have Fab_80 := Eng.Reads.of_own Oab_80
     refine EngI.tail_call EngI.free_wide Tryd.func12 (by kernel_rfl) (by kernel_rfl) rfl rfl rfl rfl #[v_80] (by have e0 : act80.eval (.tmp 49) = v_80 := h49_80; simp only [List.map_toArray, List.map_cons, List.map_nil, e0]) s80 rfl (R := fun v w' => ∃ outv fin, v = .tuple #[outv, .int .i64 (Dc.graphsF (xa ++ xb)).2] ∧ List.map (·.1) fin = (Dc.graphsF (xa ++ xb)).1 ∧ w'.ownsRow w80.heap.size 48 1 outv fin.length (List.map (·.2) fin) ∧ (∀ f ∈ fin, Dc.Fin w80 w' f (fun _ => False)) ∧ Below w80.heap.size w80 w') ((Dc.Graphs_calls v_80 (xa ++ xb) _ (Tabs.below hT bl80) Fab_80 (Nat.le_trans lab_.1 (by decide)) lab_.text lab_.anchor (lab_.tw (by decide))).mono ?_) fun v_81 w81 act81 R d81 s81 hv hr => ?_
     ·rintro e w1 ⟨o1, f1, rfl, r1⟩; exact ⟨_, rfl, o1, f1, rfl, r1⟩
     have h7_81 := (hr 7 rfl).trans h7_80
     have h8_81 := (hr 8 rfl).trans h8_80
     have h9_81 := (hr 9 rfl).trans h9_80
     have h10_81 := (hr 10 rfl).trans h10_80
     have h50_81 : act81.eval (.tmp 50) = v_81 := hv
     have d81 := d81.trans d80
     clear hv hr
     obtain ⟨outv3, fin3, ev_81, hm3, Oo3, hF3, b_81⟩ := R
     rw [ev_81] at h50_81
     have XK_81 := Eng.bl_step K_80 b_81
     have bl81 := bl80.trans (b_81.mono bl80.size)
     have G3_0 := Dc.gsR_fin Oo3 hF3
     have sm3 := Dc.fin_small lab_ (by decide) hm3
     clear ev_81 Oo3 hF3
     refine EngI.tail_val EngI.free_wide rfl rfl rfl rfl (Eng.run_move rfl h50_81) s81 rfl fun act82 d82 s82 hv hr => ?_
     have h7_82 := (hr 7 rfl).trans h7_81
     have h8_82 := (hr 8 rfl).trans h8_81
     have h9_82 := (hr 9 rfl).trans h9_81
     have h10_82 := (hr 10 rfl).trans h10_81
     have h45_82 : act82.eval (.tmp 45) = .tuple #[outv3, .int .i64 ((Dc.graphsF (xa ++ xb)).2)] := hv
     have d82 := d82.trans d81
     clear hv hr
     refine EngI.tail_val (w1 := w81) (v := outv3) EngI.free_wide rfl rfl rfl rfl ?_ s82 rfl ?_
     ·have e0 : act82.eval (.tmp 45) = .tuple #[outv3, .int .i64 ((Dc.graphsF (xa ++ xb)).2)] := h45_82
      simp only [execOp, resolve, e0]
      go_simp
     intro act83 d83 s83 hv hr
     have h7_83 := (hr 7 rfl).trans h7_82
     have h8_83 := (hr 8 rfl).trans h8_82
     have h9_83 := (hr 9 rfl).trans h9_82
     have h10_83 := (hr 10 rfl).trans h10_82
     have h45_83 := (hr 45 rfl).trans h45_82
     have h51_83 : act83.eval (.tmp 51) = outv3 := hv
     have d83 := d83.trans d82
     clear hv hr
     refine EngI.tail_val (w1 := w81) (v := .int .i64 ((Dc.graphsF (xa ++ xb)).2)) EngI.free_wide rfl rfl rfl rfl ?_ s83 rfl ?_
     ·have e0 : act83.eval (.tmp 45) = .tuple #[outv3, .int .i64 ((Dc.graphsF (xa ++ xb)).2)] := h45_83
      simp only [execOp, resolve, e0]
      go_simp
     intro act84 d84 s84 hv hr
     have h7_84 := (hr 7 rfl).trans h7_83
     have h8_84 := (hr 8 rfl).trans h8_83
     have h9_84 := (hr 9 rfl).trans h9_83
     have h10_84 := (hr 10 rfl).trans h10_83
     have h51_84 := (hr 51 rfl).trans h51_83
     have h52_84 : act84.eval (.tmp 52) = .int .i64 ((Dc.graphsF (xa ++ xb)).2) := hv
     have d84 := d84.trans d83
     clear hv hr
     refine EngI.tail_val EngI.free_wide rfl rfl rfl rfl (Eng.run_assign rfl h51_84) s84 rfl fun act85 d85 s85 hv hr => ?_
     have h7_85 := (hr 7 rfl).trans h7_84
     have h8_85 := (hr 8 rfl).trans h8_84
     have h9_85 := (hr 9 rfl).trans h9_84
     have h10_85 := (hr 10 rfl).trans h10_84
     have h52_85 := (hr 52 rfl).trans h52_84
     have h11_85 : act85.eval (.tmp 11) = outv3 := hv
     have d85 := d85.trans d84
     clear hv hr
     refine EngI.tail_val EngI.free_wide rfl rfl rfl rfl (Eng.run_assign rfl h52_85) s85 rfl fun act86 d86 s86 hv hr => ?_
     have h7_86 := (hr 7 rfl).trans h7_85
     have h8_86 := (hr 8 rfl).trans h8_85
     have h9_86 := (hr 9 rfl).trans h9_85
     have h10_86 := (hr 10 rfl).trans h10_85
     have h11_86 := (hr 11 rfl).trans h11_85
     have h12_86 : act86.eval (.tmp 12) = .int .i64 ((Dc.graphsF (xa ++ xb)).2) := hv
     have d86 := d86.trans d85
     clear hv hr
     refine EngI.tail_nil ?_
     refine wp_seq ?_
     refine wp_block ?_
     refine wp_seq ?_
     obtain ⟨q55, Bq55⟩ : ∃ b : Bool, b = (!(((Dc.graphsF xa).2) == 0)) := ⟨_, rfl⟩
     refine Eng.regionS (Eng.still [fun u_ => u_ = .int .i64 ((Dc.graphsF xa).2), fun u_ => u_ = .bool q55, fun u_ => u_ = .bool q55]) (fun _ => .plain) 3 0 77 s86 rfl (by kernel_rfl) (Eng.still_stable _) (Or.inr (Eng.still_any _)) ?_ ?_
     ·refine .c ?_ (.c ?_ (.c ?_ (.nil)))
      ·exact Eng.pv fun a w' H => Eng.vr rfl (Eng.run_move rfl (H.q 8 h8_86))
      ·refine Eng.pv fun a w' H => ?_
       refine Eng.vr (v := .bool (!(((Dc.graphsF xa).2) == 0))) (by show _ = Value.bool q55; rw [Bq55]) ?_
       have e0 : a.eval (.tmp 54) = .int .i64 ((Dc.graphsF xa).2) := (H.d 0 54)
       have e1 : a.eval (.const (.int .i64 0)) = .int .i64 0 := rfl
       simp only [execOp, resolve, e0, e1]
       go_simp
       all_goals first | rfl | (simp; done) | (rw [Bool.eq_iff_iff]; simp; done) | omega | (split <;> first | (simp_all; done) | (split <;> simp_all; done)) | skip
      ·exact Eng.pv fun a w' H => Eng.vr rfl (Eng.run_assign rfl (H.d 1 55))
     intro act87 w87 T
     have h7_87 := T.r 7 h7_86
     have h8_87 := T.r 8 h8_86
     have h9_87 := T.r 9 h9_86
     have h10_87 := T.r 10 h10_86
     have h11_87 := T.r 11 h11_86
     have h12_87 := T.r 12 h12_86
     have h53_87 : act87.eval (.tmp 53) = .bool q55 := T.done 2 53 rfl rfl
     have d87 := T.defers.trans d86
     have s87 := T.size.trans s86
     have bl87 := bl81.trans (T.below.mono bl81.size)
     have XK_87 := Eng.bl_step XK_81 T.below
     have XG3_87 := Dc.GsR.below G3_0 T.below
     clear T
     refine Eng.tail_nil ?_
     refine wp_cond_split h53_87 (fun hq => ?_) (fun hq => ?_)
     ·
      have c53 := Bq55.symm.trans hq
      clear hq
      have hz1 : ¬ (Dc.graphsF xa).2 = 0 := by have h1 := c53; simpa using h1
      have hbad1 := Dc.graphsF_bad ra_ rb_ hA3 hz1
      refine wp_seq ?_
      refine Eng.regionS (Eng.still [fun u_ => u_ = .int .i64 ((Dc.graphsF (xa ++ xb)).2), fun u_ => u_ = .int .i64 ((Dc.graphsF xa).2), fun u_ => u_ = .bool true, fun u_ => u_ = .bool true]) (fun _ => .plain) 4 0 77 s87 rfl (by kernel_rfl) (Eng.still_stable _) (Or.inr (Eng.still_any _)) ?_ ?_
      ·refine .c ?_ (.c ?_ (.c ?_ (.c ?_ (.nil))))
       ·exact Eng.pv fun a w' H => Eng.vr rfl (Eng.run_move rfl (H.q 12 h12_87))
       ·exact Eng.pv fun a w' H => Eng.vr rfl (Eng.run_move rfl (H.q 8 h8_87))
       ·refine Eng.pv fun a w' H => ?_
        refine Eng.vr (v := .bool (((Dc.graphsF (xa ++ xb)).2) == ((Dc.graphsF xa).2))) (by show _ = Value.bool true; rw [show (((Dc.graphsF (xa ++ xb)).2) == ((Dc.graphsF xa).2)) = true from (by rw [hbad1, beq_self_eq_true])]) ?_
        have e0 : a.eval (.tmp 56) = .int .i64 ((Dc.graphsF (xa ++ xb)).2) := (H.d 0 56)
        have e1 : a.eval (.tmp 57) = .int .i64 ((Dc.graphsF xa).2) := (H.d 1 57)
        simp only [execOp, resolve, e0, e1]
        go_simp
       ·exact Eng.pv fun a w' H => Eng.vr rfl (Eng.run_assign rfl (H.d 2 58))
      intro act89 w89 T
      have h4_89 : act89.eval (.tmp 4) = .bool true := T.done 3 4 rfl rfl
      have d89 := T.defers.trans d87
      have bl89 := bl87.trans (T.below.mono bl87.size)
      clear T
      refine Eng.tail_nil ?_
      refine wp_ret ?_
      repeat (first | with_reducible refine Eng.in_ret ?_ | with_reducible refine Eng.then_ret ?_)
      exact Eng.ret1 rfl d89 h4_89 ⟨rfl, bl89⟩
     ·
      have c53 := Bq55.symm.trans hq
      clear hq
      have hz1 : (Dc.graphsF xa).2 = 0 := by have h1 := c53; simpa using h1
      refine wp_seq ?_
      obtain ⟨q61, Bq61⟩ : ∃ b : Bool, b = (!(((Dc.graphsF xb).2) == 0)) := ⟨_, rfl⟩
      refine Eng.regionS (Eng.still [fun u_ => u_ = .int .i64 ((Dc.graphsF xb).2), fun u_ => u_ = .bool q61, fun u_ => u_ = .bool q61]) (fun _ => .plain) 3 0 77 s87 rfl (by kernel_rfl) (Eng.still_stable _) (Or.inr (Eng.still_any _)) ?_ ?_
      ·refine .c ?_ (.c ?_ (.c ?_ (.nil)))
       ·exact Eng.pv fun a w' H => Eng.vr rfl (Eng.run_move rfl (H.q 10 h10_87))
       ·refine Eng.pv fun a w' H => ?_
        refine Eng.vr (v := .bool (!(((Dc.graphsF xb).2) == 0))) (by show _ = Value.bool q61; rw [Bq61]) ?_
        have e0 : a.eval (.tmp 60) = .int .i64 ((Dc.graphsF xb).2) := (H.d 0 60)
        have e1 : a.eval (.const (.int .i64 0)) = .int .i64 0 := rfl
        simp only [execOp, resolve, e0, e1]
        go_simp
        all_goals first | rfl | (simp; done) | (rw [Bool.eq_iff_iff]; simp; done) | omega | (split <;> first | (simp_all; done) | (split <;> simp_all; done)) | skip
       ·exact Eng.pv fun a w' H => Eng.vr rfl (Eng.run_assign rfl (H.d 1 61))
      intro act91 w91 T
      have h7_91 := T.r 7 h7_87
      have h9_91 := T.r 9 h9_87
      have h10_91 := T.r 10 h10_87
      have h11_91 := T.r 11 h11_87
      have h12_91 := T.r 12 h12_87
      have h59_91 : act91.eval (.tmp 59) = .bool q61 := T.done 2 59 rfl rfl
      have d91 := T.defers.trans d87
      have s91 := T.size.trans s87
      have bl91 := bl87.trans (T.below.mono bl87.size)
      have XK_91 := Eng.bl_step XK_87 T.below
      have XG3_91 := Dc.GsR.below XG3_87 T.below
      clear T
      refine Eng.tail_nil ?_
      refine wp_cond_split h59_91 (fun hq => ?_) (fun hq => ?_)
      ·
       have c59 := Bq61.symm.trans hq
       clear hq
       have hz2 : ¬ (Dc.graphsF xb).2 = 0 := by have h1 := c59; simpa using h1
       have hbad2 := Dc.graphsF_bad2 ra_ rb_ hA3 hz1 hz2
       refine wp_seq ?_
       refine Eng.regionS (Eng.still [fun u_ => u_ = .int .i64 ((Dc.graphsF (xa ++ xb)).2), fun u_ => u_ = .int .i64 ((Dc.graphsF xb).2), fun u_ => u_ = .bool true, fun u_ => u_ = .bool true]) (fun _ => .plain) 4 0 77 s91 rfl (by kernel_rfl) (Eng.still_stable _) (Or.inr (Eng.still_any _)) ?_ ?_
       ·refine .c ?_ (.c ?_ (.c ?_ (.c ?_ (.nil))))
        ·exact Eng.pv fun a w' H => Eng.vr rfl (Eng.run_move rfl (H.q 12 h12_91))
        ·exact Eng.pv fun a w' H => Eng.vr rfl (Eng.run_move rfl (H.q 10 h10_91))
        ·refine Eng.pv fun a w' H => ?_
         refine Eng.vr (v := .bool (((Dc.graphsF (xa ++ xb)).2) == ((Dc.graphsF xb).2))) (by show _ = Value.bool true; rw [show (((Dc.graphsF (xa ++ xb)).2) == ((Dc.graphsF xb).2)) = true from (by rw [hbad2, beq_self_eq_true])]) ?_
         have e0 : a.eval (.tmp 62) = .int .i64 ((Dc.graphsF (xa ++ xb)).2) := (H.d 0 62)
         have e1 : a.eval (.tmp 63) = .int .i64 ((Dc.graphsF xb).2) := (H.d 1 63)
         simp only [execOp, resolve, e0, e1]
         go_simp
        ·exact Eng.pv fun a w' H => Eng.vr rfl (Eng.run_assign rfl (H.d 2 64))
       intro act93 w93 T
       have h4_93 : act93.eval (.tmp 4) = .bool true := T.done 3 4 rfl rfl
       have d93 := T.defers.trans d91
       have bl93 := bl91.trans (T.below.mono bl91.size)
       clear T
       refine Eng.tail_nil ?_
       refine wp_ret ?_
       repeat (first | with_reducible refine Eng.in_ret ?_ | with_reducible refine Eng.then_ret ?_)
       exact Eng.ret1 rfl d93 h4_93 ⟨rfl, bl93⟩
      ·
       have c59 := Bq61.symm.trans hq
       clear hq
       have hz2 : (Dc.graphsF xb).2 = 0 := by have h1 := c59; simpa using h1
       have hgood := Dc.graphsF_good ra_ rb_ hA3 hz1 hz2
       refine wp_skip ?_
       refine wp_seq ?_
       refine (wpIn_wide (n := 1)).1 ?_
       refine EngI.regionT (n := 13) rfl ?_
       refine EngI.tail_val EngI.free_wide rfl rfl rfl rfl (Eng.run_move rfl h12_91) s91 rfl fun act95 d95 s95 hv hr => ?_
       have h7_95 := (hr 7 rfl).trans h7_91
       have h9_95 := (hr 9 rfl).trans h9_91
       have h11_95 := (hr 11 rfl).trans h11_91
       have h65_95 : act95.eval (.tmp 65) = .int .i64 ((Dc.graphsF (xa ++ xb)).2) := hv
       have d95 := d95.trans d91
       clear hv hr
       refine EngI.tail_val (w1 := w91) (v := .bool (((Dc.graphsF (xa ++ xb)).2) == 0)) EngI.free_wide rfl rfl rfl rfl ?_ s95 rfl ?_
       ·have e0 : act95.eval (.tmp 65) = .int .i64 ((Dc.graphsF (xa ++ xb)).2) := h65_95
        have e1 : act95.eval (.const (.int .i64 0)) = .int .i64 0 := rfl
        simp only [execOp, resolve, e0, e1]
        go_simp
       intro act96 d96 s96 hv hr
       have h7_96 := (hr 7 rfl).trans h7_95
       have h9_96 := (hr 9 rfl).trans h9_95
       have h11_96 := (hr 11 rfl).trans h11_95
       have h66_96 : act96.eval (.tmp 66) = .bool true := hv.trans (congrArg Value.bool ((by rw [hgood]; rfl) : _ = true))
       have d96 := d96.trans d95
       clear hv hr
       refine EngI.tail_val EngI.free_wide rfl rfl rfl rfl (Eng.run_move rfl h66_96) s96 rfl fun act97 d97 s97 hv hr => ?_
       have h7_97 := (hr 7 rfl).trans h7_96
       have h9_97 := (hr 9 rfl).trans h9_96
       have h11_97 := (hr 11 rfl).trans h11_96
       have h67_97 : act97.eval (.tmp 67) = .bool true := hv
       have d97 := d97.trans d96
       clear hv hr
       refine EngG.tail_val EngI.free_wide rfl (EngG.wanted_on (want := true) rfl rfl rfl (by rw [s97]; decide) h67_97) rfl rfl (Eng.run_move rfl h11_97) s97 rfl fun act98 d98 s98 hv hr => ?_
       have h7_98 := (hr 7 rfl).trans h7_97
       have h9_98 := (hr 9 rfl).trans h9_97
       have h67_98 := (hr 67 rfl).trans h67_97
       have h68_98 : act98.eval (.tmp 68) = outv3 := hv
       have d98 := d98.trans d97
       clear hv hr
       refine EngG.tail_call EngI.free_wide Tryd.func16 (by kernel_rfl) (by kernel_rfl) rfl (EngG.wanted_on (want := true) rfl rfl rfl (by rw [s98]; decide) h67_98) rfl rfl #[outv3] (by have e0 : act98.eval (.tmp 68) = outv3 := h68_98; simp only [List.map_toArray, List.map_cons, List.map_nil, e0]) s98 rfl (R := fun v w' => ∃ hs, List.map (·.1) hs = List.map (·.1) fin3 ∧ w'.ownsRow w91.heap.size 51 1 v hs.length (List.map (·.2) hs) ∧ Dc.GsO w91.heap.size w' hs ∧ Below w91.heap.size w91 w') ((Dc.ours9_calls outv3 fin3 _ XG3_91 sm3.1 sm3.2).mono ?_) fun v_99 w99 act99 R d99 s99 hv hr => ?_
       ·rintro e w1 ⟨o, hs, rfl, r⟩; exact ⟨_, rfl, hs, r⟩
       have h7_99 := (hr 7 rfl).trans h7_98
       have h9_99 := (hr 9 rfl).trans h9_98
       have h67_99 := (hr 67 rfl).trans h67_98
       have h69_99 : act99.eval (.tmp 69) = v_99 := hv
       have d99 := d99.trans d98
       clear hv hr
       obtain ⟨hs1, he1, O_99, Q_99, b_99⟩ := R
       have XK_99 := Eng.bl_step XK_91 b_99
       have bl99 := bl91.trans (b_99.mono bl91.size)
       have G4_0 := Dc.GsO.reads Q_99 O_99
       have K2_0 : Below w99.heap.size w99 w99 := Below.refl _ _
       clear Q_99 O_99
       refine EngG.tail_val EngI.free_wide rfl (EngG.wanted_on (want := true) rfl rfl rfl (by rw [s99]; decide) h67_99) rfl rfl (Eng.run_move rfl h7_99) s99 rfl fun act100 d100 s100 hv hr => ?_
       have h9_100 := (hr 9 rfl).trans h9_99
       have h67_100 := (hr 67 rfl).trans h67_99
       have h69_100 := (hr 69 rfl).trans h69_99
       have h70_100 : act100.eval (.tmp 70) = outv1 := hv
       have d100 := d100.trans d99
       clear hv hr
       refine EngG.tail_call EngI.free_wide Tryd.func16 (by kernel_rfl) (by kernel_rfl) rfl (EngG.wanted_on (want := true) rfl rfl rfl (by rw [s100]; decide) h67_100) rfl rfl #[outv1] (by have e0 : act100.eval (.tmp 70) = outv1 := h70_100; simp only [List.map_toArray, List.map_cons, List.map_nil, e0]) s100 rfl (R := fun v w' => ∃ hs, List.map (·.1) hs = List.map (·.1) fin1 ∧ w'.ownsRow w99.heap.size 51 1 v hs.length (List.map (·.2) hs) ∧ Dc.GsO w99.heap.size w' hs ∧ Below w99.heap.size w99 w') ((Dc.ours9_calls outv1 fin1 _ (Dc.GsR.below XG1_71 XK_99) sm1.1 sm1.2).mono ?_) fun v_101 w101 act101 R d101 s101 hv hr => ?_
       ·rintro e w1 ⟨o, hs, rfl, r⟩; exact ⟨_, rfl, hs, r⟩
       have h9_101 := (hr 9 rfl).trans h9_100
       have h67_101 := (hr 67 rfl).trans h67_100
       have h69_101 := (hr 69 rfl).trans h69_100
       have h71_101 : act101.eval (.tmp 71) = v_101 := hv
       have d101 := d101.trans d100
       clear hv hr
       obtain ⟨hs2, he2, O_101, Q_101, b_101⟩ := R
       have XK_101 := Eng.bl_step XK_99 b_101
       have XK2_101 := Eng.bl_step K2_0 b_101
       have bl101 := bl99.trans (b_101.mono bl99.size)
       refine EngG.tail_val EngI.free_wide rfl (EngG.wanted_on (want := true) rfl rfl rfl (by rw [s101]; decide) h67_101) rfl rfl (Eng.run_move rfl h9_101) s101 rfl fun act102 d102 s102 hv hr => ?_
       have h67_102 := (hr 67 rfl).trans h67_101
       have h69_102 := (hr 69 rfl).trans h69_101
       have h71_102 := (hr 71 rfl).trans h71_101
       have h72_102 : act102.eval (.tmp 72) = outv2 := hv
       have d102 := d102.trans d101
       clear hv hr
       refine EngG.tail_call EngI.free_wide Tryd.func16 (by kernel_rfl) (by kernel_rfl) rfl (EngG.wanted_on (want := true) rfl rfl rfl (by rw [s102]; decide) h67_102) rfl rfl #[outv2] (by have e0 : act102.eval (.tmp 72) = outv2 := h72_102; simp only [List.map_toArray, List.map_cons, List.map_nil, e0]) s102 rfl (R := fun v w' => ∃ hs, List.map (·.1) hs = List.map (·.1) fin2 ∧ w'.ownsRow w101.heap.size 51 1 v hs.length (List.map (·.2) hs) ∧ Dc.GsO w101.heap.size w' hs ∧ Below w101.heap.size w101 w') ((Dc.ours9_calls outv2 fin2 _ (Dc.GsR.below G2_0 XK_101) sm2.1 sm2.2).mono ?_) fun v_103 w103 act103 R d103 s103 hv hr => ?_
       ·rintro e w1 ⟨o, hs, rfl, r⟩; exact ⟨_, rfl, hs, r⟩
       have h67_103 := (hr 67 rfl).trans h67_102
       have h69_103 := (hr 69 rfl).trans h69_102
       have h71_103 := (hr 71 rfl).trans h71_102
       have h73_103 : act103.eval (.tmp 73) = v_103 := hv
       have d103 := d103.trans d102
       clear hv hr
       obtain ⟨hs3, he3, O_103, Q_103, b_103⟩ := R
       have Oo2_103 := Eng.own_below O_101 b_103
       have XK2_103 := Eng.bl_step XK2_101 b_103
       have XQ2_103 := Dc.GsO.below Q_101 b_103
       have bl103 := bl101.trans (b_103.mono bl101.size)
       have Fo_103 := Eng.Reads.of_own O_103
       have hl2 := Dc.eqG_len he2
       have hl3 := Dc.eqG_len he3
       have hq1 := sm1.1
       have hq2 := sm2.1
       refine EngG.tail_ex EngI.free_wide rfl (EngG.wanted_on (want := true) rfl rfl rfl (by rw [s103]; decide) h67_103) rfl rfl (Eng.run_appendI (B := w99.heap.size) (z := .slice none 0 0) rfl Tryd.underlying39 (by kernel_rfl) rfl rfl h71_103 Oo2_103 h73_103 Fo_103 (Dc.GsO.one Q_103) (by omega) (Nat.le_trans b_101.size b_103.size)) s103 rfl fun v_104 w104 act104 R d104 s104 hv hr => ?_
       obtain ⟨O_104, _, _, G_104, _⟩ := R
       have h67_104 := (hr 67 rfl).trans h67_103
       have h69_104 := (hr 69 rfl).trans h69_103
       have h74_104 : act104.eval (.tmp 74) = v_104 := hv
       have d104 := d104.trans d103
       clear hv hr
       have bl104 := Eng.bl_grown bl103 Oo2_103 bl99.size G_104
       have K2_104 := Eng.bl_grown XK2_103 Oo2_103 K2_0.size G_104
       have G4_104 := Dc.GsR.below G4_0 K2_104
       have Q2_104 := Dc.GsO.grown XQ2_103 G_104 Oo2_103 rfl rfl
       have Q3_104 := Dc.GsO.grown Q_103 G_104 Oo2_103 rfl rfl
       have Gab_104 := Dc.gsR_app (Eng.Reads.of_own (Dc.own_appG O_104)) (fun f hf => (Q2_104 f hf).reads) (fun f hf => (Q3_104 f hf).reads)
       have hall := Dc.eqG_app (by rw [hm3, hgood]) hm1 hm2 he2 he3
       refine EngG.tail_call EngI.free_wide Tryd.func15 (by kernel_rfl) (by kernel_rfl) rfl (EngG.wanted_on (want := true) rfl rfl rfl (by rw [s104]; decide) h67_104) rfl rfl #[v_99, v_104] (by have e0 : act104.eval (.tmp 69) = v_99 := h69_104; have e1 : act104.eval (.tmp 74) = v_104 := h74_104; simp only [List.map_toArray, List.map_cons, List.map_nil, e0, e1]) s104 rfl (R := fun v w_ => v = .bool true ∧ Below w104.heap.size w104 w_) ((Dc.equal9_calls _ _ hs1 (hs2 ++ hs3) _ G4_104 Gab_104 (he1.trans hall)).mono ?_) fun v_105 w105 act105 R d105 s105 hv hr => ?_
       ·rintro e w_ ⟨rfl, hb⟩; exact ⟨_, rfl, rfl, hb⟩
       obtain ⟨ev_105, b_105⟩ := R
       have h67_105 := (hr 67 rfl).trans h67_104
       have h75_105 : act105.eval (.tmp 75) = .bool true := (hv.trans ev_105)
       have d105 := d105.trans d104
       clear hv hr
       have bl105 := bl104.trans (b_105.mono bl104.size)
       refine EngI.tail_val EngI.free_wide rfl rfl rfl rfl (Eng.run_pick rfl h67_105 (v := .bool true) (by exact h75_105)) s105 rfl fun act106 d106 s106 hv hr => ?_
       have h76_106 : act106.eval (.tmp 76) = .bool true := hv
       have d106 := d106.trans d105
       clear hv hr
       refine EngI.tail_val EngI.free_wide rfl rfl rfl rfl (Eng.run_assign rfl h76_106) s106 rfl fun act107 d107 s107 hv hr => ?_
       have h4_107 : act107.eval (.tmp 4) = .bool true := hv
       have d107 := d107.trans d106
       clear hv hr
       refine EngI.tail_nil ?_
       refine wp_ret ?_
       repeat (first | with_reducible refine Eng.in_ret ?_ | with_reducible refine Eng.then_ret ?_)
       exact Eng.ret1 rfl d107 h4_107 ⟨rfl, bl105⟩
end Go.Proofs.YtgnmjaacnmkgnaaDoor.X
